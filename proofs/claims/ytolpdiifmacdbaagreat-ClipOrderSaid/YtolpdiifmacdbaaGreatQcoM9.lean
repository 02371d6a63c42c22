import Derived.Test.YtolpdiifmacdbaaGreatQcoM8
import Derived.Test.YtolpdiifmacdbaaGreatQcoM7
import Derived.Test.YtolpdiifmacdbaaGreatQcoM6
/- Sums as whole numbers of many bits: plain numbers alone. -/
set_option linter.unusedVariables false
set_option linter.unusedSimpArgs false
namespace Go.Proofs.YtolpdiifmacdbaaGreat.Round
open Go.RowKit Go.Proofs.YtolpdiifmacdbaaGreat.P Go.Proofs.YtolpdiifmacdbaaGreat.Num Go.Proofs.YtolpdiifmacdbaaGreat.BitsF Go.Proofs.YtolpdiifmacdbaaGreat.Fmt Go.Proofs.YtolpdiifmacdbaaGreatW.PrintWords Go.Proofs.YtolpdiifmacdbaaGreatW.PrintLast Go.Proofs.YtolpdiifmacdbaaGreatW.PrintMore

def iB (n1 : Bool) (X : Nat) (n2 : Bool) (Y : Nat) : Bool × Nat := if n1 = n2 then (n1, X + Y) else if X < Y then (n2, Y - X) else (n1, X - Y)
theorem meet_add (f mode : Int) (n : Bool) (Ea Eb m : Int) (A B : Nat) (hm : m ≤ Eb) (h : Eb ≤ Ea) (a1 : 2305843009213693952 ≤ A) :
    (A * 2 ^ (Ea - m).toNat + B * 2 ^ (Eb - m).toNat ≠ 0) ∧ ¬ ((gB n Ea A n Eb B).2.2 = (0, false)) ∧ (gB n Ea A n Eb B).1 = n ∧
    gD f mode n (gB n Ea A n Eb B).2.1 (gB n Ea A n Eb B).2.2.1 (gB n Ea A n Eb B).2.2.2 = gD f mode n m (A * 2 ^ (Ea - m).toNat + B * 2 ^ (Eb - m).toNat) false ∧
    kY f mode n (gB n Ea A n Eb B).2.1 (gB n Ea A n Eb B).2.2.1 (gB n Ea A n Eb B).2.2.2 = kY f mode n m (A * 2 ^ (Ea - m).toNat + B * 2 ^ (Eb - m).toNat) false := by
  have hb := dS f
  have hp : 2 ^ (fm f + 1) ≤ 2 ^ 24 := Nat.pow_le_pow_right (by decide) (by omega)
  have hr : gB n Ea A n Eb B = (n, Ea, A + B / 2 ^ (Ea - Eb).toNat, decide (B % 2 ^ (Ea - Eb).toNat ≠ 0)) := by unfold gB; rw [if_pos rfl]
  have hs := qI m Eb Ea hm h
  rw [hr]
  dsimp only
  have hd : 0 < 2 ^ (Ea - Eb).toNat := Nat.two_pow_pos _
  have hu : 0 < 2 ^ (Eb - m).toNat := Nat.two_pow_pos _
  have hdm := Nat.div_add_mod B (2 ^ (Ea - Eb).toNat)
  have ht := Nat.mod_lt B hd
  obtain ⟨q, hq⟩ : ∃ q, B / 2 ^ (Ea - Eb).toNat = q := ⟨_, rfl⟩
  obtain ⟨t, htt⟩ : ∃ t, B % 2 ^ (Ea - Eb).toNat = t := ⟨_, rfl⟩
  rw [hq, htt] at hdm ⊢
  rw [htt] at ht
  have e : A * 2 ^ (Ea - m).toNat + B * 2 ^ (Eb - m).toNat = ((A + q) * 2 ^ (Ea - Eb).toNat + t) * 2 ^ (Eb - m).toNat := by
    rw [hs, ← Nat.mul_assoc, ← Nat.add_mul, Nat.add_mul A, Nat.add_assoc, Nat.mul_comm q, hdm]
  obtain ⟨p1, p2⟩ := lQ f mode n m ((A + q) * 2 ^ (Ea - Eb).toNat + t) (Eb - m).toNat
  obtain ⟨q1, q2⟩ := kZ f mode n Eb (A + q) t (Ea - Eb).toNat false ht (by omega)
  rw [show m + ((Eb - m).toNat : Int) = Eb by omega] at p1 p2
  rw [show Eb + ((Ea - Eb).toNat : Int) = Ea by omega, Bool.false_or] at q1 q2
  refine ⟨?_, fun z => ?_, rfl, ?_, ?_⟩
  · have := Nat.mul_le_mul a1 (Nat.two_pow_pos (Ea - m).toNat); omega
  · have := (Prod.mk.inj z).1; omega
  · rw [e, p1, q1]
  · rw [e, p2, q2]
theorem aBl (f mode : Int) (n n' : Bool) (hn : n ≠ n') (Ea Eb m : Int) (A B : Nat) (hm : m ≤ Eb) (h : Eb ≤ Ea) (_ : Ea = Eb → B ≤ A) (a1 : 2305843009213693952 ≤ A) (b2 : B < 4611686018427387904) (b4 : B % 4 = 0) :
    (A * 2 ^ (Ea - m).toNat - B * 2 ^ (Eb - m).toNat = 0 ↔ (gB n Ea A n' Eb B).2.2 = (0, false)) ∧ (gB n Ea A n' Eb B).1 = n ∧
    (A * 2 ^ (Ea - m).toNat - B * 2 ^ (Eb - m).toNat ≠ 0 → gD f mode n (gB n Ea A n' Eb B).2.1 (gB n Ea A n' Eb B).2.2.1 (gB n Ea A n' Eb B).2.2.2 = gD f mode n m (A * 2 ^ (Ea - m).toNat - B * 2 ^ (Eb - m).toNat) false ∧
    kY f mode n (gB n Ea A n' Eb B).2.1 (gB n Ea A n' Eb B).2.2.1 (gB n Ea A n' Eb B).2.2.2 = kY f mode n m (A * 2 ^ (Ea - m).toNat - B * 2 ^ (Eb - m).toNat) false) := by
  have hb := dS f
  have hp : 2 ^ (fm f + 1) ≤ 2 ^ 24 := Nat.pow_le_pow_right (by decide) (by omega)
  have hr : gB n Ea A n' Eb B = (n, Ea, A - B / 2 ^ (Ea - Eb).toNat - (if B % 2 ^ (Ea - Eb).toNat ≠ 0 then 1 else 0), decide (B % 2 ^ (Ea - Eb).toNat ≠ 0)) := by unfold gB; rw [if_neg hn]
  have hs := qI m Eb Ea hm h
  rw [hr]
  dsimp only
  have hd : 0 < 2 ^ (Ea - Eb).toNat := Nat.two_pow_pos _
  have hu : 0 < 2 ^ (Eb - m).toNat := Nat.two_pow_pos _
  have hdm := Nat.div_add_mod B (2 ^ (Ea - Eb).toNat)
  have ht := Nat.mod_lt B hd
  have hX : A * 2 ^ (Ea - m).toNat - B * 2 ^ (Eb - m).toNat = (A * 2 ^ (Ea - Eb).toNat - B) * 2 ^ (Eb - m).toNat := by rw [hs, ← Nat.mul_assoc, ← Nat.sub_mul]
  by_cases t0 : B % 2 ^ (Ea - Eb).toNat = 0
  · rw [if_neg (show ¬ (B % 2 ^ (Ea - Eb).toNat ≠ 0) by omega), decide_eq_false (show ¬ (B % 2 ^ (Ea - Eb).toNat ≠ 0) by omega), Nat.sub_zero]
    have e : A * 2 ^ (Ea - m).toNat - B * 2 ^ (Eb - m).toNat = (A - B / 2 ^ (Ea - Eb).toNat) * 2 ^ (Ea - m).toNat := by
      rw [hX, hs, ← Nat.mul_assoc, Nat.sub_mul A]
      congr 2
      rw [t0, Nat.add_zero, Nat.mul_comm] at hdm
      exact hdm.symm
    obtain ⟨p1, p2⟩ := lQ f mode n m (A - B / 2 ^ (Ea - Eb).toNat) (Ea - m).toNat
    rw [show m + ((Ea - m).toNat : Int) = Ea by omega] at p1 p2
    rw [e]
    have hw : 0 < 2 ^ (Ea - m).toNat := Nat.two_pow_pos _
    refine ⟨⟨fun z => ?_, fun z => ?_⟩, rfl, fun _ => ⟨p1.symm, p2.symm⟩⟩
    · rcases Nat.mul_eq_zero.mp z with z | z
      · rw [z]
      · omega
    · rw [(Prod.mk.inj z).1, Nat.zero_mul]
  · rw [if_pos t0, decide_eq_true (show B % 2 ^ (Ea - Eb).toNat ≠ 0 from t0)]
    have h3 : 3 ≤ (Ea - Eb).toNat := by
      rcases Nat.lt_or_ge (Ea - Eb).toNat 3 with c | c
      · exfalso
        have : (Ea - Eb).toNat = 0 ∨ (Ea - Eb).toNat = 1 ∨ (Ea - Eb).toNat = 2 := by omega
        rcases this with c | c | c <;> rw [c] at t0 <;> simp at t0 <;> omega
      · exact c
    have h8 : 2 ^ 3 ≤ 2 ^ (Ea - Eb).toNat := Nat.pow_le_pow_right (by decide) h3
    have hq : B / 2 ^ (Ea - Eb).toNat ≤ B / 2 ^ 3 := Nat.div_le_div_left h8 (by decide)
    have e : A * 2 ^ (Ea - m).toNat - B * 2 ^ (Eb - m).toNat = ((A - B / 2 ^ (Ea - Eb).toNat - 1) * 2 ^ (Ea - Eb).toNat + (2 ^ (Ea - Eb).toNat - B % 2 ^ (Ea - Eb).toNat)) * 2 ^ (Eb - m).toNat := by
      rw [hX]
      congr 1
      generalize 2 ^ (Ea - Eb).toNat = D at *
      generalize hqq : B / D = q at *
      generalize B % D = t at *
      have h1 : (A - q - 1) * D + D = (A - q) * D := by
        rw [← Nat.succ_mul]; congr 1; omega
      have h2 : (A - q) * D = A * D - D * q := by rw [Nat.sub_mul, Nat.mul_comm q]
      have h4 : D * q + D ≤ A * D := by
        rw [← Nat.mul_succ, Nat.mul_comm A]; exact Nat.mul_le_mul_left _ (by omega)
      omega
    have hqb : B / 2 ^ (Ea - Eb).toNat ≤ 576460752303423488 := by omega
    obtain ⟨p1, p2⟩ := lQ f mode n m ((A - B / 2 ^ (Ea - Eb).toNat - 1) * 2 ^ (Ea - Eb).toNat + (2 ^ (Ea - Eb).toNat - B % 2 ^ (Ea - Eb).toNat)) (Eb - m).toNat
    obtain ⟨q1, q2⟩ := kZ f mode n Eb (A - B / 2 ^ (Ea - Eb).toNat - 1) (2 ^ (Ea - Eb).toNat - B % 2 ^ (Ea - Eb).toNat) (Ea - Eb).toNat false (by omega) (by omega)
    rw [show m + ((Eb - m).toNat : Int) = Eb by omega] at p1 p2
    rw [show Eb + ((Ea - Eb).toNat : Int) = Ea by omega, Bool.false_or, decide_eq_true (show 2 ^ (Ea - Eb).toNat - B % 2 ^ (Ea - Eb).toNat ≠ 0 by omega)] at q1 q2
    rw [e]
    refine ⟨⟨fun z => ?_, fun z => ?_⟩, rfl, fun _ => ⟨by rw [p1, q1], by rw [p2, q2]⟩⟩
    · exfalso
      rcases Nat.mul_eq_zero.mp z with z | z <;> omega
    · have := (Prod.mk.inj z).2; cases this
theorem sS (f mode : Int) (n1 : Bool) (e1 : Int) (s1 : Nat) (n2 : Bool) (e2 : Int) (s2 : Nat) (l1 : -298 ≤ e1) (l2 : -298 ≤ e2) (h1 : s1 < 1152921504606846976) (h2 : s2 < 1152921504606846976) :
    gN f mode n1 n2 (kV n1 e1 s1 n2 e2 s2) = (if (iB n1 (s1 * 2 ^ (e1 + 298).toNat) n2 (s2 * 2 ^ (e2 + 298).toNat)).2 = 0 then lW f mode n1 n2 else gD f mode (iB n1 (s1 * 2 ^ (e1 + 298).toNat) n2 (s2 * 2 ^ (e2 + 298).toNat)).1 (-298) (iB n1 (s1 * 2 ^ (e1 + 298).toNat) n2 (s2 * 2 ^ (e2 + 298).toNat)).2 false) ∧
    iE f mode (kV n1 e1 s1 n2 e2 s2) = (if (iB n1 (s1 * 2 ^ (e1 + 298).toNat) n2 (s2 * 2 ^ (e2 + 298).toNat)).2 = 0 then (false, false, false) else kY f mode (iB n1 (s1 * 2 ^ (e1 + 298).toNat) n2 (s2 * 2 ^ (e2 + 298).toNat)).1 (-298) (iB n1 (s1 * 2 ^ (e1 + 298).toNat) n2 (s2 * 2 ^ (e2 + 298).toNat)).2 false) := by
  have one : ∀ (n : Bool) (e : Int) (s : Nat), -298 ≤ e → gD f mode n (-298) (s * 2 ^ (e + 298).toNat) false = gD f mode n e s false ∧ kY f mode n (-298) (s * 2 ^ (e + 298).toNat) false = kY f mode n e s false := fun n e s h => by
    have := lQ f mode n (-298) s (e + 298).toNat
    rwa [show (-298 : Int) + ((e + 298).toNat : Int) = e by omega] at this
  have pos : ∀ (e : Int) (s : Nat), s ≠ 0 → s * 2 ^ (e + 298).toNat ≠ 0 := fun e s h => Nat.mul_ne_zero h (by have := Nat.two_pow_pos (e + 298).toNat; omega)
  unfold kV gN iE
  by_cases z1 : s1 = 0
  · subst z1
    rw [if_pos rfl, Nat.zero_mul]
    by_cases z2 : s2 = 0
    · subst z2
      have hw : (iB n1 0 n2 (0 * 2 ^ (e2 + 298).toNat)).2 = 0 := by unfold iB; rw [Nat.zero_mul]; split <;> rfl
      rw [if_pos rfl, if_pos hw, if_pos rfl, if_pos hw]; exact ⟨rfl, rfl⟩
    · have hw : iB n1 0 n2 (s2 * 2 ^ (e2 + 298).toNat) = (n2, s2 * 2 ^ (e2 + 298).toNat) := by
        unfold iB
        by_cases n : n1 = n2
        · rw [if_pos n, n, Nat.zero_add]
        · rw [if_neg n, if_pos (Nat.pos_of_ne_zero (pos e2 s2 z2)), Nat.sub_zero]
      have hne : ¬ (s2, false) = (0, false) := fun e => z2 (Prod.mk.inj e).1
      rw [hw, if_neg hne, if_neg hne, if_neg (pos e2 s2 z2), if_neg (pos e2 s2 z2)]
      exact ⟨(one n2 e2 s2 l2).1.symm, (one n2 e2 s2 l2).2.symm⟩
  · rw [if_neg z1]
    by_cases z2 : s2 = 0
    · subst z2
      have hw : iB n1 (s1 * 2 ^ (e1 + 298).toNat) n2 (0 * 2 ^ (e2 + 298).toNat) = (n1, s1 * 2 ^ (e1 + 298).toNat) := by
        unfold iB
        rw [Nat.zero_mul]
        by_cases n : n1 = n2
        · rw [if_pos n, Nat.add_zero]
        · rw [if_neg n, if_neg (Nat.not_lt_zero _), Nat.sub_zero]
      have hne : ¬ (s1, false) = (0, false) := fun e => z1 (Prod.mk.inj e).1
      rw [if_pos rfl, hw, if_neg hne, if_neg hne, if_neg (pos e1 s1 z1), if_neg (pos e1 s1 z1)]
      exact ⟨(one n1 e1 s1 l1).1.symm, (one n1 e1 s1 l1).2.symm⟩
    · rw [if_neg z2]
      obtain ⟨a1, a2, a3, a4⟩ := iY s1 z1 (by omega)
      obtain ⟨b1, b2, b3, b4⟩ := iY s2 z2 (by omega)
      have k1 := fZ s1 60 h1
      have k2 := fZ s2 60 h2
      have m1 : s1 * 2 ^ jI s1 % 4 = 0 := by
        rw [show jI s1 = (jI s1 - 2) + 2 by omega, Nat.pow_add, ← Nat.mul_assoc]; exact Nat.mul_mod_left _ _
      have m2 : s2 * 2 ^ jI s2 % 4 = 0 := by
        rw [show jI s2 = (jI s2 - 2) + 2 by omega, Nat.pow_add, ← Nat.mul_assoc]; exact Nat.mul_mod_left _ _
      have up1 : s1 * 2 ^ jI s1 * 2 ^ (e1 - (jI s1 : Int) - (-400)).toNat = s1 * 2 ^ (e1 + 298).toNat * 2 ^ 102 := by
        rw [Nat.mul_assoc, ← Nat.pow_add, Nat.mul_assoc, ← Nat.pow_add]; congr 2; omega
      have up2 : s2 * 2 ^ jI s2 * 2 ^ (e2 - (jI s2 : Int) - (-400)).toNat = s2 * 2 ^ (e2 + 298).toNat * 2 ^ 102 := by
        rw [Nat.mul_assoc, ← Nat.pow_add, Nat.mul_assoc, ← Nat.pow_add]; congr 2; omega
      have E1 : -400 ≤ e1 - (jI s1 : Int) := by omega
      have E2 : -400 ≤ e2 - (jI s2 : Int) := by omega
      have down : ∀ (n : Bool) (W : Nat), gD f mode n (-400) (W * 2 ^ 102) false = gD f mode n (-298) W false ∧ kY f mode n (-400) (W * 2 ^ 102) false = kY f mode n (-298) W false := fun n W => lQ f mode n (-400) W 102
      clear one k1 k2 a1 a2 b1 b2
      have X0 := pos e1 s1 z1
      have Y0 := pos e2 s2 z2
      generalize s1 * 2 ^ (e1 + 298).toNat = X at *
      generalize s2 * 2 ^ (e2 + 298).toNat = Y at *
      generalize e1 - (jI s1 : Int) = F at *
      generalize e2 - (jI s2 : Int) = G at *
      generalize s1 * 2 ^ jI s1 = A at *
      generalize s2 * 2 ^ jI s2 = B at *
      have p102 : 0 < 2 ^ 102 := Nat.two_pow_pos _
      -- two that stand in their order
      have main : ∀ (n n' : Bool) (F G : Int) (A B X Y : Nat), G ≤ F → (F = G → B ≤ A) → -400 ≤ G → 2305843009213693952 ≤ A → B < 4611686018427387904 → B % 4 = 0 → A * 2 ^ (F - (-400)).toNat = X * 2 ^ 102 → B * 2 ^ (G - (-400)).toNat = Y * 2 ^ 102 → X ≠ 0 →
          ∀ (w : Bool × Nat), w = (if n = n' then (n, X + Y) else (n, X - Y)) → ∀ (a b : Bool),
          (if (gB n F A n' G B).2.2 = (0, false) then lW f mode a b else gD f mode (gB n F A n' G B).1 (gB n F A n' G B).2.1 (gB n F A n' G B).2.2.1 (gB n F A n' G B).2.2.2) = (if w.2 = 0 then lW f mode a b else gD f mode w.1 (-298) w.2 false) ∧
          (if (gB n F A n' G B).2.2 = (0, false) then (false, false, false) else kY f mode (gB n F A n' G B).1 (gB n F A n' G B).2.1 (gB n F A n' G B).2.2.1 (gB n F A n' G B).2.2.2) = (if w.2 = 0 then (false, false, false) else kY f mode w.1 (-298) w.2 false) := by
        intro n n' F G A B X Y hGF h0 hG hA hB hB4 hX hY hX0 w hw a b
        by_cases c : n = n'
        · subst c
          rw [if_pos rfl] at hw
          subst hw
          obtain ⟨r1, r2, r3, r4, r5⟩ := meet_add f mode n F G (-400) A B hG hGF hA
          rw [hX, hY, ← Nat.add_mul] at r4 r5
          rw [(down n (X + Y)).1] at r4
          rw [(down n (X + Y)).2] at r5
          rw [if_neg r2, if_neg r2, r3, r4, r5]
          dsimp only
          rw [if_neg (show ¬ X + Y = 0 by omega), if_neg (show ¬ X + Y = 0 by omega)]
          exact ⟨rfl, rfl⟩
        · rw [if_neg c] at hw
          subst hw
          obtain ⟨r1, r2, r3⟩ := aBl f mode n n' c F G (-400) A B hG hGF h0 hA hB hB4
          rw [hX, hY, ← Nat.sub_mul] at r1 r3
          dsimp only
          by_cases z : X - Y = 0
          · rw [if_pos (r1.mp (by rw [z, Nat.zero_mul])), if_pos (r1.mp (by rw [z, Nat.zero_mul])), if_pos z, if_pos z]
            exact ⟨rfl, rfl⟩
          · have z' : (X - Y) * 2 ^ 102 ≠ 0 := Nat.mul_ne_zero z (by omega)
            obtain ⟨r4, r5⟩ := r3 z'
            rw [(down n (X - Y)).1] at r4
            rw [(down n (X - Y)).2] at r5
            rw [if_neg (fun e => z' (r1.mpr e)), if_neg (fun e => z' (r1.mpr e)), if_neg z, if_neg z, r2, r4, r5]
            exact ⟨rfl, rfl⟩
      have ord : ∀ (F G : Int) (A B X Y : Nat), 2305843009213693952 ≤ B → A < 4611686018427387904 → -400 ≤ F → A * 2 ^ (F - (-400)).toNat = X * 2 ^ 102 → B * 2 ^ (G - (-400)).toNat = Y * 2 ^ 102 → (F < G ∨ F = G ∧ A < B) → X < Y := by
        intro F G A B X Y hB hA hF hX hY c
        refine Nat.lt_of_mul_lt_mul_right (a := 2 ^ 102) ?_
        rw [← hX, ← hY]
        rcases c with c | ⟨rfl, c⟩
        · have hs : 2 ^ (G - (-400)).toNat = 2 ^ (G - F).toNat * 2 ^ (F - (-400)).toNat := qI (-400) F G hF (by omega)
          have h2 : 2 ^ 1 ≤ 2 ^ (G - F).toNat := Nat.pow_le_pow_right (by decide) (by omega)
          rw [hs, ← Nat.mul_assoc]
          refine Nat.mul_lt_mul_of_pos_right ?_ (Nat.two_pow_pos _)
          have := Nat.mul_le_mul hB h2
          omega
        · exact Nat.mul_lt_mul_of_pos_right c (Nat.two_pow_pos _)
      by_cases c : F < G ∨ F = G ∧ A < B
      · rw [if_pos c]
        have hlt := ord F G A B X Y b3 a4 E1 up1 up2 c
        have hw : iB n1 X n2 Y = (if n2 = n1 then (n2, Y + X) else (n2, Y - X)) := by
          unfold iB
          by_cases n : n1 = n2
          · rw [if_pos n, if_pos n.symm, n, Nat.add_comm]
          · rw [if_neg n, if_pos hlt, if_neg (show ¬ n2 = n1 from fun e => n e.symm)]
        exact main n2 n1 G F B A Y X (by omega) (by omega) E1 b3 a4 m1 up2 up1 Y0 _ hw n1 n2
      · rw [if_neg c]
        have hle : ¬ X < Y := by
          intro hlt
          by_cases c' : G < F ∨ G = F ∧ B < A
          · have := ord G F B A Y X a3 b4 E2 up2 up1 c'; omega
          · obtain rfl : F = G := by omega
            obtain rfl : A = B := by omega
            have h5 := up1.symm.trans up2
            have := Nat.eq_of_mul_eq_mul_right p102 h5
            omega
        have hw : iB n1 X n2 Y = (if n1 = n2 then (n1, X + Y) else (n1, X - Y)) := by
          unfold iB
          by_cases n : n1 = n2
          · rw [if_pos n, if_pos n]
          · rw [if_neg n, if_neg n, if_neg hle]
        exact main n1 n2 F G A B X Y (by omega) (by omega) E2 a3 b4 m2 up1 up2 X0 _ hw n1 n2
end Go.Proofs.YtolpdiifmacdbaaGreat.Round

/- The reference's loops of layer 1: how many bits, shifts. -/
namespace Go.Proofs.YtolpdiifmacdbaaGreat.BitsF
open Go.RowKit Go.Proofs.YtolpdiifmacdbaaGreat.P Go.Proofs.YtolpdiifmacdbaaGreat.Num Go.Proofs.YtolpdiifmacdbaaGreatW.PrintWords Go.Proofs.YtolpdiifmacdbaaGreatW.PrintLast Go.Proofs.YtolpdiifmacdbaaGreatW.PrintMore

theorem zB (j : Nat) : ∀ v c k : Nat, v < 2 ^ j → c + j ≤ 64 → aR.l0 (j + 1 + k) (v : Int) (c : Int) = some ((c + fT v : Nat) : Int) := by
 induction j with
 |zero =>
  intro v c k h _
  obtain rfl : v = 0 := by rw [Nat.pow_zero] at h; omega
  rw [show 0 + 1 + k = k + 1 by omega, aR.l0, if_neg (by decide)]; rfl
 |succ j ih =>
  intro v c k h hc
  rw [show j + 1 + 1 + k = (j + 1 + k) + 1 by omega, aR.l0]
  by_cases hv : v = 0
  ·subst hv; rw [if_neg (by decide)]; rfl
  ·rw [if_pos (by omega), show (v : Int) / 2 = ((v / 2 : Nat) : Int) by omega, bS _ (by omega) (by omega), show (c : Int) + 1 = ((c + 1 : Nat) : Int) by omega, ih _ _ k (by rw [Nat.pow_succ] at h; omega) (by omega), aBq v hv]
   congr 2; omega
theorem oK (v : Nat) (hv : v < 18446744073709551616) : Ev (fun k => aR.f k (v : Int)) (fT v : Int) :=
 Ev.of (aR.mono _) (k := 65) (by
  have h := zB 64 v 0 0 (by omega) (by decide)
  rw [Nat.zero_add, show 64 + 1 + 0 = 65 from rfl] at h
  unfold aR.f
  exact h)
theorem xW (v j : Nat) : v / 2 / 2 ^ j = v / 2 ^ (j + 1) := by rw [Nat.div_div_eq_div_mul, Nat.pow_succ, Nat.mul_comm 2]
theorem aAw (v j : Nat) : (decide (v % 2 ≠ 0) || decide (v / 2 % 2 ^ j ≠ 0)) = decide (v % 2 ^ (j + 1) ≠ 0) := by
 have e : v % 2 ^ (j + 1) = v % 2 + 2 * (v / 2 % 2 ^ j) := by rw [Nat.pow_succ, Nat.mul_comm, Nat.mod_mul]
 rw [← Bool.decide_or]
 congr 1; apply propext
 have hz : ∀ z : Nat, v / 2 % 2 ^ j = z → (v % 2 ≠ 0 ∨ z ≠ 0 ↔ v % 2 + 2 * z ≠ 0) := by intro z _; omega
 rw [e]; exact hz _ rfl
theorem o5 (j : Nat) : ∀ (v k : Nat) (b : Bool), v < 18446744073709551616 → j ≤ 64 →
  aJ.l1 (j + 1 + k) (v : Int) (-(j : Int)) b = some (((v * 2 ^ j % 18446744073709551616 : Nat) : Int), b || decide (18446744073709551616 ≤ v * 2 ^ j)) := by
 induction j with
 |zero =>
  intro v k b hv _
  rw [show 0 + 1 + k = k + 1 by omega, aJ.l1, if_neg (by decide), Nat.pow_zero, Nat.mul_one, Nat.mod_eq_of_lt hv, decide_eq_false (by omega), Bool.or_false]
 |succ j ih =>
  intro v k b hv hj
  have e1 : wrap64 (-((j + 1 : Nat) : Int) + 1) = -(j : Int) := by rw [bS] <;> omega
  have e2 : IntKind.u64.wrap ((v : Int) * 2) = ((v * 2 % 18446744073709551616 : Nat) : Int) := by rw [show (v : Int) * 2 = ((v * 2 : Nat) : Int) by omega, uK]
  have e3 : (((v : Int) / 9223372036854775808 == 1) : Bool) = decide (9223372036854775808 ≤ v) := by
   by_cases h : 9223372036854775808 ≤ v
   ·rw [decide_eq_true h, beq_iff_eq]; omega
   ·rw [decide_eq_false h, beq_eq_false_iff_ne]; omega
  have e4 : v * 2 % 18446744073709551616 * 2 ^ j % 18446744073709551616 = v * 2 ^ (j + 1) % 18446744073709551616 := by
   rw [Nat.mod_mul_mod, Nat.mul_assoc, ← Nat.pow_succ']
  have e5 : ∀ b : Bool, ((b || decide (9223372036854775808 ≤ v)) || decide (18446744073709551616 ≤ v * 2 % 18446744073709551616 * 2 ^ j)) = (b || decide (18446744073709551616 ≤ v * 2 ^ (j + 1))) := by
   intro b
   rw [Bool.or_assoc, ← Bool.decide_or]
   congr 2
   apply propext
   rw [show v * 2 ^ (j + 1) = v * 2 * 2 ^ j by rw [Nat.mul_assoc, ← Nat.pow_succ']]
   have hp := Nat.two_pow_pos j
   constructor
   ·rintro (h | h)
    ·calc 18446744073709551616 ≤ v * 2 * 1 := by omega
      _ ≤ v * 2 * 2 ^ j := Nat.mul_le_mul_left _ hp
    ·exact Nat.le_trans h (Nat.mul_le_mul_right _ (Nat.mod_le _ _))
   ·intro h
    by_cases h' : 9223372036854775808 ≤ v
    ·exact .inl h'
    ·right; rw [Nat.mod_eq_of_lt (by omega)]; exact h
  rw [show j + 1 + 1 + k = (j + 1 + k) + 1 by omega, aJ.l1, if_pos (by omega), e1, e2, e3]
  by_cases hb : b = true
  ·subst hb
   rw [if_pos rfl, ih _ k true (Nat.mod_lt _ (by decide)) (by omega), e4]
   simp only [Bool.true_or]
  ·rw [if_neg hb, ih _ k _ (Nat.mod_lt _ (by decide)) (by omega), e4]
   have : b = false := by simpa using hb
   subst this
   have := e5 false
   simp only [Bool.false_or] at this ⊢
   rw [this]
theorem vY (j : Nat) : ∀ (v k : Nat) (b : Bool), v < 18446744073709551616 → j ≤ 64 →
  aJ.l0 (j + 2 + k) (v : Int) (j : Int) b = some (((v / 2 ^ j : Nat) : Int), b || decide (v % 2 ^ j ≠ 0)) := by
 induction j with
 |zero =>
  intro v k b hv _
  have h := o5 0 v k b hv (by decide)
  rw [show 0 + 2 + k = (0 + 1 + k) + 1 by omega, aJ.l0, if_neg (by decide), show ((0 : Nat) : Int) = -((0 : Nat) : Int) by rfl, h]
  simp [Nat.mod_one]; omega
 |succ j ih =>
  intro v k b hv hj
  have e1 : wrap64 (((j + 1 : Nat) : Int) - 1) = (j : Int) := by rw [bS] <;> omega
  have e3 : ((Go.bits .and .u64 (v : Int) 1 == 1) : Bool) = decide (v % 2 ≠ 0) := by
   rw [nK v hv]
   by_cases h : v % 2 ≠ 0
   ·rw [decide_eq_true h, beq_iff_eq]; omega
   ·rw [decide_eq_false h, beq_eq_false_iff_ne]; omega
  rw [show j + 1 + 2 + k = (j + 2 + k) + 1 by omega, aJ.l0, if_pos (by omega), e1, e3, show (v : Int) / 2 = ((v / 2 : Nat) : Int) by omega]
  have o := aAw v j
  by_cases hb : b = true
  ·subst hb
   rw [if_pos rfl, ih _ k true (by omega) (by omega), xW]
   simp only [Bool.true_or]
  ·rw [if_neg hb, ih _ k _ (by omega) (by omega), xW, o]
   have : b = false := by simpa using hb
   subst this
   rfl
theorem o6 (v : Nat) (hv : v < 18446744073709551616) (n : Int) :
  Ev (fun k => aJ.f k (v : Int) n) ((((jY v n).1 : Nat) : Int), (jY v n).2) := by
 refine Ev.of (aJ.mono _ _) (k := 67) ?_
 unfold aJ.f
 by_cases c : 0 ≤ n
 ·obtain ⟨m, rfl⟩ := kH c
  have e : mn (mx (m : Int) (-64)) 64 = ((min m 64 : Nat) : Int) := by unfold mn mx; split <;> split <;> omega
  have h := vY (min m 64) v (65 - min m 64) false hv (by omega)
  rw [show min m 64 + 2 + (65 - min m 64) = 67 by omega] at h
  rw [e, h, iH]
  by_cases c' : m ≤ 64
  ·rw [Nat.min_eq_left c']; rfl
  ·have b1 := lY (show 64 ≤ m by omega)
   rw [Nat.min_eq_right (by omega), Nat.div_eq_of_lt (show v < 2 ^ 64 by omega), Nat.mod_eq_of_lt (show v < 2 ^ 64 by omega), Nat.div_eq_of_lt (show v < 2 ^ m by omega), Nat.mod_eq_of_lt (show v < 2 ^ m by omega)]; rfl
 ·obtain ⟨m, hm⟩ := kH (show 0 ≤ -n by omega)
  obtain rfl : n = -(m : Int) := by omega
  have e : mn (mx (-(m : Int)) (-64)) 64 = -((min m 64 : Nat) : Int) := by unfold mn mx; split <;> split <;> omega
  have h := o5 (min m 64) v (65 - min m 64) false hv (by omega)
  rw [show min m 64 + 1 + (65 - min m 64) = 66 by omega] at h
  rw [e, aJ.l0, if_neg (by omega), h, jV _ _ hv]
  by_cases c' : m ≤ 64
  ·rw [Nat.min_eq_left c']; rfl
  ·rw [Nat.min_eq_right (by omega)]
   have b1 := lY (show 64 ≤ m by omega)
   have e : (2 : Nat) ^ m = 18446744073709551616 * 2 ^ (m - 64) := by rw [show 18446744073709551616 = 2 ^ 64 from rfl, ← Nat.pow_add]; congr 1; omega
   have e1 : v * 2 ^ m % 18446744073709551616 = 0 := by rw [e, ← Nat.mul_assoc, Nat.mul_comm v, Nat.mul_assoc, Nat.mul_mod_right]
   rw [e1, show v * 2 ^ 64 % 18446744073709551616 = 0 by omega, Bool.false_or]
   congr 2
   apply decide_eq_decide.mpr
   constructor
   ·intro h1
    have : v ≠ 0 := by intro h0; subst h0; omega
    exact Nat.le_trans b1 (Nat.le_mul_of_pos_left _ (by omega))
   ·intro h1
    have : v ≠ 0 := by intro h0; subst h0; omega
    omega
end Go.Proofs.YtolpdiifmacdbaaGreat.BitsF

/- What the reference's rounding computes: the same plain numbers. -/
namespace Go.Proofs.YtolpdiifmacdbaaGreat.Round
open Go.RowKit Go.Proofs.YtolpdiifmacdbaaGreat.P Go.Proofs.YtolpdiifmacdbaaGreat.Num Go.Proofs.YtolpdiifmacdbaaGreat.BitsF Go.Proofs.YtolpdiifmacdbaaGreat.Fmt Go.Proofs.YtolpdiifmacdbaaGreatW.PrintWords Go.Proofs.YtolpdiifmacdbaaGreatW.PrintLast Go.Proofs.YtolpdiifmacdbaaGreatW.PrintMore

theorem rT (f : Int) (neg : Bool) : eG.f f neg = some (nS f neg : Int) := by
 unfold eG.f nS
 obtain ⟨hi, _⟩ := lI f neg
 have ht := gJ f
 have hp := Nat.two_pow_pos (fm f)
 have : 0 < gF f * 2 ^ fm f := Nat.mul_pos (by omega) hp
 rw [lN]; simp only [Option.bind_some]
 unfold nD at *
 congr 1; omega
theorem uZ (s : Nat) (hs : s < 18446744073709551616) (d : Int) (h1 : -100000 ≤ d) (h2 : d ≤ 100000) (hq : d ≤ 0 → s * 2 ^ (-d).toNat < 18446744073709551616) :
  Ev (fun k => bD.f k (s : Int) d) ((iF s d : Int), decide (2 ≤ fJ s d false), decide (fJ s d false = 1 ∨ fJ s d false = 3)) := by
 unfold bD.f
 by_cases c : d ≤ 0
 ·obtain ⟨m, hm⟩ := kH (show 0 ≤ -d by omega)
  have e : mn (wrap64 (-d)) 63 = ((min m 63 : Nat) : Int) := by rw [bS _ (by omega) (by omega), hm]; unfold mn; split <;> omega
  simp only [if_pos c, e, if_pos (show 0 ≤ ((min m 63 : Nat) : Int) by omega), gW false (.inl c)]
  have hq' := hq c
  rw [hm, Int.toNat_natCast] at hq'
  have e2 : IntKind.u64.wrap ((s : Int) * 2 ^ ((min m 63 : Nat) : Int).toNat) = (iF s d : Int) := by
   rw [Int.toNat_natCast, show (s : Int) * 2 ^ (min m 63) = ((s * 2 ^ (min m 63) : Nat) : Int) by simp, uK]
   unfold iF; rw [if_pos c, hm, Int.toNat_natCast]
   by_cases z : s = 0
   ·subst z; simp
   ·have : m ≤ 63 := by
     rcases Nat.lt_or_ge 63 m with h | h
     ·have := lY (show 64 ≤ m by omega)
      have : 2 ^ m ≤ s * 2 ^ m := Nat.le_mul_of_pos_left _ (by omega)
      omega
     ·exact h
    rw [Nat.min_eq_left this, Nat.mod_eq_of_lt hq']
  rw [e2]
  exact Ev.now _
 ·obtain ⟨m, rfl⟩ := kH (show 0 ≤ d by omega)
  have hqe : iF s (m : Int) = s / 2 ^ m := by unfold iF; rw [if_neg c, Int.toNat_natCast]
  rw [hqe]
  simp only [if_neg c]
  by_cases c' : (m : Int) > 64
  ·simp only [if_pos c']
   have hb := lY (show 64 ≤ m - 1 by omega)
   have hb2 := lY (show 64 ≤ m by omega)
   have hl : fJ s (m : Int) false = if s = 0 then 0 else 1 := by
    by_cases z : s = 0
    ·subst z; rw [gW _ (.inr (by simp))]; rfl
    ·rw [kQ _ c (by rw [Int.toNat_natCast, Nat.mod_eq_of_lt (by omega)]; exact z), Int.toNat_natCast, Nat.div_eq_of_lt (show s < 2 ^ (m - 1) by omega), if_neg z]; rfl
   rw [Nat.div_eq_of_lt (show s < 2 ^ m by omega), hl, show (0 : Int) = ((0 : Nat) : Int) from rfl, bne_cast]
   by_cases z : s = 0
   ·subst z; exact Ev.now _
   ·rw [if_neg z, decide_eq_true z]; exact Ev.now _
  ·have e : wrap64 ((m : Int) - 1) = ((m - 1 : Nat) : Int) := by rw [bS] <;> omega
   simp only [if_neg c', e]
   have hd : s / 2 ^ (m - 1) < 18446744073709551616 := Nat.lt_of_le_of_lt (Nat.div_le_self _ _) hs
   have s1 := o6 s hs (m : Int)
   have s2 := o6 s hs ((m - 1 : Nat) : Int)
   rw [iH] at s1 s2
   refine Ev.bind s1 (Ev.bind s2 (Ev.bind s2 ?_))
   rw [nK _ hd]
   have em : s % 2 ^ m = s % 2 ^ (m - 1) + 2 ^ (m - 1) * (s / 2 ^ (m - 1) % 2) := by
    rw [show m = m - 1 + 1 by omega, Nat.pow_succ, Nat.mod_mul, Nat.add_sub_cancel]
   have hb1 : (((s / 2 ^ (m - 1) % 2 : Nat) : Int) == 1) = decide (2 ≤ fJ s (m : Int) false) ∧ decide (s % 2 ^ (m - 1) ≠ 0) = decide (fJ s (m : Int) false = 1 ∨ fJ s (m : Int) false = 3) := by
    have hp := Nat.two_pow_pos (m - 1)
    by_cases z : s % 2 ^ m = 0
    ·rw [gW _ (.inr (by rw [Int.toNat_natCast]; exact z))]
     rw [z] at em
     have z1 : s % 2 ^ (m - 1) = 0 := by omega
     have z2 : s / 2 ^ (m - 1) % 2 = 0 := by
      have : 2 ^ (m - 1) * (s / 2 ^ (m - 1) % 2) = 0 := by omega
      rcases Nat.mul_eq_zero.mp this with h | h
      ·omega
      ·exact h
     rw [z1, z2]; exact ⟨rfl, rfl⟩
    ·rw [kQ _ c (by rw [Int.toNat_natCast]; exact z), Int.toNat_natCast]
     have hb : s / 2 ^ (m - 1) % 2 = 0 ∨ s / 2 ^ (m - 1) % 2 = 1 := by omega
     rcases hb with hb | hb
     ·rw [hb, Nat.mul_zero, Nat.add_zero] at em
      rw [em] at z
      rw [hb, decide_eq_true z]; exact ⟨rfl, rfl⟩
     ·rw [hb, if_neg (by decide)]
      by_cases w : s % 2 ^ (m - 1) = 0
      ·rw [w]; exact ⟨rfl, rfl⟩
      ·rw [if_pos (.inl w), decide_eq_true w]; exact ⟨rfl, rfl⟩
   simp only [hb1.1, hb1.2]
   exact Ev.now _
theorem aBJ (s : Nat) (d : Int) : decide (2 ≤ fJ s d true) = decide (2 ≤ fJ s d false) ∧ (fJ s d true = 1 ∨ fJ s d true = 3) := by
 by_cases c : d ≤ 0 ∨ s % 2 ^ d.toNat = 0
 ·rw [gW _ c, gW _ c]; simp
 ·have c' := not_or.mp c
  rw [kQ _ c'.1 c'.2, kQ _ c'.1 c'.2]
  split
  ·simp
  ·simp; split <;> simp
theorem ref_up_f (mode : Int) (neg : Bool) (q left : Nat) (h : left ≤ 3) : eB.f mode neg (decide (q % 2 = 1)) (decide (2 ≤ left)) (decide (left = 1 ∨ left = 3)) = some (upN mode neg q left) := by
 unfold eB.f upN
 have hl : left = 0 ∨ left = 1 ∨ left = 2 ∨ left = 3 := by omega
 by_cases m1 : mode = 1
 ·rw [if_pos m1, if_pos m1]
 ·rw [if_neg m1, if_neg m1]
  by_cases m2 : mode = 2
  ·rw [if_pos m2, if_pos m2]; rcases hl with rfl | rfl | rfl | rfl <;> cases neg <;> rfl
  ·rw [if_neg m2, if_neg m2]
   by_cases m3 : mode = 3
   ·rw [if_pos m3, if_pos m3]; rcases hl with rfl | rfl | rfl | rfl <;> cases neg <;> rfl
   ·rw [if_neg m3, if_neg m3]
    by_cases m4 : mode = 4
    ·rw [if_pos m4, if_pos m4]
    ·rw [if_neg m4, if_neg m4]
     rcases hl with rfl | rfl | rfl | rfl <;> simp
theorem z8 (k : Nat) (f mode : Int) (neg : Bool) : aM.f (k + 1) f mode neg = some (((if iX mode neg then nD f neg else nS f neg : Nat) : Int)) := by
 unfold aM.f iX
 simp only [aM.j0, rT, lN, Option.bind_some]
 by_cases m1 : mode = 1
 ·rw [if_pos m1, if_pos m1]; rfl
 ·rw [if_neg m1, if_neg m1]
  by_cases m2 : mode = 2
  ·rw [if_pos m2, if_pos m2]; subst m2; cases neg <;> rfl
  ·rw [if_neg m2, if_neg m2]
   by_cases m3 : mode = 3
   ·rw [if_pos m3, if_pos m3]; cases neg <;> rfl
   ·rw [if_neg m3, if_neg m3]; rfl
/- The reference's rounding computes the same numbers as the program's. -/

theorem aAO (f : Int) (neg : Bool) (v : Nat) (h : v < 2 ^ (fe f + fm f)) : Go.bits .or .u32 (eQ f neg : Int) (v : Int) = ((v + eQ f neg : Nat) : Int) ∧ v + eQ f neg < 4294967296 := by
 obtain ⟨b1, b2, b3, b4, b5⟩ := dS f
 have h31 := dZ b5
 unfold eQ
 cases neg
 ·simp only [Bool.false_eq_true, if_false]
  rw [nI _ _ (by omega) (by omega), Nat.zero_or, Nat.add_zero]; exact ⟨rfl, by omega⟩
 ·simp only [if_true]
  rw [nI _ _ (by omega) (by omega), lX _ _ (fe f + fm f) (by simp) h, Nat.add_comm]; exact ⟨rfl, by omega⟩
theorem qO (k : Nat) (f mode : Int) (neg : Bool) (q U : Nat) (hU : U ≤ 10300) (hq : q < 2 ^ (fm f + 1)) (hq' : U ≠ 0 → 2 ^ fm f ≤ q) (K : Nat) (hK : K = U * 2 ^ fm f + q) (c0 c1 c2 c3 c4 : Bool) :
  aA.j5 (k + 2) f mode neg (fm f : Int) (dM f - fm f + U) (q : Int) c0 c1 c2 c3 c4 = some
   ((((if iQ f K then (if iX mode neg then gF f * 2 ^ fm f else gF f * 2 ^ fm f - 1) else K) + eQ f neg : Nat) : Int),
    if iQ f K then (false, false, true, false, true) else (c0, c1, c2, c3, c4)) ∧
  aA.j6 (k + 2) f mode neg (fm f : Int) (dM f - fm f + U) (q : Int) c0 c1 c2 c3 c4 = some
   ((((if iQ f K then (if iX mode neg then gF f * 2 ^ fm f else gF f * 2 ^ fm f - 1) else K) + eQ f neg : Nat) : Int),
    if iQ f K then (false, false, true, false, true) else (c0, c1, c2, c3, c4)) := by
 obtain ⟨b1, b2, b3, b4, b5⟩ := dS f
 have hl := gH f
 have hp := Nat.two_pow_pos (fm f)
 have hpe := Nat.two_pow_pos (fe f)
 have h31 := dZ (show fm f + 1 ≤ 31 by omega)
 have h8 := dZ (show fe f ≤ 31 by omega)
 have hsucc : 2 ^ (fm f + 1) = 2 * 2 ^ fm f := by rw [Nat.pow_succ, Nat.mul_comm]
 have ht := gJ f
 obtain ⟨_, hte⟩ := lI f neg
 have e1 : shl .u64 1 (fm f : Int) = ((2 ^ fm f : Nat) : Int) := by rw [show (1 : Int) = ((1 : Nat) : Int) from rfl, jM, Nat.one_mul, Nat.mod_eq_of_lt (by omega)]
 have e2 : wrap64 (wrap64 (dM f - (fm f : Int) + (U : Int) + (fm f : Int)) + (1 - dM f)) = ((U + 1 : Nat) : Int) := by
  rw [bS (dM f - (fm f : Int) + (U : Int) + (fm f : Int)) (by omega) (by omega), bS _ (by omega) (by omega)]; omega
 have e3 : wrap64 (shl .i64 1 (fe f : Int) - 1) = ((gF f : Nat) : Int) := by
  rw [kC _ (by omega), bS _ (by omega) (by omega)]; unfold gF; omega
 rw [aA.j5, aA.j6, if_pos (by omega), e1, oO, eU, oG]
 simp only [Option.bind_some]
 rw [if_pos (show (0 : Int) ≤ (fe f : Int) by omega), e2, e3, z8]
 simp only [Option.bind_some]
 by_cases c : q < 2 ^ fm f
 ·have hU0 : U = 0 := by
   rcases Nat.eq_zero_or_pos U with h | h
   ·exact h
   ·have := hq' (by omega); omega
  have ho : iQ f K = false := by
   unfold iQ
   rw [decide_eq_false_iff_not, hK, hU0]
   have : 1 * 2 ^ fm f ≤ gF f * 2 ^ fm f := Nat.mul_le_mul_right _ (by omega)
   omega
  obtain ⟨s1, s2⟩ := aAO f neg q (by omega)
  rw [if_pos (show (q : Int) < ((2 ^ fm f : Nat) : Int) by omega), show (q : Int) % 4294967296 = (q : Int) by omega, s1, ho, hK, hU0]
  simp
 ·rw [if_neg (show ¬ (q : Int) < ((2 ^ fm f : Nat) : Int) by omega)]
  have ho : ((U + 1 : Nat) : Int) ≥ (gF f : Int) ↔ iQ f K = true := by
   unfold iQ
   rw [decide_eq_true_iff, hK]
   constructor
   ·intro h
    have : gF f * 2 ^ fm f ≤ (U + 1) * 2 ^ fm f := Nat.mul_le_mul_right _ (by omega)
    rw [Nat.add_mul, Nat.one_mul] at this; omega
   ·intro h
    rcases Nat.lt_or_ge (U + 1) (gF f) with d | d
    ·have : (U + 1 + 1) * 2 ^ fm f ≤ gF f * 2 ^ fm f := Nat.mul_le_mul_right _ d
     rw [Nat.add_mul, Nat.add_mul, Nat.one_mul] at this; omega
    ·omega
  by_cases c' : ((U + 1 : Nat) : Int) ≥ (gF f : Int)
  ·rw [if_pos c', ho.mp c']
   simp only [if_true]
   have : (if iX mode neg then nD f neg else nS f neg) = (if iX mode neg then gF f * 2 ^ fm f else gF f * 2 ^ fm f - 1) + eQ f neg := by
    unfold nD nS; split <;> rfl
   rw [this]
   exact ⟨rfl, rfl⟩
  ·rw [if_neg c']
   have co : iQ f K = false := by simpa using fun h => c' (ho.mpr h)
   have hmul : (U + 1) * 2 ^ fm f + 2 ^ fm f ≤ 2 ^ (fe f + fm f) := by
    have : (U + 1) * 2 ^ fm f ≤ gF f * 2 ^ fm f := Nat.mul_le_mul_right _ (by omega)
    omega
   have h32 := dZ b5
   have hm1 : q % 2 ^ fm f = q - 2 ^ fm f := by
    have h1 : q / 2 ^ fm f = 1 := Nat.div_eq_of_lt_le (by omega) (by omega)
    have := Nat.div_add_mod q (2 ^ fm f)
    rw [h1, Nat.mul_one] at this; omega
   have e4 : shl .u32 (((U + 1 : Nat) : Int) % 4294967296) (fm f : Int) = (((U + 1) * 2 ^ fm f : Nat) : Int) := by
    rw [show ((U + 1 : Nat) : Int) % 4294967296 = ((U + 1 : Nat) : Int) by omega, tQ, Nat.mod_eq_of_lt (by omega)]
   have e5 : Go.bits .and .u64 (q : Int) (IntKind.u64.wrap (((2 ^ fm f : Nat) : Int) - 1)) % 4294967296 = ((q % 2 ^ fm f : Nat) : Int) := by
    rw [show ((2 ^ fm f : Nat) : Int) - 1 = ((2 ^ fm f - 1 : Nat) : Int) by omega, fH _ (by omega), uM _ _ (by omega) (by omega)]
    have := Nat.mod_lt q hp; omega
   have hKe : K + eQ f neg = (U + 1) * 2 ^ fm f + eQ f neg + q % 2 ^ fm f := by
    rw [hK, hm1, Nat.add_mul]; omega
   obtain ⟨s1, s2⟩ := aAO f neg ((U + 1) * 2 ^ fm f) (by omega)
   have hq2 : q % 2 ^ fm f < 2 ^ fm f := Nat.mod_lt _ hp
   have e6 : Go.bits .or .u32 (((U + 1) * 2 ^ fm f + eQ f neg : Nat) : Int) ((q % 2 ^ fm f : Nat) : Int) = (((U + 1) * 2 ^ fm f + eQ f neg + q % 2 ^ fm f : Nat) : Int) := by
    rw [nI _ _ s2 (by omega), lX _ _ (fm f) ?_ hq2]
    unfold eQ
    cases neg
    ·simp
    ·simp only [if_true]
     rw [Nat.pow_add, ← Nat.add_mul, Nat.mul_mod_left]
   rw [e4, s1, e5, e6, co]
   simp only [Bool.false_eq_true, if_false, hKe]
   exact ⟨trivial, trivial⟩
theorem step_ew (f : Int) : wrap64 ((fm f : Int) + 1) = ((fm f + 1 : Nat) : Int) := by
 obtain ⟨b1, b2, b3, b4, b5⟩ := dS f
 rw [bS] <;> omega
theorem step_es (f : Int) : shl .u64 1 ((fm f + 1 : Nat) : Int) = ((2 ^ (fm f + 1) : Nat) : Int) := by
 obtain ⟨b1, b2, b3, b4, b5⟩ := dS f
 have h31 := dZ (show fm f + 1 ≤ 31 by omega)
 rw [show (1 : Int) = ((1 : Nat) : Int) from rfl, jM, Nat.one_mul, Nat.mod_eq_of_lt (by omega)]
theorem step_e8 (f : Int) (U : Nat) (h : U ≤ 10200) : wrap64 (dM f - (fm f : Int) + (U : Int) + 1) = dM f - (fm f : Int) + ((U + 1 : Nat) : Int) := by
 obtain ⟨b1, b2, b3, b4, b5⟩ := dS f
 have hl := gH f
 rw [bS] <;> omega
theorem step_e9 (f : Int) : (((2 ^ (fm f + 1) : Nat) : Int)) / 2 = ((2 ^ fm f : Nat) : Int) := by
 have hsucc : 2 ^ (fm f + 1) = 2 * 2 ^ fm f := by rw [Nat.pow_succ, Nat.mul_comm]
 omega
theorem step_lt (f : Int) : 2 ^ fm f < 2 ^ (fm f + 1) := Nat.pow_lt_pow_right (by decide) (Nat.lt_succ_self _)
theorem step_key (U m q : Nat) (h : q = 2 * m) : (U + 1) * m + m = U * m + q := by rw [Nat.add_mul]; omega
theorem step_q {a b : Nat} (h : a ≤ b) (h' : ¬ a = b) : a < b := by omega
theorem step_i {a b : Nat} (h' : ¬ a = b) : ¬ ((a : Int) = (b : Int)) := by omega
theorem step_n {m : Nat} : (0 : Int) ≤ (m : Int) := by omega
theorem mW (f mode : Int) (neg : Bool) (x : Int) (s : Nat) (more : Bool) (hs : s < 18446744073709551616) :
  Ev (fun k => aA.f k f mode neg x (s : Int) more) ((gD f mode neg (jX x) s more : Int), false, false, kY f mode neg (jX x) s more) := by
 unfold aA.f
 have hc : mn (mx x (-10000)) 10000 = jX x := rfl
 obtain ⟨h1, h2⟩ := nP x
 rw [hc]
 generalize jX x = x at *
 have hll := wD s (dP f x s - x) more
 by_cases z : s = 0 ∧ more = false
 ·obtain ⟨rfl, rfl⟩ := z
  simp only [if_pos (show ((0 : Nat) : Int) = 0 from rfl)]
  refine Ev.step (fun k => by rw [aA.j0]) ?_
  simp only [Bool.not_false, if_true, jA, Option.bind_some]
  have h := pack_f 0 f mode neg x 0 false (by decide)
  rw [iP x h1 h2] at h
  unfold aC.f at h
  rw [if_pos (by rfl), show mn (mx x (-10000)) 10000 = x from iP x h1 h2, aC.j0] at h
  simp only [Bool.not_false, if_true, sV, Option.bind_some] at h
  rw [← Option.some.inj h]
  exact Ev.now _
 ·have hj : ∀ k, (if (s : Int) = 0 then aA.j0 k f mode neg x (s : Int) more (!more) else aA.j0 k f mode neg x (s : Int) more false) = aA.j0 k f mode neg x (s : Int) more false := by
   intro k
   by_cases c : (s : Int) = 0
   ·rw [if_pos c]
    cases more
    ·exact absurd ⟨by omega, rfl⟩ z
    ·rfl
   ·rw [if_neg c]
  refine Ev.congr hj ?_
  obtain ⟨u1, u2, u3⟩ := qG f x s hs h1 h2
  obtain ⟨q1, q2⟩ := sJ f x s
  obtain ⟨b1, b2, b3, b4, b5⟩ := dS f
  have hl := gH f
  have hn := mJ s hs
  have h31 := dZ (show fm f + 1 ≤ 31 by omega)
  have hp := Nat.two_pow_pos (fm f)
  have hsucc : 2 ^ (fm f + 1) = 2 * 2 ^ fm f := by rw [Nat.pow_succ, Nat.mul_comm]
  have hq64 : iF s (dP f x s - x) < 18446744073709551616 := by omega
  have hd : dP f x s - x ≤ 0 → s * 2 ^ (-(dP f x s - x)).toNat < 18446744073709551616 := by
   intro h; have := hq64; unfold iF at this; rw [if_pos h] at this; exact this
  -- the exponent that the reference takes
  have hE : ∃ e : Int, (∀ k, (if (s : Int) = 0 then aA.j1 k f mode neg x (s : Int) more (fm f : Int) (dM f) (-20000) else aA.j1 k f mode neg x (s : Int) more (fm f : Int) (dM f) (wrap64 (wrap64 (x + (fT s : Int)) - 1))) = aA.j1 k f mode neg x (s : Int) more (fm f : Int) (dM f) e) ∧ wrap64 (mx e (dM f) - (fm f : Int)) = dP f x s ∧ (decide (e < dM f) = (decide (s = 0) || decide (x + fT s - 1 < dM f))) := by
   by_cases c : s = 0
   ·subst c
    refine ⟨-20000, fun k => by rw [if_pos (show ((0 : Nat) : Int) = 0 from rfl)], ?_, ?_⟩
    ·have : gQ f x 0 = 0 := by unfold gQ; rw [if_pos rfl]
     have hm : mx (-20000) (dM f) = dM f := by unfold mx; split <;> omega
     rw [hm]
     unfold dP; rw [this, bS _ (by omega) (by omega)]; omega
    ·rw [decide_eq_true (by omega)]; simp
   ·have e1 : wrap64 (wrap64 (x + (fT s : Int)) - 1) = x + fT s - 1 := by
     rw [bS (x + _) (by omega) (by omega), bS _ (by omega) (by omega)]
    refine ⟨x + fT s - 1, fun k => by rw [if_neg (by omega), e1], ?_, ?_⟩
    ·have hr : gQ f x s = (x + fT s - 1 - dM f).toNat := by unfold gQ; rw [if_neg c]
     unfold dP mx
     split
     ·rw [bS _ (by omega) (by omega)]; omega
     ·rw [bS _ (by omega) (by omega)]; omega
    ·rw [decide_eq_false c, Bool.false_or]
  obtain ⟨e, he1, he2, he3⟩ := hE
  refine Ev.step (fun k => by rw [aA.j0]) ?_
  simp only [Bool.false_eq_true, if_false, eU, oO, Option.bind_some]
  refine Ev.bind (oK s hs) ?_
  rw [show (1 : Int) - (1 - dM f) = dM f by omega, bS (dM f) (by omega) (by omega)]
  refine Ev.congr he1 ?_
  refine Ev.step (fun k => by rw [aA.j1]) ?_
  rw [he2, bS (dP f x s - x) (by omega) (by omega)]
  refine Ev.bind (uZ s hs _ (by omega) (by omega) hd) ?_
  -- what is left, with the little more
  have hlm : fJ s (dP f x s - x) false ≤ 3 := wD s _ false
  have hcol : ∀ k (r : Option (Int × Bool × Bool × Bool × Bool × Bool)), aA.j2 k f mode neg (fm f : Int) (dM f) e (dP f x s) (iF s (dP f x s - x) : Int) (decide (2 ≤ fJ s (dP f x s - x) more)) (decide (fJ s (dP f x s - x) more = 1 ∨ fJ s (dP f x s - x) more = 3)) = r →
    (if decide (fJ s (dP f x s - x) false = 1 ∨ fJ s (dP f x s - x) false = 3) = true then aA.j2 k f mode neg (fm f : Int) (dM f) e (dP f x s) (iF s (dP f x s - x) : Int) (decide (2 ≤ fJ s (dP f x s - x) false)) true else aA.j2 k f mode neg (fm f : Int) (dM f) e (dP f x s) (iF s (dP f x s - x) : Int) (decide (2 ≤ fJ s (dP f x s - x) false)) more) = r := by
   intro k r h
   cases more
   ·by_cases c : fJ s (dP f x s - x) false = 1 ∨ fJ s (dP f x s - x) false = 3
    ·rw [decide_eq_true c] at h ⊢; rw [if_pos rfl]; exact h
    ·rw [decide_eq_false c] at h ⊢; rw [if_neg (by decide)]; exact h
   ·obtain ⟨m1, m2⟩ := aBJ s (dP f x s - x)
    rw [decide_eq_true m2, m1] at h
    split <;> exact h
  refine Ev.congr (fun k => hcol k _ rfl) ?_
  generalize hL : fJ s (dP f x s - x) more = L at *
  refine Ev.step (fun k => by rw [aA.j2]) ?_
  have hinx : decide (L ≠ 0) = kF f x s more := by unfold kF; rw [hL]
  have h2 : ∀ k, (if decide (2 ≤ L) = true then aA.j3 k f mode neg (fm f : Int) (dM f) e (dP f x s) (iF s (dP f x s - x) : Int) (decide (2 ≤ L)) (decide (L = 1 ∨ L = 3)) true else aA.j3 k f mode neg (fm f : Int) (dM f) e (dP f x s) (iF s (dP f x s - x) : Int) (decide (2 ≤ L)) (decide (L = 1 ∨ L = 3)) (decide (L = 1 ∨ L = 3))) = aA.j3 k f mode neg (fm f : Int) (dM f) e (dP f x s) (iF s (dP f x s - x) : Int) (decide (2 ≤ L)) (decide (L = 1 ∨ L = 3)) (kF f x s more) := by
   intro k
   rw [← hinx]
   have : L = 0 ∨ L = 1 ∨ L = 2 ∨ L = 3 := by omega
   rcases this with h | h | h | h <;> subst h <;> rfl
  refine Ev.congr h2 ?_
  refine Ev.step (fun k => by rw [aA.j3]) ?_
  have hodd : ((Go.bits .and .u64 (iF s (dP f x s - x) : Int) 1 == 1) : Bool) = decide (iF s (dP f x s - x) % 2 = 1) := by
   rw [nK _ hq64, show (1 : Int) = ((1 : Nat) : Int) from rfl, l9]
  simp only [hodd, ref_up_f mode neg _ L hll, Option.bind_some]
  -- the unit above
  have hK : sZ f mode neg x s more = gQ f x s * 2 ^ fm f + (iF s (dP f x s - x) + (if upN mode neg (iF s (dP f x s - x)) L then 1 else 0)) := by
   unfold sZ; rw [hL, Nat.add_assoc]
  have h3 : ∀ k, (if upN mode neg (iF s (dP f x s - x)) L = true then aA.j4 k f mode neg (fm f : Int) (dM f) e (dP f x s) (IntKind.u64.wrap ((iF s (dP f x s - x) : Int) + 1)) (kF f x s more) else aA.j4 k f mode neg (fm f : Int) (dM f) e (dP f x s) (iF s (dP f x s - x) : Int) (kF f x s more)) = aA.j4 k f mode neg (fm f : Int) (dM f) e (dP f x s) ((iF s (dP f x s - x) + (if upN mode neg (iF s (dP f x s - x)) L then 1 else 0) : Nat) : Int) (kF f x s more) := by
   intro k
   by_cases c : upN mode neg (iF s (dP f x s - x)) L = true
   ·rw [if_pos c, if_pos c, show (iF s (dP f x s - x) : Int) + 1 = ((iF s (dP f x s - x) + 1 : Nat) : Int) by omega, fH _ (by omega)]
   ·rw [if_neg c, if_neg c, Nat.add_zero]
  refine Ev.congr h3 ?_
  have hqn : iF s (dP f x s - x) + (if upN mode neg (iF s (dP f x s - x)) L then 1 else 0) ≤ 2 ^ (fm f + 1) := by split <;> omega
  have hqm : gQ f x s ≠ 0 → 2 ^ fm f ≤ iF s (dP f x s - x) + (if upN mode neg (iF s (dP f x s - x)) L then 1 else 0) := fun h => Nat.le_trans (q2 h) (Nat.le_add_right _ _)
  generalize iF s (dP f x s - x) + (if upN mode neg (iF s (dP f x s - x)) L then 1 else 0) = Q at *
  have hun : dP f x s = dM f - fm f + (gQ f x s : Nat) := rfl
  rw [hun]
  have ew := step_ew f
  have es := step_es f
  have e8 := step_e8 f _ u3
  have e9 := step_e9 f
  have fin : ∀ r : Int × Bool × Bool × Bool × Bool × Bool, r = ((((if iQ f (sZ f mode neg x s more) then (if iX mode neg then gF f * 2 ^ fm f else gF f * 2 ^ fm f - 1) else sZ f mode neg x s more) + eQ f neg : Nat) : Int), if iQ f (sZ f mode neg x s more) then (false, false, true, false, true) else (false, false, false, lH f x s more, kF f x s more)) → r = ((gD f mode neg x s more : Int), false, false, kY f mode neg x s more) := by
   intro r hr
   rw [hr]
   unfold gD kY
   split <;> rfl
  have hund : lH f x s more = (kF f x s more && decide (e < dM f)) := by unfold lH; rw [he3]
  refine Ev.step (fun k => by rw [aA.j4]) ?_
  simp only [ew, es, e8, if_pos (step_n (m := fm f + 1))]
  by_cases cQ : Q = 2 ^ (fm f + 1)
  ·have g := fun k c3 => qO k f mode neg (2 ^ fm f) (gQ f x s + 1) (Nat.le_trans (Nat.succ_le_succ u3) (by decide)) (step_lt f) (fun _ => Nat.le_refl _) (sZ f mode neg x s more) (by rw [hK]; exact (step_key _ _ _ (cQ.trans hsucc)).symm) false false false c3 (kF f x s more)
   simp only [cQ, if_true, e9]
   by_cases ci : kF f x s more = true
   ·simp only [ci, if_true] at g ⊢
    rw [ci, Bool.true_and] at hund
    rw [← fin _ rfl, hund, ci]
    exact ⟨2, fun n hn => by obtain ⟨m, rfl⟩ : ∃ m, n = m + 2 := ⟨n - 2, by omega⟩; exact (g m _).1⟩
   ·rw [Bool.not_eq_true] at ci
    simp only [ci, Bool.false_eq_true, if_false] at g ⊢
    rw [ci, Bool.false_and] at hund
    rw [← fin _ rfl, hund, ci]
    exact ⟨2, fun n hn => by obtain ⟨m, rfl⟩ : ∃ m, n = m + 2 := ⟨n - 2, by omega⟩; exact (g m _).2⟩
  ·have g := fun k c3 => qO k f mode neg Q (gQ f x s) (Nat.le_trans u3 (by decide)) (step_q hqn cQ) hqm (sZ f mode neg x s more) hK false false false c3 (kF f x s more)
   have cQ' : ¬ ((Q : Int) = ((2 ^ (fm f + 1) : Nat) : Int)) := step_i cQ
   simp only [cQ', if_false]
   by_cases ci : kF f x s more = true
   ·simp only [ci, if_true] at g ⊢
    rw [ci, Bool.true_and] at hund
    rw [← fin _ rfl, hund, ci]
    exact ⟨2, fun n hn => by obtain ⟨m, rfl⟩ : ∃ m, n = m + 2 := ⟨n - 2, by omega⟩; exact (g m _).1⟩
   ·rw [Bool.not_eq_true] at ci
    simp only [ci, Bool.false_eq_true, if_false] at g ⊢
    rw [ci, Bool.false_and] at hund
    rw [← fin _ rfl, hund, ci]
    exact ⟨2, fun n hn => by obtain ⟨m, rfl⟩ : ∃ m, n = m + 2 := ⟨n - 2, by omega⟩; exact (g m _).2⟩
end Go.Proofs.YtolpdiifmacdbaaGreat.Round

/- The reference's whole numbers of 640 bits: what its functions answer. -/
namespace Go.Proofs.YtolpdiifmacdbaaGreat.Round
open Go.RowKit Go.Proofs.YtolpdiifmacdbaaGreat.P Go.Proofs.YtolpdiifmacdbaaGreat.E Go.Proofs.YtolpdiifmacdbaaGreat.Num Go.Proofs.YtolpdiifmacdbaaGreat.BitsF Go.Proofs.YtolpdiifmacdbaaGreat.Fmt Go.Proofs.YtolpdiifmacdbaaGreatW.PrintWords Go.Proofs.YtolpdiifmacdbaaGreatW.PrintLast Go.Proofs.YtolpdiifmacdbaaGreatW.PrintMore

theorem below_l2 (xn yn : Bool) {xs ys : List Int} (hx : kD xs) (hy : kD ys) (j : Nat) (hj : j ≤ 10) : Ev2 (fun k n => bO.l2 k n ((j : Int) - 1) yn ys xn xs) (decide (lo xs j < lo ys j)) := by
  induction j with
  | zero => exact Ev2.step (fun k n => by rw [bO.zK, if_neg (by omega), lC, lC]; rfl) (Ev2.now _)
  | succ j ih =>
    have a := lo_lt hx j
    have b := lo_lt hy j
    have q0 : (0 : Int) ≤ ((j + 1 : Nat) : Int) - 1 := by omega
    have q1 : ((j + 1 : Nat) : Int) - 1 < 10 := by omega
    have e : ((j + 1 : Nat) : Int) - 1 = (j : Int) := by omega
    refine Ev2.step (fun k n => by rw [bO.zK, if_pos q0, if_pos q0, if_pos q1, if_pos q0, if_pos q1, e, hx.rd j, hy.rd j]) ?_
    rw [jL, jL]
    by_cases c : lim xs j = lim ys j
    · refine Ev2.congr (fun k n => by rw [if_pos (by rw [c]), bS _ (by omega) (by omega)]) ?_
      rw [c]
      simp only [Nat.add_lt_add_iff_right]
      exact ih (by omega)
    · refine Ev2.congr (fun k n => by rw [if_neg (by omega), if_pos (by omega), if_pos (by omega), if_pos (by omega), if_pos (by omega)]) ?_
      have h : decide ((lim xs j : Int) < (lim ys j : Int)) = decide (lo xs j + lim xs j * 2 ^ (64 * j) < lo ys j + lim ys j * 2 ^ (64 * j)) := by
        apply decide_eq_decide.mpr
        rcases Nat.lt_or_gt_of_ne c with c | c
        · have := Nat.mul_le_mul_right (2 ^ (64 * j)) (show lim xs j + 1 ≤ lim ys j from c)
          rw [Nat.add_mul] at this; omega
        · have := Nat.mul_le_mul_right (2 ^ (64 * j)) (show lim ys j + 1 ≤ lim xs j from c)
          rw [Nat.add_mul] at this; omega
      rw [← h]; exact Ev2.now _
theorem below_ev (xn yn : Bool) {xs ys : List Int} (hx : kD xs) (hy : kD ys) : Ev (fun n => E.bO.f n xn xs yn ys) (decide (lo xs 10 < lo ys 10)) :=
  Ev.congr (fun n => bO.eq n xn xs yn ys) (below_l2 xn yn hx hy 10 (by decide)).diag

theorem limb_sub (x y b : Nat) (hx : x < 18446744073709551616) (hy : y < 18446744073709551616) (hb : b ≤ 1) :
    ∃ d c : Nat, d < 18446744073709551616 ∧ c ≤ 1 ∧ d + y + b = x + c * 18446744073709551616 ∧ IntKind.u64.wrap (IntKind.u64.wrap ((x : Int) - (y : Int)) - (b : Int)) = (d : Int) ∧
      (c = 1 ↔ ((x : Int) < (y : Int) ∨ IntKind.u64.wrap ((x : Int) - (y : Int)) < (b : Int))) := by
  rw [jD, jD]
  by_cases c : x < y + b
  · exact ⟨x + 18446744073709551616 - y - b, 1, by omega, by omega, by omega, by omega, by omega⟩
  · exact ⟨x - y - b, 0, by omega, by omega, by omega, by omega, by omega⟩
theorem limb_add (x y b : Nat) (hx : x < 18446744073709551616) (hy : y < 18446744073709551616) (hb : b ≤ 1) :
    ∃ d c : Nat, d < 18446744073709551616 ∧ c ≤ 1 ∧ x + y + b = d + c * 18446744073709551616 ∧ IntKind.u64.wrap (IntKind.u64.wrap ((x : Int) + (y : Int)) + (b : Int)) = (d : Int) ∧
      (c = 1 ↔ (IntKind.u64.wrap ((x : Int) + (y : Int)) < (x : Int) ∨ IntKind.u64.wrap (IntKind.u64.wrap ((x : Int) + (y : Int)) + (b : Int)) < IntKind.u64.wrap ((x : Int) + (y : Int)))) := by
  rw [jD, jD]
  by_cases c : x + y + b < 18446744073709551616
  · exact ⟨x + y + b, 0, by omega, by omega, by omega, by omega, by omega⟩
  · exact ⟨x + y + b - 18446744073709551616, 1, by omega, by omega, by omega, by omega, by omega⟩
theorem xZ (ln xn yn : Bool) (z : List Int) {xs ys : List Int} (hx : kD xs) (hy : kD ys) (m : Nat) : ∀ (i : Nat) (b : Nat) (L : List Int), i + m = 10 → kD L → b ≤ 1 → lo L i + lo ys i = lo xs i + b * 2 ^ (64 * i) → (∀ j, i ≤ j → lim L j = lim xs j) →
    ∃ (R : List Int) (c : Nat), Ev2 (fun k n => bF.l5 k n (i : Int) (b : Int) ln z yn ys xn L) (xn, R) ∧ kD R ∧ lo R 10 + lo ys 10 = lo xs 10 + c * T640 := by
  induction m with
  | zero =>
    intro i b L hi hL hb h1 h2
    obtain rfl : i = 10 := by omega
    exact ⟨L, b, Ev2.step (fun k n => by rw [bF.aAT, if_neg (by omega)]) (Ev2.now _), hL, by rw [← uS]; exact h1⟩
  | succ m ih =>
    intro i b L hi hL hb h1 h2
    have i1 : (i : Int) < 10 := by omega
    have i0 : (0 : Int) ≤ (i : Int) := by omega
    have e := h2 i (Nat.le_refl _)
    obtain ⟨d, c, d1, c1, d2, d3, d4⟩ := limb_sub (lim xs i) (lim ys i) b (hx.lt i) (hy.lt i) hb
    have hlen : i < L.length := by rw [hL.len]; omega
    have key : lo (L.set i (d : Int)) (i + 1) + lo ys (i + 1) = lo xs (i + 1) + c * 2 ^ (64 * (i + 1)) := by
      rw [jL, jL, jL, aAU L i _ hlen, mP L i i _ hlen, if_pos rfl, Int.toNat_natCast, show 64 * (i + 1) = 64 * i + 64 by omega, Nat.pow_add, show (2 : Nat) ^ 64 = 18446744073709551616 by decide, Nat.mul_comm (2 ^ (64 * i)), ← Nat.mul_assoc]
      have := congrArg (· * 2 ^ (64 * i)) d2
      simp only [Nat.add_mul] at this
      omega
    obtain ⟨R, q, r1, r2, r3⟩ := ih (i + 1) c (L.set i (d : Int)) (by omega) (hL.set i d (by omega) d1) c1 key (fun j hj => by rw [mP L i j _ hlen, if_neg (by omega)]; exact h2 j (by omega))
    refine ⟨R, q, ?_, r2, r3⟩
    refine Ev2.step (fun k n => by
      rw [bF.aAT, if_pos i1, if_pos i0, if_pos i1, if_pos i0, if_pos i1, if_pos i0, if_pos i1, if_pos i0, if_pos i1, hL.rd i, hy.rd i, e, d3, Int.toNat_natCast, bS _ (by omega) (by omega), if_pos i0, if_pos i1]) ?_
    rw [show ((i : Int) + 1) = ((i + 1 : Nat) : Int) by omega]
    rcases Nat.lt_or_ge c 1 with c0 | c0
    · obtain rfl : c = 0 := by omega
      refine Ev2.congr (fun k n => by rw [if_neg (fun h => absurd (d4.mpr (.inl h)) (by decide)), if_neg (fun h => absurd (d4.mpr (.inr h)) (by decide)), if_pos i0, if_pos i1]) ?_
      exact r1
    · obtain rfl : c = 1 := by omega
      refine Ev2.congr (fun k n => ?_) r1
      by_cases t : (lim xs i : Int) < (lim ys i : Int)
      · rw [if_pos t]; rfl
      · rw [if_neg t, if_pos ((d4.mp rfl).resolve_left t)]; rfl
theorem plus_l5 (ln xn yn : Bool) (z : List Int) {xs ys : List Int} (hx : kD xs) (hy : kD ys) (m : Nat) : ∀ (i : Nat) (b : Nat) (L : List Int), i + m = 10 → kD L → b ≤ 1 → lo L i + b * 2 ^ (64 * i) = lo xs i + lo ys i → (∀ j, i ≤ j → lim L j = lim xs j) →
    ∃ (R : List Int) (c : Nat), Ev2 (fun k n => bK.l5 k n (i : Int) (b : Int) ln z yn ys xn L) (xn, R) ∧ kD R ∧ lo R 10 + c * T640 = lo xs 10 + lo ys 10 := by
  induction m with
  | zero =>
    intro i b L hi hL hb h1 h2
    obtain rfl : i = 10 := by omega
    exact ⟨L, b, Ev2.step (fun k n => by rw [bK.aAT, if_neg (by omega)]) (Ev2.now _), hL, by rw [← uS]; exact h1⟩
  | succ m ih =>
    intro i b L hi hL hb h1 h2
    have i1 : (i : Int) < 10 := by omega
    have i0 : (0 : Int) ≤ (i : Int) := by omega
    have e := h2 i (Nat.le_refl _)
    obtain ⟨d, c, d1, c1, d2, d3, d4⟩ := limb_add (lim xs i) (lim ys i) b (hx.lt i) (hy.lt i) hb
    have hlen : i < L.length := by rw [hL.len]; omega
    have key : lo (L.set i (d : Int)) (i + 1) + c * 2 ^ (64 * (i + 1)) = lo xs (i + 1) + lo ys (i + 1) := by
      rw [jL, jL, jL, aAU L i _ hlen, mP L i i _ hlen, if_pos rfl, Int.toNat_natCast, show 64 * (i + 1) = 64 * i + 64 by omega, Nat.pow_add, show (2 : Nat) ^ 64 = 18446744073709551616 by decide, Nat.mul_comm (2 ^ (64 * i)), ← Nat.mul_assoc]
      have := congrArg (· * 2 ^ (64 * i)) d2
      simp only [Nat.add_mul] at this
      omega
    obtain ⟨R, q, r1, r2, r3⟩ := ih (i + 1) c (L.set i (d : Int)) (by omega) (hL.set i d (by omega) d1) c1 key (fun j hj => by rw [mP L i j _ hlen, if_neg (by omega)]; exact h2 j (by omega))
    refine ⟨R, q, ?_, r2, r3⟩
    refine Ev2.step (fun k n => by
      rw [bK.aAT, if_pos i1, if_pos i0, if_pos i1, if_pos i0, if_pos i1, if_pos i0, if_pos i1, hL.rd i, hy.rd i, e, d3, Int.toNat_natCast, bS _ (by omega) (by omega), if_pos i0, if_pos i1]) ?_
    rw [show ((i : Int) + 1) = ((i + 1 : Nat) : Int) by omega]
    rw [d3] at d4
    rcases Nat.lt_or_ge c 1 with c0 | c0
    · obtain rfl : c = 0 := by omega
      refine Ev2.congr (fun k n => by rw [if_neg (fun h => absurd (d4.mpr (.inl h)) (by decide)), if_neg (fun h => absurd (d4.mpr (.inr h)) (by decide)), if_pos i0, if_pos i1]) ?_
      exact r1
    · obtain rfl : c = 1 := by omega
      refine Ev2.congr (fun k n => ?_) r1
      by_cases t : IntKind.u64.wrap ((lim xs i : Int) + (lim ys i : Int)) < (lim xs i : Int)
      · rw [if_pos t]; rfl
      · rw [if_neg t, if_pos ((d4.mp rfl).resolve_left t)]; rfl
theorem aAx (xn yn : Bool) {xs ys : List Int} (hx : kD xs) (hy : kD ys) : ∃ R, kD R ∧ lo R 10 = (if lo xs 10 < lo ys 10 then lo ys 10 - lo xs 10 else lo xs 10 - lo ys 10) ∧
    Ev (fun n => E.bF.f n xn xs yn ys) ((if lo xs 10 < lo ys 10 then yn else xn), R) := by
  have hb := below_ev xn yn hx hy
  have fin : ∀ (R : List Int) (c X Y : Nat), kD R → lo R 10 + Y = X + c * T640 → Y ≤ X → lo R 10 = X - Y := by
    intro R c X Y hR h hle
    have hl := lo_top hR
    rcases Nat.eq_zero_or_pos c with c0 | c0
    · rw [c0, Nat.zero_mul] at h; omega
    · have : 1 * T640 ≤ _ := Nat.mul_le_mul_right T640 c0
      rw [Nat.one_mul] at this; omega
  by_cases c : lo xs 10 < lo ys 10
  · obtain ⟨R, q, r1, r2, r3⟩ := xZ false yn xn (0 :: List.replicate 9 0) hy hx 10 0 0 ys (by decide) hy (by decide) (by rw [lC, lC]) (fun _ _ => rfl)
    refine ⟨R, r2, by rw [if_pos c]; exact fin R q _ _ r2 r3 (by omega), ?_⟩
    refine Ev.congr (fun n => bF.eq n xn xs yn ys) (Ev.bind hb ?_)
    rw [if_pos c, decide_eq_true c]
    exact Ev.congr (fun n => by rw [if_pos rfl]; rfl) r1.diag
  · obtain ⟨R, q, r1, r2, r3⟩ := xZ false xn yn (0 :: List.replicate 9 0) hx hy 10 0 0 xs (by decide) hx (by decide) (by rw [lC, lC]) (fun _ _ => rfl)
    refine ⟨R, r2, by rw [if_neg c]; exact fin R q _ _ r2 r3 (by omega), ?_⟩
    refine Ev.congr (fun n => bF.eq n xn xs yn ys) (Ev.bind hb ?_)
    rw [if_neg c, decide_eq_false c]
    exact Ev.congr (fun n => by rw [if_neg (by decide)]; rfl) r1.diag
theorem aBj (xn : Bool) {xs ys : List Int} (hx : kD xs) (hy : kD ys) (h : lo xs 10 + lo ys 10 < T640) : ∃ R, kD R ∧ lo R 10 = lo xs 10 + lo ys 10 ∧
    Ev (fun n => E.bK.f n xn xs xn ys) (xn, R) := by
  obtain ⟨R, q, r1, r2, r3⟩ := plus_l5 false xn xn (0 :: List.replicate 9 0) hx hy 10 0 0 xs (by decide) hx (by decide) (by rw [lC, lC]) (fun _ _ => rfl)
  refine ⟨R, r2, ?_, ?_⟩
  · rcases Nat.eq_zero_or_pos q with c0 | c0
    · rw [c0, Nat.zero_mul, Nat.add_zero] at r3; exact r3
    · have : 1 * T640 ≤ _ := Nat.mul_le_mul_right T640 c0
      rw [Nat.one_mul] at this; omega
  · exact Ev.congr (fun n => by rw [bK.eq, if_pos (beq_self_eq_true _)]; rfl) r1.diag
theorem aAg (xn yn : Bool) (e : xn ≠ yn) {xs ys : List Int} (hx : kD xs) (hy : kD ys) : ∃ R, kD R ∧ lo R 10 = (if lo xs 10 < lo ys 10 then lo ys 10 - lo xs 10 else lo xs 10 - lo ys 10) ∧
    Ev (fun n => E.bK.f n xn xs yn ys) ((if lo xs 10 < lo ys 10 then yn else xn), R) := by
  obtain ⟨R, r1, r2, r3⟩ := aAx xn yn hx hy
  refine ⟨R, r1, r2, ?_⟩
  refine Ev.congr (fun n => by rw [bK.eq, if_neg (by rw [beq_iff_eq]; exact e)]) (Ev.bind r3 (Ev.now _))
theorem plus_ev (xn yn : Bool) {xs ys : List Int} (hx : kD xs) (hy : kD ys) (h : lo xs 10 + lo ys 10 < T640) : ∃ R, kD R ∧ lo R 10 = (iB xn (lo xs 10) yn (lo ys 10)).2 ∧
    Ev (fun n => E.bK.f n xn xs yn ys) ((iB xn (lo xs 10) yn (lo ys 10)).1, R) := by
  by_cases e : xn = yn
  · subst e
    obtain ⟨R, r1, r2, r3⟩ := aBj xn hx hy h
    have w : iB xn (lo xs 10) xn (lo ys 10) = (xn, lo xs 10 + lo ys 10) := if_pos rfl
    rw [w]
    exact ⟨R, r1, r2, r3⟩
  · obtain ⟨R, r1, r2, r3⟩ := aAg xn yn e hx hy
    have w : iB xn (lo xs 10) yn (lo ys 10) = ((if lo xs 10 < lo ys 10 then yn else xn), (if lo xs 10 < lo ys 10 then lo ys 10 - lo xs 10 else lo xs 10 - lo ys 10)) := by
      unfold iB
      rw [if_neg e]
      split <;> rfl
    rw [w]
    exact ⟨R, r1, r2, r3⟩
theorem vU (neg : Bool) (e : Int) (s : Nat) (h1 : -298 ≤ e) (h2 : e ≤ 250) (hs : s < 1152921504606846976) : ∃ R, kD R ∧ lo R 10 = s * 2 ^ (e + 298).toNat ∧ Ev (fun n => E.bY.f n neg e (s : Int)) (neg, R) := by
  obtain ⟨a, ha⟩ : ∃ a : Nat, e + 298 = (a : Int) := ⟨(e + 298).toNat, by omega⟩
  have hz := aAF
  have at1 : wrap64 (e + 298) = (a : Int) := by rw [bS _ (by omega) (by omega)]; exact ha
  have at2 : Int.tmod (a : Int) 64 = ((a % 64 : Nat) : Int) := by rw [Int.tmod_eq_emod_of_nonneg (by omega)]; omega
  have at3 : wrap64 (Int.tdiv (a : Int) 64) = ((a / 64 : Nat) : Int) := by rw [Int.tdiv_eq_ediv_of_nonneg (by omega), bS _ (by omega) (by omega)]; omega
  have hq : a / 64 ≤ 8 := by omega
  have hr : a % 64 < 64 := Nat.mod_lt _ (by decide)
  have hm : a = 64 * (a / 64) + a % 64 := by omega
  have ev : s * 2 ^ (e + 298).toNat = s * 2 ^ (a % 64) * 2 ^ (64 * (a / 64)) := by
    rw [Nat.mul_assoc, ← Nat.pow_add]; congr 2; omega
  rw [ev]
  have l0 : (List.replicate 10 (0 : Int)).length = 10 := rfl
  have z0 : lo (List.replicate 10 (0 : Int)) 10 = 0 := (qP 10).mpr fun i _ => pO i
  generalize hqq : a / 64 = q at *
  generalize hrr : a % 64 = r at *
  have iq : q < 10 := by omega
  have iq1 : q + 1 < 10 := by omega
  have iqn : ¬ q + 1 = q := by omega
  have i1 : (0 : Int) ≤ (r : Int) := by omega
  have i2 : (0 : Int) ≤ (q : Int) := by omega
  have i3 : (q : Int) < 10 := by omega
  have hs64 : s < 18446744073709551616 := by omega
  have M : s * 2 ^ r % 18446744073709551616 < 18446744073709551616 := Nat.mod_lt _ (by decide)
  have b1 := hz.set q (s * 2 ^ r % 18446744073709551616) iq M
  have b2 := aBt (List.replicate 10 (0 : Int)) q (s * 2 ^ r % 18446744073709551616) (by rw [l0]; exact iq) (pO q) 10 iq
  rw [z0, Nat.zero_add] at b2
  by_cases r0 : r = 0
  · have i4 : ¬ (0 : Int) < (r : Int) := by omega
    refine ⟨_, b1, ?_, Ev.congr (fun n => bY.eq n neg e (s : Int)) (Ev.congr (fun n => ?_) (Ev.now _))⟩
    · rw [b2, r0, Nat.pow_zero, Nat.mul_one, Nat.mod_eq_of_lt (by omega)]
    · rw [at1, at2, at3, if_pos i1, if_pos i2, if_pos i3, if_neg i4, jM, Int.toNat_natCast]
  · have i4 : (0 : Int) < (r : Int) := by omega
    have i5 : (q : Int) < 9 := by omega
    have i6 : (0 : Int) ≤ ((64 - r : Nat) : Int) := by omega
    have i7 : (0 : Int) ≤ ((q + 1 : Nat) : Int) := by omega
    have i8 : ((q + 1 : Nat) : Int) < 10 := by omega
    have S : s / 2 ^ (64 - r) < 18446744073709551616 := Nat.lt_of_le_of_lt (Nat.div_le_self _ _) (by omega)
    have b3 := b1.set (q + 1) (s / 2 ^ (64 - r)) iq1 S
    have l1 : (List.set (List.replicate 10 (0 : Int)) q ((s * 2 ^ r % 18446744073709551616 : Nat) : Int)).length = 10 := by rw [List.length_set]; rfl
    have b4 := aBt (List.set (List.replicate 10 (0 : Int)) q ((s * 2 ^ r % 18446744073709551616 : Nat) : Int)) (q + 1) (s / 2 ^ (64 - r)) (by rw [l1]; exact iq1) (by rw [mP _ _ _ _ (by rw [l0]; exact iq), if_neg iqn]; exact pO _) 10 iq1
    refine ⟨_, b3, ?_, Ev.congr (fun n => bY.eq n neg e (s : Int)) (Ev.congr (fun n => ?_) (Ev.now _))⟩
    · rw [b4, b2, show 64 * (q + 1) = 64 + 64 * q by omega, Nat.pow_add, ← Nat.mul_assoc, ← Nat.add_mul]
      refine congrArg (· * 2 ^ (64 * q)) ?_
      have h64 : (2 : Nat) ^ 64 = 18446744073709551616 := by decide
      have hd : s * 2 ^ r / 18446744073709551616 = s / 2 ^ (64 - r) := by
        rw [← h64, show (2 : Nat) ^ 64 = 2 ^ (64 - r) * 2 ^ r by rw [← Nat.pow_add]; congr 1; omega]
        exact Nat.mul_div_mul_right _ _ (Nat.two_pow_pos r)
      rw [← hd, h64]
      have := Nat.div_add_mod (s * 2 ^ r) 18446744073709551616
      clear b1 b2 b3 b4 ev
      generalize s * 2 ^ r = Q at *
      omega
    · have t1 : wrap64 (64 - (r : Int)) = ((64 - r : Nat) : Int) := by rw [bS _ (by omega) (by omega)]; omega
      have t2 : wrap64 ((q : Int) + 1) = ((q + 1 : Nat) : Int) := by rw [bS _ (by omega) (by omega)]; omega
      rw [at1, at2, at3, if_pos i1, if_pos i2, if_pos i3, if_pos i4, if_pos i5, t1, t2, if_pos i6, if_pos i7, if_pos i8, jM, mE _ _ hs64, Int.toNat_natCast, Int.toNat_natCast]
def anyL (xs : List Int) : Nat → Nat → Bool
  | _, 0 => false
  | j, m + 1 => decide (lim xs j ≠ 0) || anyL xs (j + 1) m
theorem sO (xs : List Int) (m : Nat) : ∀ j, anyL xs j m = false ↔ ∀ q, j ≤ q → q < j + m → lim xs q = 0 := by
  induction m with
  | zero => exact fun j => ⟨fun _ q h1 h2 => by omega, fun _ => rfl⟩
  | succ m ih =>
    intro j
    unfold anyL
    rw [Bool.or_eq_false_iff, ih (j + 1), decide_eq_false_iff_not]
    constructor
    · rintro ⟨h1, h2⟩ q h3 h4
      by_cases c : q = j
      · rw [c]; exact Decidable.not_not.mp h1
      · exact h2 q (by omega) (by omega)
    · intro h
      exact ⟨fun c => c (h j (Nat.le_refl _) (by omega)), fun q h1 h2 => h q (by omega) (by omega)⟩
theorem anyL_lo (xs : List Int) (m : Nat) : anyL xs 0 m = decide (lo xs m ≠ 0) := by
  cases h : anyL xs 0 m
  · have := (sO xs m 0).mp h
    rw [decide_eq_false (show ¬ lo xs m ≠ 0 from fun c => c ((qP m).mpr fun i hi => this i (Nat.zero_le _) (by omega)))]
  · have hne : lo xs m ≠ 0 := fun c => by
      have := (sO xs m 0).mpr (fun q _ hq => (qP m).mp c q (by omega))
      rw [h] at this; cases this
    rw [decide_eq_true hne]
theorem xB (f mode e sig top : Int) (i : Nat) (neg c0 c1 c2 c3 c4 : Bool) {xs : List Int} (hx : kD xs) (r : Int × Bool × Bool × Bool × Bool × Bool) (ht : top = (i : Int) + 1) (hi : i < 10) (m : Nat) : ∀ (j : Nat) (more : Bool), j + m = i →
    Ev (fun n => (aA.f n f mode neg e sig (more || anyL xs j m))) r →
    Ev2 (fun k n => aK.l19 k n (j : Int) more e sig top mode f c0 c1 c2 c3 c4 neg xs) r := by
  induction m with
  | zero =>
    intro j more hj h
    obtain rfl : j = i := by omega
    have h : Ev (fun n => aA.f n f mode neg e sig (more || false)) r := h
    rw [Bool.or_false] at h
    refine Ev2.step (fun k n => by rw [aK.l19_eq, ht, bS _ (by omega) (by omega), if_neg (by omega)]) ?_
    exact Ev2.bind h (Ev2.now _)
  | succ m ih =>
    intro j more hj h
    have j0 : (0 : Int) ≤ (j : Int) := by omega
    have j1 : (j : Int) < 10 := by omega
    have next : ∀ b : Bool, (more || anyL xs j (m + 1)) = (b || anyL xs (j + 1) m) → Ev2 (fun k n => aK.l19 k n ((j + 1 : Nat) : Int) b e sig top mode f c0 c1 c2 c3 c4 neg xs) r := fun b hb => ih (j + 1) b (by omega) (by rw [← hb]; exact h)
    have hw : wrap64 ((j : Int) + 1) = ((j + 1 : Nat) : Int) := by rw [bS _ (by omega) (by omega)]; omega
    refine Ev2.step (fun k n => by rw [aK.l19_eq, ht, bS ((i : Int) + 1 - 1) (by omega) (by omega), if_pos (by omega), hw, ← ht]) ?_
    cases more
    · refine Ev2.congr (fun k n => by rw [if_neg (by decide), if_pos j0, if_pos j1, hx.rd j]) ?_
      by_cases z : lim xs j = 0
      · rw [z]
        refine next false ?_
        show (false || (decide (lim xs j ≠ 0) || anyL xs (j + 1) m)) = _
        rw [z]; rfl
      · have hb : ((lim xs j : Int) == 0) = false := beq_eq_false_iff_ne.mpr (by omega)
        rw [hb]
        refine next true ?_
        show (false || (decide (lim xs j ≠ 0) || anyL xs (j + 1) m)) = _
        rw [decide_eq_true z]; rfl
    · exact Ev2.congr (fun k n => by rw [if_pos rfl]) (next true rfl)
theorem wQ (f mode : Int) (i : Nat) (neg : Bool) {xs : List Int} (hx : kD xs) (hi : i + 1 < 10) (h0 : lim xs (i + 1) ≠ 0) :
    gD f mode neg (-298) (lo xs (i + 2)) false = gD f mode neg (64 * ((i : Int) + 1) - 298 - (64 - (fT (lim xs (i + 1)) : Int))) (lim xs (i + 1) * 2 ^ (64 - fT (lim xs (i + 1))) + lim xs i / 2 ^ fT (lim xs (i + 1))) (decide (lim xs i % 2 ^ fT (lim xs (i + 1)) ≠ 0) || decide (lo xs i ≠ 0)) ∧
    kY f mode neg (-298) (lo xs (i + 2)) false = kY f mode neg (64 * ((i : Int) + 1) - 298 - (64 - (fT (lim xs (i + 1)) : Int))) (lim xs (i + 1) * 2 ^ (64 - fT (lim xs (i + 1))) + lim xs i / 2 ^ fT (lim xs (i + 1))) (decide (lim xs i % 2 ^ fT (lim xs (i + 1)) ≠ 0) || decide (lo xs i ≠ 0)) ∧
    lim xs (i + 1) * 2 ^ (64 - fT (lim xs (i + 1))) + lim xs i / 2 ^ fT (lim xs (i + 1)) < 18446744073709551616 := by
  have hb := dS f
  have hp : 2 ^ (fm f + 1) ≤ 2 ^ 24 := Nat.pow_le_pow_right (by decide) (by omega)
  have hl := lo_lt hx i
  have ha := hx.lt (i + 1)
  have hc := hx.lt i
  rw [jL, jL]
  generalize lo xs i = W at *
  generalize lim xs (i + 1) = a at *
  generalize lim xs i = c at *
  have n1 := fZ a 64 ha
  have n2 := mH a h0
  have n3 := qZ a h0
  have n4 := nA a
  generalize fT a = n at *
  have pk : 2 ^ n * 2 ^ (64 - n) = 18446744073709551616 := by
    rw [← Nat.pow_add, show n + (64 - n) = 64 by omega]
  have pn := Nat.two_pow_pos n
  have pk0 := Nat.two_pow_pos (64 - n)
  have cd : c / 2 ^ n < 2 ^ (64 - n) := (Nat.div_lt_iff_lt_mul pn).mpr (by rw [Nat.mul_comm, pk]; exact hc)
  have cm := Nat.mod_lt c pn
  have cdm := Nat.div_add_mod c (2 ^ n)
  have a63 : 9223372036854775808 ≤ a * 2 ^ (64 - n) := by
    have h := Nat.mul_le_mul_right (2 ^ (64 - n)) n3
    rw [← Nat.pow_add, show n - 1 + (64 - n) = 63 by omega] at h
    have : (2 : Nat) ^ 63 = 9223372036854775808 := by decide
    omega
  have a64 : a * 2 ^ (64 - n) + 2 ^ (64 - n) ≤ 18446744073709551616 := by
    have h := Nat.mul_le_mul_right (2 ^ (64 - n)) n4
    rw [pk, Nat.succ_mul] at h; exact h
  have e : W + c * 2 ^ (64 * i) + a * 2 ^ (64 * (i + 1)) = (a * 2 ^ (64 - n) + c / 2 ^ n) * 2 ^ (n + 64 * i) + (c % 2 ^ n * 2 ^ (64 * i) + W) := by
    rw [Nat.pow_add, show 64 * (i + 1) = 64 + 64 * i by omega, Nat.pow_add, show (2 : Nat) ^ 64 = 2 ^ n * 2 ^ (64 - n) by rw [pk], ← Nat.mul_assoc, ← Nat.mul_assoc, ← Nat.mul_assoc, Nat.add_mul]
    have h1 : c * 2 ^ (64 * i) = c / 2 ^ n * 2 ^ n * 2 ^ (64 * i) + c % 2 ^ n * 2 ^ (64 * i) := by
      rw [← Nat.add_mul, Nat.mul_comm (c / 2 ^ n), cdm]
    rw [h1, Nat.add_mul, Nat.mul_right_comm a (2 ^ n)]
    generalize a * 2 ^ (64 - n) * 2 ^ n * 2 ^ (64 * i) = Z1
    generalize c / 2 ^ n * 2 ^ n * 2 ^ (64 * i) = Z2
    generalize c % 2 ^ n * 2 ^ (64 * i) = Z3
    omega
  have small : c % 2 ^ n * 2 ^ (64 * i) + W < 2 ^ (n + 64 * i) := by
    have h := Nat.mul_le_mul_right (2 ^ (64 * i)) (show c % 2 ^ n + 1 ≤ 2 ^ n from cm)
    rw [Nat.add_mul, Nat.one_mul, ← Nat.pow_add] at h
    exact Nat.lt_of_lt_of_le (Nat.add_lt_add_left hl _) h
  obtain ⟨q1, q2⟩ := kZ f mode neg (-298) (a * 2 ^ (64 - n) + c / 2 ^ n) (c % 2 ^ n * 2 ^ (64 * i) + W) (n + 64 * i) false small (Nat.le_trans hp (Nat.le_trans (show 2 ^ 24 ≤ a * 2 ^ (64 - n) by omega) (Nat.le_add_right _ _)))
  have t : decide (c % 2 ^ n * 2 ^ (64 * i) + W ≠ 0) = (decide (c % 2 ^ n ≠ 0) || decide (W ≠ 0)) := by
    have pi := Nat.two_pow_pos (64 * i)
    by_cases c0 : c % 2 ^ n = 0
    · rw [c0, Nat.zero_mul, Nat.zero_add]; simp
    · have : c % 2 ^ n * 2 ^ (64 * i) ≠ 0 := Nat.mul_ne_zero c0 (by omega)
      rw [decide_eq_true (show c % 2 ^ n * 2 ^ (64 * i) + W ≠ 0 by omega), decide_eq_true (show c % 2 ^ n ≠ 0 from c0)]; rfl
  rw [e, q1, q2, Bool.false_or, t, show (-298 : Int) + ((n + 64 * i : Nat) : Int) = 64 * ((i : Int) + 1) - 298 - (64 - (n : Int)) by omega]
  exact ⟨rfl, rfl, by omega⟩
theorem yO (i L : Nat) (hi : i < 10) (h1 : L ≤ 64) : wrap64 (wrap64 (wrap64 (64 * ((i + 1 : Nat) : Int)) - 298) - ((64 - L : Nat) : Int)) = 64 * ((i : Int) + 1) - 298 - (64 - (L : Int)) ∧ -10000 ≤ 64 * ((i : Int) + 1) - 298 - (64 - (L : Int)) ∧ 64 * ((i : Int) + 1) - 298 - (64 - (L : Int)) ≤ 10000 := by
  rw [bS (64 * _) (by omega) (by omega), bS (64 * _ - 298) (by omega) (by omega), bS _ (by omega) (by omega)]; omega
theorem aBu (c : Nat) (hc : c < 18446744073709551616) : (!((c : Int) == 0)) = decide (c % 2 ^ 64 ≠ 0) := by
  rw [show c % 2 ^ 64 = c from Nat.mod_eq_of_lt (by rw [show (2 : Nat) ^ 64 = 18446744073709551616 by decide]; exact hc)]
  by_cases c0 : c = 0
  · rw [c0]; rfl
  · rw [beq_eq_false_iff_ne.mpr (show (c : Int) ≠ 0 by omega), decide_eq_true c0]; rfl
theorem full_sig (a c : Nat) (hc : c < 18446744073709551616) : a * 2 ^ (64 - 64) + c / 2 ^ 64 = a := by
  rw [Nat.div_eq_of_lt (by rw [show (2 : Nat) ^ 64 = 18446744073709551616 by decide]; exact hc), Nat.sub_self, Nat.pow_zero, Nat.mul_one, Nat.add_zero]
theorem part_sig (a c L : Nat) (hL : L ≤ 64) (hc : c < 18446744073709551616) (n4 : a < 2 ^ L) : Go.bits .or .u64 (shl .u64 (a : Int) ((64 - L : Nat) : Int)) (shr .u64 (c : Int) (L : Int)) = ((a * 2 ^ (64 - L) + c / 2 ^ L : Nat) : Int) := by
  have e64 : L + (64 - L) = 64 := by clear n4 hc; omega
  have pn := Nat.two_pow_pos L
  have cd : c / 2 ^ L < 2 ^ (64 - L) := (Nat.div_lt_iff_lt_mul pn).mpr (by
    rw [← Nat.pow_add, Nat.add_comm, e64]; exact hc)
  have a64 : a * 2 ^ (64 - L) < 18446744073709551616 := by
    have h := Nat.mul_lt_mul_of_pos_right n4 (Nat.two_pow_pos (64 - L))
    rw [← Nat.pow_add, e64] at h; exact h
  rw [jM, mE _ _ hc, Nat.mod_eq_of_lt a64, yI _ _ a64 (Nat.lt_of_le_of_lt (Nat.div_le_self _ _) hc), lX _ _ (64 - L) (Nat.mul_mod_left _ _) cd]
theorem aAV (c L : Nat) (hL : L ≤ 64) : (!(shl .u64 (c : Int) ((64 - L : Nat) : Int) == 0)) = decide (c % 2 ^ L ≠ 0) := by
  have e64 : L + (64 - L) = 64 := by omega
  have h1 : c * 2 ^ (64 - L) % 18446744073709551616 = c % 2 ^ L * 2 ^ (64 - L) := by
    rw [show (18446744073709551616 : Nat) = 2 ^ L * 2 ^ (64 - L) by rw [← Nat.pow_add, e64]]
    exact Nat.mul_mod_mul_right _ _ _
  rw [jM, h1]
  by_cases c0 : c % 2 ^ L = 0
  · rw [c0, Nat.zero_mul]; rfl
  · have : c % 2 ^ L * 2 ^ (64 - L) ≠ 0 := Nat.mul_ne_zero c0 (Nat.ne_of_gt (Nat.two_pow_pos _))
    rw [beq_eq_false_iff_ne.mpr (show ((c % 2 ^ L * 2 ^ (64 - L) : Nat) : Int) ≠ 0 from fun e => this (Int.ofNat.inj e)), decide_eq_true c0]; rfl
theorem aBc (L : Nat) (n1 : L ≤ 64) : wrap64 (64 - (L : Int)) = ((64 - L : Nat) : Int) ∧ (0 : Int) ≤ (L : Int) ∧ (0 : Int) ≤ ((64 - L : Nat) : Int) := by
  rw [bS _ (by omega) (by omega)]; omega
theorem aBA (i : Nat) (h : i + 1 < 10) : (0 : Int) ≤ ((i + 1 : Nat) : Int) ∧ ((i + 1 : Nat) : Int) < 10 ∧ (0 : Int) < ((i + 1 : Nat) : Int) ∧ wrap64 (((i + 1 : Nat) : Int) - 1) = (i : Int) ∧ (0 : Int) ≤ (i : Int) ∧ (i : Int) < 10 ∧ ((i + 1 : Nat) : Int) = (i : Int) + 1 := by
  rw [bS _ (by omega) (by omega)]; omega
theorem zO {a : Nat} (h : a ≠ 0) : ¬ ((a : Int) = 0) := by omega
theorem wI (f mode : Int) (neg c0 c1 c2 c3 c4 : Bool) {xs : List Int} (i : Nat) (hi : i + 1 < 10) (a c L : Nat) (r : Int × Bool × Bool × Bool × Bool × Bool) (ra : rd xs ((i + 1 : Nat) : Int) = (a : Int)) (rc : rd xs (i : Int) = (c : Int)) (ha : a ≠ 0) (hc : c < 18446744073709551616) (n1 : L ≤ 64) (n4 : a < 2 ^ L)
    (hln : Ev (fun n => aR.f n (a : Int)) (L : Int))
    (fin : ∀ (more : Bool) (top : Int), top = (i : Int) + 1 → more = decide (c % 2 ^ L ≠ 0) →
          Ev2 (fun k n => aK.l19 k n ((0 : Nat) : Int) more (64 * ((i : Int) + 1) - 298 - (64 - (L : Int))) ((a * 2 ^ (64 - L) + c / 2 ^ L : Nat) : Int) top mode f c0 c1 c2 c3 c4 neg xs) r) :
    Ev2 (fun k n => aK.l2 k n ((i + 1 : Nat) : Int) mode f c0 c1 c2 c3 c4 neg xs) r := by
  obtain ⟨j0, j1, jp, hw, k0, k1, tp⟩ := aBA i hi
  obtain ⟨w1, l0, l1⟩ := aBc L n1
  have za := zO ha
  have w2 := (yO i L (Nat.lt_of_succ_lt hi) n1).1
  refine Ev2.step (fun k n => by rw [aK.zK, if_pos j0, if_pos j1, ra, if_neg za, if_pos j0, if_pos j1]) (Ev2.bind hln ?_)
  by_cases full : L = 64
  · have f1 : ((L : Int) = 64) := by rw [full]; rfl
    have f2 : ¬ ((L : Int) < 64) := by rw [f1]; decide
    have sg : a * 2 ^ (64 - L) + c / 2 ^ L = a := by rw [full]; exact full_sig a c hc
    have more : (!((c : Int) == 0)) = decide (c % 2 ^ L ≠ 0) := by rw [full]; exact aBu c hc
    rw [sg] at fin
    refine Ev2.congr (fun k n => by
      rw [if_pos j0, if_pos j1, if_pos jp, w1, if_pos l1, hw, if_pos k0, if_pos k1, if_pos l0, if_pos f1, if_pos j0, if_pos j1, if_pos k0, if_pos k1, if_neg f2, w2, rc, more]) ?_
    exact (fin _ _ tp rfl).inner
  · have f1 : ¬ ((L : Int) = 64) := fun e => full (by clear n4 fin hln; omega)
    have f2 : (L : Int) < 64 := by clear n4 fin hln; omega
    have sg := part_sig a c L n1 hc n4
    have more := aAV c L n1
    refine Ev2.congr (fun k n => by
      rw [if_pos j0, if_pos j1, if_pos jp, w1, if_pos l1, hw, if_pos k0, if_pos k1, if_pos l0, if_neg f1, if_pos k0, if_pos k1, if_pos f2, if_pos l1, w2, rc, sg, more]) ?_
    exact (fin _ _ tp rfl).inner
theorem yY (f mode : Int) (neg c0 c1 c2 c3 c4 : Bool) {xs : List Int} (hx : kD xs) (j : Nat) : j < 10 → lo xs (j + 1) ≠ 0 →
    Ev2 (fun k n => aK.l2 k n (j : Int) mode f c0 c1 c2 c3 c4 neg xs) ((gD f mode neg (-298) (lo xs (j + 1)) false : Int), false, false, kY f mode neg (-298) (lo xs (j + 1)) false) := by
  induction j with
  | zero =>
    intro _ h
    rw [jL, lC, Nat.zero_add, Nat.mul_zero, Nat.pow_zero, Nat.mul_one] at h ⊢
    have h1 := hx.lt 0
    have hp := mW f mode neg (-298) (lim xs 0) false h1
    rw [iP _ (by omega) (by omega)] at hp
    have w0 : wrap64 (wrap64 (64 * ((0 : Nat) : Int)) - 298) = -298 := by unfold wrap64; omega
    have r0 := hx.rd 0
    refine Ev2.step (fun k n => by rw [aK.zK, if_pos (by decide), if_pos (by decide), r0, if_neg (by omega), if_pos (by decide), if_pos (by decide)]) ?_
    refine Ev2.bind (oK _ h1) ?_
    refine Ev2.congr (fun k n => by rw [if_pos (by decide), if_pos (by decide), if_neg (by decide), w0]) ?_
    exact Ev2.bind hp (Ev2.now _)
  | succ i ih =>
    intro hj h
    have j0 : (0 : Int) ≤ ((i + 1 : Nat) : Int) := by omega
    have j1 : ((i + 1 : Nat) : Int) < 10 := by omega
    have jp : (0 : Int) < ((i + 1 : Nat) : Int) := by omega
    have hw : wrap64 (((i + 1 : Nat) : Int) - 1) = (i : Int) := by rw [bS _ (by omega) (by omega)]; omega
    have k0 : (0 : Int) ≤ (i : Int) := by omega
    have k1 : (i : Int) < 10 := by omega
    by_cases z : lim xs (i + 1) = 0
    · have e : lo xs (i + 1 + 1) = lo xs (i + 1) := by rw [jL xs (i + 1), z, Nat.zero_mul, Nat.add_zero]
      rw [e] at h ⊢
      refine Ev2.step (fun k n => by rw [aK.zK, if_pos j0, if_pos j1, hx.rd (i + 1), if_pos (by rw [z]; rfl), hw]) ?_
      exact ih (by omega) h
    · obtain ⟨p1, p2, p3⟩ := wQ f mode i neg hx (by omega) z
      have ha := hx.lt (i + 1)
      have hc := hx.lt i
      have ra := hx.rd (i + 1)
      have rc := hx.rd i
      have n1 := fZ _ 64 ha
      have n2 := mH _ z
      have n4 := nA (lim xs (i + 1))
      have hln := oK _ ha
      have fin : ∀ (more : Bool) (top : Int), top = (i : Int) + 1 → more = decide (lim xs i % 2 ^ fT (lim xs (i + 1)) ≠ 0) →
          Ev2 (fun k n => aK.l19 k n ((0 : Nat) : Int) more (64 * ((i : Int) + 1) - 298 - (64 - (fT (lim xs (i + 1)) : Int))) ((lim xs (i + 1) * 2 ^ (64 - fT (lim xs (i + 1))) + lim xs i / 2 ^ fT (lim xs (i + 1)) : Nat) : Int) top mode f c0 c1 c2 c3 c4 neg xs) ((gD f mode neg (-298) (lo xs (i + 1 + 1)) false : Int), false, false, kY f mode neg (-298) (lo xs (i + 1 + 1)) false) := by
        intro more top ht hm
        refine xB f mode _ _ top i neg c0 c1 c2 c3 c4 hx _ ht (by omega) i 0 more (by omega) ?_
        rw [anyL_lo, hm, p1, p2]
        have hp := mW f mode neg (64 * ((i : Int) + 1) - 298 - (64 - (fT (lim xs (i + 1)) : Int))) (lim xs (i + 1) * 2 ^ (64 - fT (lim xs (i + 1))) + lim xs i / 2 ^ fT (lim xs (i + 1))) (decide (lim xs i % 2 ^ fT (lim xs (i + 1)) ≠ 0) || decide (lo xs i ≠ 0)) p3
        have we := yO i (fT (lim xs (i + 1))) (Nat.lt_of_succ_lt hj) n1
        rw [iP _ we.2.1 we.2.2] at hp
        exact hp
      exact wI f mode neg c0 c1 c2 c3 c4 i hj _ _ _ _ (hx.rd (i + 1)) (hx.rd i) z hc n1 n4 hln fin
end Go.Proofs.YtolpdiifmacdbaaGreat.Round

/- Sums to all bits that rounding asks for: the program's, as plain numbers. -/
namespace Go.Proofs.YtolpdiifmacdbaaGreat.Round
open Go.RowKit Go.Proofs.YtolpdiifmacdbaaGreat.P Go.Proofs.YtolpdiifmacdbaaGreat.Num Go.Proofs.YtolpdiifmacdbaaGreat.BitsF Go.Proofs.YtolpdiifmacdbaaGreat.Fmt Go.Proofs.YtolpdiifmacdbaaGreatW.PrintWords Go.Proofs.YtolpdiifmacdbaaGreatW.PrintLast Go.Proofs.YtolpdiifmacdbaaGreatW.PrintMore

theorem up_shift (v n : Nat) (h : v * 2 ^ n < 18446744073709551616) : (jY v (-(n : Int))).1 = v * 2 ^ n := by
 have hp := Nat.two_pow_pos n
 have hv : v < 18446744073709551616 := Nat.lt_of_le_of_lt (Nat.le_mul_of_pos_right v hp) h
 rw [jV v n hv]
 exact Nat.mod_eq_of_lt h
theorem aA8 (n : Bool) (e : Int) (s : Nat) (m : Bool) (h : s ≠ 0) (h' : s < 4611686018427387904) (l : -100000 ≤ e) (l' : e ≤ 100000) : Ev (fun k => eD.f k n e (s : Int) m) (n, e - (jI s : Int), ((s * 2 ^ jI s : Nat) : Int), m) := by
 obtain ⟨a1, a2, a3, a4⟩ := iY s h h'
 have hw : wrap64 (62 - (fT s : Int)) = (jI s : Int) := by rw [bS _ (by omega) (by omega)]; omega
 refine Ev.congr (fun k => by unfold eD.f; rfl) (Ev.bind (aA5 s (by omega)) ?_)
 rw [hw, bS (-(jI s : Int)) (by omega) (by omega), bS (e - (jI s : Int)) (by omega) (by omega)]
 refine Ev.bind (qB s (by omega) (-(jI s : Int)) (by omega) (by omega)) ?_
 dsimp only
 rw [up_shift _ _ (by omega)]
 exact Ev.now _
def zN (r : Bool × Int × Nat × Bool) : Bool × Int × Int × Bool := (r.1, r.2.1, (r.2.2.1 : Int), r.2.2.2)
theorem sub_w (A L : Nat) (h : L ≤ A) (hA : A < 18446744073709551616) : IntKind.u64.wrap ((A : Int) - (L : Int)) = ((A - L : Nat) : Int) := by rw [jD]; omega
theorem aAp (A L : Nat) (h : L + 1 ≤ A) (hA : A < 18446744073709551616) : IntKind.u64.wrap (((A - L : Nat) : Int) - 1) = ((A - L - 1 : Nat) : Int) := by rw [jD]; omega
theorem aAn (na : Bool) (Ea : Int) (A : Nat) (nb : Bool) (Eb : Int) (B : Nat) (h : Eb ≤ Ea) (h0 : Ea = Eb → B ≤ A) (a1 : 2305843009213693952 ≤ A) (a2 : A < 4611686018427387904) (b2 : B < 4611686018427387904) (l1 : -200000 ≤ Eb) (l2 : Ea ≤ 200000) :
  Ev (fun k => aT.j1 k na Ea (A : Int) false nb Eb (B : Int) false) (zN (gB na Ea A nb Eb B)) := by
 obtain ⟨d, hd⟩ : ∃ d : Nat, Ea - Eb = (d : Int) := ⟨(Ea - Eb).toNat, by omega⟩
 have hlow : B / 2 ^ d ≤ A ∧ (B % 2 ^ d ≠ 0 → B / 2 ^ d + 1 ≤ A) := by
  rcases Nat.eq_zero_or_pos d with c | c
  ·subst c
   have := h0 (by omega)
   rw [Nat.pow_zero, Nat.div_one, Nat.mod_one]; omega
  ·have h2 : 2 ^ 1 ≤ 2 ^ d := Nat.pow_le_pow_right (by decide) c
   have h3 : B / 2 ^ d ≤ B / 2 := Nat.div_le_div_left h2 (by decide)
   omega
 have hl62 : B / 2 ^ d < 4611686018427387904 := Nat.lt_of_le_of_lt (Nat.div_le_self _ _) b2
 refine Ev.step (fun k => by rw [aT.j1, bS (Ea - Eb) (by omega) (by omega), hd]) (Ev.bind (qB B (by omega) (d : Int) (by omega) (by omega)) ?_)
 rw [iH]
 dsimp only
 unfold gB zN
 rw [hd, Int.toNat_natCast]
 by_cases n : na = nb
 ·subst n
  rw [if_pos rfl]
  refine Ev.congr (fun k => ?_) (Ev.now _)
  rw [if_pos (beq_self_eq_true na), ← Int.natCast_add, fH _ (by omega)]
 ·rw [if_neg n]
  have hb : ¬ (na == nb) = true := by rw [beq_iff_eq]; exact n
  by_cases o : B % 2 ^ d ≠ 0
  ·have := hlow.2 o
   rw [if_pos o]
   refine Ev.congr (fun k => ?_) (show Ev (fun k => aT.j2 k na Ea ((A - B / 2 ^ d - 1 : Nat) : Int) (decide (B % 2 ^ d ≠ 0))) (na, Ea, ((A - B / 2 ^ d - 1 : Nat) : Int), decide (B % 2 ^ d ≠ 0)) from Ev.step (fun k => by rw [aT.j2]) (Ev.now _))
   rw [if_neg hb, if_pos (decide_eq_true o)]
   rw [sub_w A _ hlow.1 (by omega), aAp A _ this (by omega)]
  ·rw [if_neg o, Nat.sub_zero]
   refine Ev.congr (fun k => ?_) (show Ev (fun k => aT.j2 k na Ea ((A - B / 2 ^ d : Nat) : Int) (decide (B % 2 ^ d ≠ 0))) (na, Ea, ((A - B / 2 ^ d : Nat) : Int), decide (B % 2 ^ d ≠ 0)) from Ev.step (fun k => by rw [aT.j2]) (Ev.now _))
   rw [if_neg hb, if_neg (show ¬ decide (B % 2 ^ d ≠ 0) = true by rw [decide_eq_true_iff]; exact o)]
   rw [sub_w A _ hlow.1 (by omega)]
theorem exact_ev (n1 : Bool) (e1 : Int) (s1 : Nat) (n2 : Bool) (e2 : Int) (s2 : Nat) (h1 : s1 < 4611686018427387904) (h2 : s2 < 4611686018427387904) (l1 : -100000 ≤ e1) (l1' : e1 ≤ 100000) (l2 : -100000 ≤ e2) (l2' : e2 ≤ 100000) :
  Ev (fun k => aT.f k n1 e1 (s1 : Int) false n2 e2 (s2 : Int) false) (zN (kV n1 e1 s1 n2 e2 s2)) := by
 refine Ev.congr (fun k => by unfold aT.f; rfl) ?_
 unfold kV
 by_cases z1 : s1 = 0
 ·rw [if_pos z1]
  exact Ev.congr (fun k => by rw [if_pos (by omega)]; rfl) (Ev.now _)
 ·rw [if_neg z1]
  by_cases z2 : s2 = 0
  ·rw [if_pos z2]
   exact Ev.congr (fun k => by rw [if_neg (by omega), if_pos (by omega)]; rfl) (Ev.now _)
  ·rw [if_neg z2]
   obtain ⟨a1, a2, a3, a4⟩ := iY s1 z1 h1
   obtain ⟨b1, b2, b3, b4⟩ := iY s2 z2 h2
   refine Ev.congr (fun k => by rw [if_neg (by omega), if_neg (by omega)]) (Ev.bind (aA8 n1 e1 s1 false z1 h1 l1 l1') (Ev.bind (aA8 n2 e2 s2 false z2 h2 l2 l2') ?_))
   dsimp only
   generalize hE1 : e1 - (jI s1 : Int) = E1 at *
   generalize hE2 : e2 - (jI s2 : Int) = E2 at *
   generalize s1 * 2 ^ jI s1 = A at *
   generalize s2 * 2 ^ jI s2 = B at *
   have swap : (E1 < E2 ∨ E1 = E2 ∧ A < B) → Ev (fun k => aT.j0 k true n1 E1 (A : Int) false n2 E2 (B : Int) false) (zN (if E1 < E2 ∨ E1 = E2 ∧ A < B then gB n2 E2 B n1 E1 A else gB n1 E1 A n2 E2 B)) := by
    intro c
    rw [if_pos c]
    exact Ev.step (fun k => by rw [aT.j0, if_pos rfl]) (aAn n2 E2 B n1 E1 A (by omega) (by omega) b3 b4 a4 (by omega) (by omega))
   have stay : ¬ (E1 < E2 ∨ E1 = E2 ∧ A < B) → Ev (fun k => aT.j0 k false n1 E1 (A : Int) false n2 E2 (B : Int) false) (zN (if E1 < E2 ∨ E1 = E2 ∧ A < B then gB n2 E2 B n1 E1 A else gB n1 E1 A n2 E2 B)) := by
    intro c
    rw [if_neg c]
    exact Ev.step (fun k => by rw [aT.j0, if_neg (by decide)]) (aAn n1 E1 A n2 E2 B (by omega) (by omega) a3 a4 b4 (by omega) (by omega))
   by_cases c1 : E1 < E2
   ·exact Ev.congr (fun k => by rw [if_pos c1]) (swap (.inl c1))
   ·by_cases c2 : E1 = E2
    ·by_cases c3 : A < B
     ·exact Ev.congr (fun k => by rw [if_neg c1, if_pos c2, decide_eq_true (show (A : Int) < (B : Int) by omega)]) (swap (.inr ⟨c2, c3⟩))
     ·exact Ev.congr (fun k => by rw [if_neg c1, if_pos c2, decide_eq_false (show ¬ (A : Int) < (B : Int) by omega)]) (stay (by omega))
    ·exact Ev.congr (fun k => by rw [if_neg c1, if_neg c2]) (stay (by omega))
theorem vJ (n1 : Bool) (e1 : Int) (s1 : Nat) (n2 : Bool) (e2 : Int) (s2 : Nat) (h1 : s1 < 4611686018427387904) (h2 : s2 < 4611686018427387904) (l1 : -1000 ≤ e1) (l1' : e1 ≤ 1000) (l2 : -1000 ≤ e2) (l2' : e2 ≤ 1000) :
  -1100 ≤ (kV n1 e1 s1 n2 e2 s2).2.1 ∧ (kV n1 e1 s1 n2 e2 s2).2.1 ≤ 1000 ∧ (kV n1 e1 s1 n2 e2 s2).2.2.1 < 9223372036854775808 := by
 have meet : ∀ (na : Bool) (Ea : Int) (A : Nat) (nb : Bool) (Eb : Int) (B : Nat), A < 4611686018427387904 → B < 4611686018427387904 → (gB na Ea A nb Eb B).2.1 = Ea ∧ (gB na Ea A nb Eb B).2.2.1 < 9223372036854775808 := by
  intro na Ea A nb Eb B ha hb
  have hl := Nat.div_le_self B (2 ^ (Ea - Eb).toNat)
  unfold gB
  by_cases n : na = nb
  ·rw [if_pos n]; exact ⟨rfl, by show A + B / 2 ^ (Ea - Eb).toNat < _; omega⟩
  ·rw [if_neg n]; exact ⟨rfl, Nat.lt_of_le_of_lt (Nat.le_trans (Nat.sub_le _ _) (Nat.sub_le _ _)) (show A < 9223372036854775808 by omega)⟩
 unfold kV
 by_cases z1 : s1 = 0
 ·rw [if_pos z1]; dsimp only; omega
 ·rw [if_neg z1]
  by_cases z2 : s2 = 0
  ·rw [if_pos z2]; dsimp only; omega
  ·rw [if_neg z2]
   obtain ⟨a1, a2, a3, a4⟩ := iY s1 z1 h1
   obtain ⟨b1, b2, b3, b4⟩ := iY s2 z2 h2
   split
   ·have := meet n2 (e2 - (jI s2 : Int)) _ n1 (e1 - (jI s1 : Int)) _ b4 a4; omega
   ·have := meet n1 (e1 - (jI s1 : Int)) _ n2 (e2 - (jI s2 : Int)) _ a4 b4; omega
end Go.Proofs.YtolpdiifmacdbaaGreat.Round
