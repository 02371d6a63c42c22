import Derived.Test.YtolpdiifmacdbaaGreatQckM11
set_option linter.unusedVariables false
set_option linter.unusedSimpArgs false
namespace Go.Proofs.YtolpdiifmacdbaaGreat
noncomputable section
open Go.RowKit YtolpdiifmacdbaaGreatW.PrintWords YtolpdiifmacdbaaGreatW.PrintLast YtolpdiifmacdbaaGreatW.PrintMore
namespace Round
open P Num BitsF Fmt
def jC (n1 : Bool) (X : Nat) (n2 : Bool) (Y : Nat) : Bool × Nat := if n1 = n2 then (n1, X + Y) else if X < Y then (n2, Y - X) else (n1, X - Y)
theorem meet_add (f mode : Int) (n : Bool) (Ea Eb m : Int) (A B : Nat) (hm : m ≤ Eb) (h : Eb ≤ Ea) (a1 : 2305843009213693952 ≤ A) :
    (A * 2 ^ (Ea - m).toNat + B * 2 ^ (Eb - m).toNat ≠ 0) ∧ ¬ ((iC n Ea A n Eb B).2.2 = (0, false)) ∧ (iC n Ea A n Eb B).1 = n ∧
    gB f mode n (iC n Ea A n Eb B).2.1 (iC n Ea A n Eb B).2.2.1 (iC n Ea A n Eb B).2.2.2 = gB f mode n m (A * 2 ^ (Ea - m).toNat + B * 2 ^ (Eb - m).toNat) false ∧
    lZ f mode n (iC n Ea A n Eb B).2.1 (iC n Ea A n Eb B).2.2.1 (iC n Ea A n Eb B).2.2.2 = lZ f mode n m (A * 2 ^ (Ea - m).toNat + B * 2 ^ (Eb - m).toNat) false := by
  have hb := eP f
  have hp : 2 ^ (fm f + 1) ≤ 2 ^ 24 := Nat.pow_le_pow_right (by decide) (by omega)
  have hr : iC n Ea A n Eb B = (n, Ea, A + B / 2 ^ (Ea - Eb).toNat, decide (B % 2 ^ (Ea - Eb).toNat ≠ 0)) := by unfold iC; rw [if_pos rfl]
  have hs := uT m Eb Ea hm h
  rw [hr]
  dsimp only
  have hd : 0 < 2 ^ (Ea - Eb).toNat := Nat.two_pow_pos _
  have hu : 0 < 2 ^ (Eb - m).toNat := Nat.two_pow_pos _
  have hdm := Nat.div_add_mod B (2 ^ (Ea - Eb).toNat)
  have ht := Nat.mod_lt B hd
  obtain ⟨q, hq⟩ : ∃ q, B / 2 ^ (Ea - Eb).toNat = q := ⟨_, rfl⟩
  obtain ⟨t, htt⟩ : ∃ t, B % 2 ^ (Ea - Eb).toNat = t := ⟨_, rfl⟩
  rw [hq, htt] at hdm ⊢
  rw [htt] at ht
  have e : A * 2 ^ (Ea - m).toNat + B * 2 ^ (Eb - m).toNat = ((A + q) * 2 ^ (Ea - Eb).toNat + t) * 2 ^ (Eb - m).toNat := by
    rw [hs, ← Nat.mul_assoc, ← Nat.add_mul, Nat.add_mul A, Nat.add_assoc, Nat.mul_comm q, hdm]
  obtain ⟨p1, p2⟩ := nY f mode n m ((A + q) * 2 ^ (Ea - Eb).toNat + t) (Eb - m).toNat
  obtain ⟨q1, q2⟩ := nH f mode n Eb (A + q) t (Ea - Eb).toNat false ht (by omega)
  rw [show m + ((Eb - m).toNat : Int) = Eb by omega] at p1 p2
  rw [show Eb + ((Ea - Eb).toNat : Int) = Ea by omega, Bool.false_or] at q1 q2
  refine ⟨?_, fun z => ?_, rfl, ?_, ?_⟩
  · have := Nat.mul_le_mul a1 (Nat.two_pow_pos (Ea - m).toNat); omega
  · have := (Prod.mk.inj z).1; omega
  · rw [e, p1, q1]
  · rw [e, p2, q2]
theorem aDg (f mode : Int) (n n' : Bool) (hn : n ≠ n') (Ea Eb m : Int) (A B : Nat) (hm : m ≤ Eb) (h : Eb ≤ Ea) (_ : Ea = Eb → B ≤ A) (a1 : 2305843009213693952 ≤ A) (b2 : B < 4611686018427387904) (b4 : B % 4 = 0) :
    (A * 2 ^ (Ea - m).toNat - B * 2 ^ (Eb - m).toNat = 0 ↔ (iC n Ea A n' Eb B).2.2 = (0, false)) ∧ (iC n Ea A n' Eb B).1 = n ∧
    (A * 2 ^ (Ea - m).toNat - B * 2 ^ (Eb - m).toNat ≠ 0 → gB f mode n (iC n Ea A n' Eb B).2.1 (iC n Ea A n' Eb B).2.2.1 (iC n Ea A n' Eb B).2.2.2 = gB f mode n m (A * 2 ^ (Ea - m).toNat - B * 2 ^ (Eb - m).toNat) false ∧
    lZ f mode n (iC n Ea A n' Eb B).2.1 (iC n Ea A n' Eb B).2.2.1 (iC n Ea A n' Eb B).2.2.2 = lZ f mode n m (A * 2 ^ (Ea - m).toNat - B * 2 ^ (Eb - m).toNat) false) := by
  have hb := eP f
  have hp : 2 ^ (fm f + 1) ≤ 2 ^ 24 := Nat.pow_le_pow_right (by decide) (by omega)
  have hr : iC n Ea A n' Eb B = (n, Ea, A - B / 2 ^ (Ea - Eb).toNat - (if B % 2 ^ (Ea - Eb).toNat ≠ 0 then 1 else 0), decide (B % 2 ^ (Ea - Eb).toNat ≠ 0)) := by unfold iC; rw [if_neg hn]
  have hs := uT m Eb Ea hm h
  rw [hr]
  dsimp only
  have hd : 0 < 2 ^ (Ea - Eb).toNat := Nat.two_pow_pos _
  have hu : 0 < 2 ^ (Eb - m).toNat := Nat.two_pow_pos _
  have hdm := Nat.div_add_mod B (2 ^ (Ea - Eb).toNat)
  have ht := Nat.mod_lt B hd
  have hX : A * 2 ^ (Ea - m).toNat - B * 2 ^ (Eb - m).toNat = (A * 2 ^ (Ea - Eb).toNat - B) * 2 ^ (Eb - m).toNat := by rw [hs, ← Nat.mul_assoc, ← Nat.sub_mul]
  by_cases t0 : B % 2 ^ (Ea - Eb).toNat = 0
  · rw [if_neg (show ¬ (B % 2 ^ (Ea - Eb).toNat ≠ 0) by omega), decide_eq_false (show ¬ (B % 2 ^ (Ea - Eb).toNat ≠ 0) by omega), Nat.sub_zero]
    have e : A * 2 ^ (Ea - m).toNat - B * 2 ^ (Eb - m).toNat = (A - B / 2 ^ (Ea - Eb).toNat) * 2 ^ (Ea - m).toNat := by
      rw [hX, hs, ← Nat.mul_assoc, Nat.sub_mul A]
      congr 2
      rw [t0, Nat.add_zero, Nat.mul_comm] at hdm
      exact hdm.symm
    obtain ⟨p1, p2⟩ := nY f mode n m (A - B / 2 ^ (Ea - Eb).toNat) (Ea - m).toNat
    rw [show m + ((Ea - m).toNat : Int) = Ea by omega] at p1 p2
    rw [e]
    have hw : 0 < 2 ^ (Ea - m).toNat := Nat.two_pow_pos _
    refine ⟨⟨fun z => ?_, fun z => ?_⟩, rfl, fun _ => ⟨p1.symm, p2.symm⟩⟩
    · rcases Nat.mul_eq_zero.mp z with z | z
      · rw [z]
      · omega
    · rw [(Prod.mk.inj z).1, Nat.zero_mul]
  · rw [if_pos t0, decide_eq_true (show B % 2 ^ (Ea - Eb).toNat ≠ 0 from t0)]
    have h3 : 3 ≤ (Ea - Eb).toNat := by
      rcases Nat.lt_or_ge (Ea - Eb).toNat 3 with c | c
      · exfalso
        have : (Ea - Eb).toNat = 0 ∨ (Ea - Eb).toNat = 1 ∨ (Ea - Eb).toNat = 2 := by omega
        rcases this with c | c | c <;> rw [c] at t0 <;> simp at t0 <;> omega
      · exact c
    have h8 : 2 ^ 3 ≤ 2 ^ (Ea - Eb).toNat := Nat.pow_le_pow_right (by decide) h3
    have hq : B / 2 ^ (Ea - Eb).toNat ≤ B / 2 ^ 3 := Nat.div_le_div_left h8 (by decide)
    have e : A * 2 ^ (Ea - m).toNat - B * 2 ^ (Eb - m).toNat = ((A - B / 2 ^ (Ea - Eb).toNat - 1) * 2 ^ (Ea - Eb).toNat + (2 ^ (Ea - Eb).toNat - B % 2 ^ (Ea - Eb).toNat)) * 2 ^ (Eb - m).toNat := by
      rw [hX]
      congr 1
      generalize 2 ^ (Ea - Eb).toNat = D at *
      generalize hqq : B / D = q at *
      generalize B % D = t at *
      have h1 : (A - q - 1) * D + D = (A - q) * D := by
        rw [← Nat.succ_mul]; congr 1; omega
      have h2 : (A - q) * D = A * D - D * q := by rw [Nat.sub_mul, Nat.mul_comm q]
      have h4 : D * q + D ≤ A * D := by
        rw [← Nat.mul_succ, Nat.mul_comm A]; exact Nat.mul_le_mul_left _ (by omega)
      omega
    have hqb : B / 2 ^ (Ea - Eb).toNat ≤ 576460752303423488 := by omega
    obtain ⟨p1, p2⟩ := nY f mode n m ((A - B / 2 ^ (Ea - Eb).toNat - 1) * 2 ^ (Ea - Eb).toNat + (2 ^ (Ea - Eb).toNat - B % 2 ^ (Ea - Eb).toNat)) (Eb - m).toNat
    obtain ⟨q1, q2⟩ := nH f mode n Eb (A - B / 2 ^ (Ea - Eb).toNat - 1) (2 ^ (Ea - Eb).toNat - B % 2 ^ (Ea - Eb).toNat) (Ea - Eb).toNat false (by omega) (by omega)
    rw [show m + ((Eb - m).toNat : Int) = Eb by omega] at p1 p2
    rw [show Eb + ((Ea - Eb).toNat : Int) = Ea by omega, Bool.false_or, decide_eq_true (show 2 ^ (Ea - Eb).toNat - B % 2 ^ (Ea - Eb).toNat ≠ 0 by omega)] at q1 q2
    rw [e]
    refine ⟨⟨fun z => ?_, fun z => ?_⟩, rfl, fun _ => ⟨by rw [p1, q1], by rw [p2, q2]⟩⟩
    · exfalso
      rcases Nat.mul_eq_zero.mp z with z | z <;> omega
    · have := (Prod.mk.inj z).2; cases this
theorem qZ (f mode : Int) (n1 : Bool) (e1 : Int) (s1 : Nat) (n2 : Bool) (e2 : Int) (s2 : Nat) (l1 : -298 ≤ e1) (l2 : -298 ≤ e2) (h1 : s1 < 1152921504606846976) (h2 : s2 < 1152921504606846976) :
    fP f mode n1 n2 (kT n1 e1 s1 n2 e2 s2) = (if (jC n1 (s1 * 2 ^ (e1 + 298).toNat) n2 (s2 * 2 ^ (e2 + 298).toNat)).2 = 0 then lY f mode n1 n2 else gB f mode (jC n1 (s1 * 2 ^ (e1 + 298).toNat) n2 (s2 * 2 ^ (e2 + 298).toNat)).1 (-298) (jC n1 (s1 * 2 ^ (e1 + 298).toNat) n2 (s2 * 2 ^ (e2 + 298).toNat)).2 false) ∧
    gK f mode (kT n1 e1 s1 n2 e2 s2) = (if (jC n1 (s1 * 2 ^ (e1 + 298).toNat) n2 (s2 * 2 ^ (e2 + 298).toNat)).2 = 0 then (false, false, false) else lZ f mode (jC n1 (s1 * 2 ^ (e1 + 298).toNat) n2 (s2 * 2 ^ (e2 + 298).toNat)).1 (-298) (jC n1 (s1 * 2 ^ (e1 + 298).toNat) n2 (s2 * 2 ^ (e2 + 298).toNat)).2 false) := by
  have one : ∀ (n : Bool) (e : Int) (s : Nat), -298 ≤ e → gB f mode n (-298) (s * 2 ^ (e + 298).toNat) false = gB f mode n e s false ∧ lZ f mode n (-298) (s * 2 ^ (e + 298).toNat) false = lZ f mode n e s false := fun n e s h => by
    have := nY f mode n (-298) s (e + 298).toNat
    rwa [show (-298 : Int) + ((e + 298).toNat : Int) = e by omega] at this
  have pos : ∀ (e : Int) (s : Nat), s ≠ 0 → s * 2 ^ (e + 298).toNat ≠ 0 := fun e s h => Nat.mul_ne_zero h (by have := Nat.two_pow_pos (e + 298).toNat; omega)
  unfold kT fP gK
  by_cases z1 : s1 = 0
  · subst z1
    rw [if_pos rfl, Nat.zero_mul]
    by_cases z2 : s2 = 0
    · subst z2
      have hw : (jC n1 0 n2 (0 * 2 ^ (e2 + 298).toNat)).2 = 0 := by unfold jC; rw [Nat.zero_mul]; split <;> rfl
      rw [if_pos rfl, if_pos hw, if_pos rfl, if_pos hw]; exact ⟨rfl, rfl⟩
    · have hw : jC n1 0 n2 (s2 * 2 ^ (e2 + 298).toNat) = (n2, s2 * 2 ^ (e2 + 298).toNat) := by
        unfold jC
        by_cases n : n1 = n2
        · rw [if_pos n, n, Nat.zero_add]
        · rw [if_neg n, if_pos (Nat.pos_of_ne_zero (pos e2 s2 z2)), Nat.sub_zero]
      have hne : ¬ (s2, false) = (0, false) := fun e => z2 (Prod.mk.inj e).1
      rw [hw, if_neg hne, if_neg hne, if_neg (pos e2 s2 z2), if_neg (pos e2 s2 z2)]
      exact ⟨(one n2 e2 s2 l2).1.symm, (one n2 e2 s2 l2).2.symm⟩
  · rw [if_neg z1]
    by_cases z2 : s2 = 0
    · subst z2
      have hw : jC n1 (s1 * 2 ^ (e1 + 298).toNat) n2 (0 * 2 ^ (e2 + 298).toNat) = (n1, s1 * 2 ^ (e1 + 298).toNat) := by
        unfold jC
        rw [Nat.zero_mul]
        by_cases n : n1 = n2
        · rw [if_pos n, Nat.add_zero]
        · rw [if_neg n, if_neg (Nat.not_lt_zero _), Nat.sub_zero]
      have hne : ¬ (s1, false) = (0, false) := fun e => z1 (Prod.mk.inj e).1
      rw [if_pos rfl, hw, if_neg hne, if_neg hne, if_neg (pos e1 s1 z1), if_neg (pos e1 s1 z1)]
      exact ⟨(one n1 e1 s1 l1).1.symm, (one n1 e1 s1 l1).2.symm⟩
    · rw [if_neg z2]
      obtain ⟨a1, a2, a3, a4⟩ := kG s1 z1 (by omega)
      obtain ⟨b1, b2, b3, b4⟩ := kG s2 z2 (by omega)
      have k1 := gP s1 60 h1
      have k2 := gP s2 60 h2
      have m1 : s1 * 2 ^ jQ s1 % 4 = 0 := by
        rw [show jQ s1 = (jQ s1 - 2) + 2 by omega, Nat.pow_add, ← Nat.mul_assoc]; exact Nat.mul_mod_left _ _
      have m2 : s2 * 2 ^ jQ s2 % 4 = 0 := by
        rw [show jQ s2 = (jQ s2 - 2) + 2 by omega, Nat.pow_add, ← Nat.mul_assoc]; exact Nat.mul_mod_left _ _
      have up1 : s1 * 2 ^ jQ s1 * 2 ^ (e1 - (jQ s1 : Int) - (-400)).toNat = s1 * 2 ^ (e1 + 298).toNat * 2 ^ 102 := by
        rw [Nat.mul_assoc, ← Nat.pow_add, Nat.mul_assoc, ← Nat.pow_add]; congr 2; omega
      have up2 : s2 * 2 ^ jQ s2 * 2 ^ (e2 - (jQ s2 : Int) - (-400)).toNat = s2 * 2 ^ (e2 + 298).toNat * 2 ^ 102 := by
        rw [Nat.mul_assoc, ← Nat.pow_add, Nat.mul_assoc, ← Nat.pow_add]; congr 2; omega
      have E1 : -400 ≤ e1 - (jQ s1 : Int) := by omega
      have E2 : -400 ≤ e2 - (jQ s2 : Int) := by omega
      have down : ∀ (n : Bool) (W : Nat), gB f mode n (-400) (W * 2 ^ 102) false = gB f mode n (-298) W false ∧ lZ f mode n (-400) (W * 2 ^ 102) false = lZ f mode n (-298) W false := fun n W => nY f mode n (-400) W 102
      clear one k1 k2 a1 a2 b1 b2
      have X0 := pos e1 s1 z1
      have Y0 := pos e2 s2 z2
      generalize s1 * 2 ^ (e1 + 298).toNat = X at *
      generalize s2 * 2 ^ (e2 + 298).toNat = Y at *
      generalize e1 - (jQ s1 : Int) = F at *
      generalize e2 - (jQ s2 : Int) = G at *
      generalize s1 * 2 ^ jQ s1 = A at *
      generalize s2 * 2 ^ jQ s2 = B at *
      have p102 : 0 < 2 ^ 102 := Nat.two_pow_pos _
      have main : ∀ (n n' : Bool) (F G : Int) (A B X Y : Nat), G ≤ F → (F = G → B ≤ A) → -400 ≤ G → 2305843009213693952 ≤ A → B < 4611686018427387904 → B % 4 = 0 → A * 2 ^ (F - (-400)).toNat = X * 2 ^ 102 → B * 2 ^ (G - (-400)).toNat = Y * 2 ^ 102 → X ≠ 0 →
          ∀ (w : Bool × Nat), w = (if n = n' then (n, X + Y) else (n, X - Y)) → ∀ (a b : Bool),
          (if (iC n F A n' G B).2.2 = (0, false) then lY f mode a b else gB f mode (iC n F A n' G B).1 (iC n F A n' G B).2.1 (iC n F A n' G B).2.2.1 (iC n F A n' G B).2.2.2) = (if w.2 = 0 then lY f mode a b else gB f mode w.1 (-298) w.2 false) ∧
          (if (iC n F A n' G B).2.2 = (0, false) then (false, false, false) else lZ f mode (iC n F A n' G B).1 (iC n F A n' G B).2.1 (iC n F A n' G B).2.2.1 (iC n F A n' G B).2.2.2) = (if w.2 = 0 then (false, false, false) else lZ f mode w.1 (-298) w.2 false) := by
        intro n n' F G A B X Y hGF h0 hG hA hB hB4 hX hY hX0 w hw a b
        by_cases c : n = n'
        · subst c
          rw [if_pos rfl] at hw
          subst hw
          obtain ⟨r1, r2, r3, r4, r5⟩ := meet_add f mode n F G (-400) A B hG hGF hA
          rw [hX, hY, ← Nat.add_mul] at r4 r5
          rw [(down n (X + Y)).1] at r4
          rw [(down n (X + Y)).2] at r5
          rw [if_neg r2, if_neg r2, r3, r4, r5]
          dsimp only
          rw [if_neg (show ¬ X + Y = 0 by omega), if_neg (show ¬ X + Y = 0 by omega)]
          exact ⟨rfl, rfl⟩
        · rw [if_neg c] at hw
          subst hw
          obtain ⟨r1, r2, r3⟩ := aDg f mode n n' c F G (-400) A B hG hGF h0 hA hB hB4
          rw [hX, hY, ← Nat.sub_mul] at r1 r3
          dsimp only
          by_cases z : X - Y = 0
          · rw [if_pos (r1.mp (by rw [z, Nat.zero_mul])), if_pos (r1.mp (by rw [z, Nat.zero_mul])), if_pos z, if_pos z]
            exact ⟨rfl, rfl⟩
          · have z' : (X - Y) * 2 ^ 102 ≠ 0 := Nat.mul_ne_zero z (by omega)
            obtain ⟨r4, r5⟩ := r3 z'
            rw [(down n (X - Y)).1] at r4
            rw [(down n (X - Y)).2] at r5
            rw [if_neg (fun e => z' (r1.mpr e)), if_neg (fun e => z' (r1.mpr e)), if_neg z, if_neg z, r2, r4, r5]
            exact ⟨rfl, rfl⟩
      have ord : ∀ (F G : Int) (A B X Y : Nat), 2305843009213693952 ≤ B → A < 4611686018427387904 → -400 ≤ F → A * 2 ^ (F - (-400)).toNat = X * 2 ^ 102 → B * 2 ^ (G - (-400)).toNat = Y * 2 ^ 102 → (F < G ∨ F = G ∧ A < B) → X < Y := by
        intro F G A B X Y hB hA hF hX hY c
        refine Nat.lt_of_mul_lt_mul_right (a := 2 ^ 102) ?_
        rw [← hX, ← hY]
        rcases c with c | ⟨rfl, c⟩
        · have hs : 2 ^ (G - (-400)).toNat = 2 ^ (G - F).toNat * 2 ^ (F - (-400)).toNat := uT (-400) F G hF (by omega)
          have h2 : 2 ^ 1 ≤ 2 ^ (G - F).toNat := Nat.pow_le_pow_right (by decide) (by omega)
          rw [hs, ← Nat.mul_assoc]
          refine Nat.mul_lt_mul_of_pos_right ?_ (Nat.two_pow_pos _)
          have := Nat.mul_le_mul hB h2
          omega
        · exact Nat.mul_lt_mul_of_pos_right c (Nat.two_pow_pos _)
      by_cases c : F < G ∨ F = G ∧ A < B
      · rw [if_pos c]
        have hlt := ord F G A B X Y b3 a4 E1 up1 up2 c
        have hw : jC n1 X n2 Y = (if n2 = n1 then (n2, Y + X) else (n2, Y - X)) := by
          unfold jC
          by_cases n : n1 = n2
          · rw [if_pos n, if_pos n.symm, n, Nat.add_comm]
          · rw [if_neg n, if_pos hlt, if_neg (show ¬ n2 = n1 from fun e => n e.symm)]
        exact main n2 n1 G F B A Y X (by omega) (by omega) E1 b3 a4 m1 up2 up1 Y0 _ hw n1 n2
      · rw [if_neg c]
        have hle : ¬ X < Y := by
          intro hlt
          by_cases c' : G < F ∨ G = F ∧ B < A
          · have := ord G F B A Y X a3 b4 E2 up2 up1 c'; omega
          · obtain rfl : F = G := by omega
            obtain rfl : A = B := by omega
            have h5 := up1.symm.trans up2
            have := Nat.eq_of_mul_eq_mul_right p102 h5
            omega
        have hw : jC n1 X n2 Y = (if n1 = n2 then (n1, X + Y) else (n1, X - Y)) := by
          unfold jC
          by_cases n : n1 = n2
          · rw [if_pos n, if_pos n]
          · rw [if_neg n, if_neg n, if_neg hle]
        exact main n1 n2 F G A B X Y (by omega) (by omega) E2 a3 b4 m2 up1 up2 X0 _ hw n1 n2
end Round
namespace Round
open P E Num BitsF Fmt
theorem below_l2 (xn yn : Bool) {xs ys : List Int} (hx : l6 xs) (hy : l6 ys) (j : Nat) (hj : j ≤ 10) : Ev2 (fun k n => bY.l2 k n ((j : Int) - 1) yn ys xn xs) (decide (lo xs j < lo ys j)) := by
  induction j with
  | zero => exact Ev2.step (fun k n => by rw [bY.aBa, if_neg (by omega), nJ, nJ]; rfl) (Ev2.now _)
  | succ j ih =>
    have a := lo_lt hx j
    have b := lo_lt hy j
    have q0 : (0 : Int) ≤ ((j + 1 : Nat) : Int) - 1 := by omega
    have q1 : ((j + 1 : Nat) : Int) - 1 < 10 := by omega
    have e : ((j + 1 : Nat) : Int) - 1 = (j : Int) := by omega
    refine Ev2.step (fun k n => by rw [bY.aBa, if_pos q0, if_pos q0, if_pos q1, if_pos q0, if_pos q1, e, hx.rd j, hy.rd j]) ?_
    rw [kW, kW]
    by_cases c : lim xs j = lim ys j
    · refine Ev2.congr (fun k n => by rw [if_pos (by rw [c]), cZ _ (by omega) (by omega)]) ?_
      rw [c]
      simp only [Nat.add_lt_add_iff_right]
      exact ih (by omega)
    · refine Ev2.congr (fun k n => by rw [if_neg (by omega), if_pos (by omega), if_pos (by omega), if_pos (by omega), if_pos (by omega)]) ?_
      have h : decide ((lim xs j : Int) < (lim ys j : Int)) = decide (lo xs j + lim xs j * 2 ^ (64 * j) < lo ys j + lim ys j * 2 ^ (64 * j)) := by
        apply decide_eq_decide.mpr
        rcases Nat.lt_or_gt_of_ne c with c | c
        · have := Nat.mul_le_mul_right (2 ^ (64 * j)) (show lim xs j + 1 ≤ lim ys j from c)
          rw [Nat.add_mul] at this; omega
        · have := Nat.mul_le_mul_right (2 ^ (64 * j)) (show lim ys j + 1 ≤ lim xs j from c)
          rw [Nat.add_mul] at this; omega
      rw [← h]; exact Ev2.now _
theorem below_ev (xn yn : Bool) {xs ys : List Int} (hx : l6 xs) (hy : l6 ys) : Ev (fun n => E.bY.f n xn xs yn ys) (decide (lo xs 10 < lo ys 10)) :=
  Ev.congr (fun n => bY.eq n xn xs yn ys) (below_l2 xn yn hx hy 10 (by decide)).diag
theorem limb_sub (x y b : Nat) (hx : x < 18446744073709551616) (hy : y < 18446744073709551616) (hb : b ≤ 1) :
    ∃ d c : Nat, d < 18446744073709551616 ∧ c ≤ 1 ∧ d + y + b = x + c * 18446744073709551616 ∧ IntKind.u64.wrap (IntKind.u64.wrap ((x : Int) - (y : Int)) - (b : Int)) = (d : Int) ∧
      (c = 1 ↔ ((x : Int) < (y : Int) ∨ IntKind.u64.wrap ((x : Int) - (y : Int)) < (b : Int))) := by
  rw [kP, kP]
  by_cases c : x < y + b
  · exact ⟨x + 18446744073709551616 - y - b, 1, by omega, by omega, by omega, by omega, by omega⟩
  · exact ⟨x - y - b, 0, by omega, by omega, by omega, by omega, by omega⟩
theorem limb_add (x y b : Nat) (hx : x < 18446744073709551616) (hy : y < 18446744073709551616) (hb : b ≤ 1) :
    ∃ d c : Nat, d < 18446744073709551616 ∧ c ≤ 1 ∧ x + y + b = d + c * 18446744073709551616 ∧ IntKind.u64.wrap (IntKind.u64.wrap ((x : Int) + (y : Int)) + (b : Int)) = (d : Int) ∧
      (c = 1 ↔ (IntKind.u64.wrap ((x : Int) + (y : Int)) < (x : Int) ∨ IntKind.u64.wrap (IntKind.u64.wrap ((x : Int) + (y : Int)) + (b : Int)) < IntKind.u64.wrap ((x : Int) + (y : Int)))) := by
  rw [kP, kP]
  by_cases c : x + y + b < 18446744073709551616
  · exact ⟨x + y + b, 0, by omega, by omega, by omega, by omega, by omega⟩
  · exact ⟨x + y + b - 18446744073709551616, 1, by omega, by omega, by omega, by omega, by omega⟩
theorem aAr (ln xn yn : Bool) (z : List Int) {xs ys : List Int} (hx : l6 xs) (hy : l6 ys) (m : Nat) : ∀ (i : Nat) (b : Nat) (L : List Int), i + m = 10 → l6 L → b ≤ 1 → lo L i + lo ys i = lo xs i + b * 2 ^ (64 * i) → (∀ j, i ≤ j → lim L j = lim xs j) →
    ∃ (R : List Int) (c : Nat), Ev2 (fun k n => bP.l5 k n (i : Int) (b : Int) ln z yn ys xn L) (xn, R) ∧ l6 R ∧ lo R 10 + lo ys 10 = lo xs 10 + c * T640 := by
  induction m with
  | zero =>
    intro i b L hi hL hb h1 h2
    obtain rfl : i = 10 := by omega
    exact ⟨L, b, Ev2.step (fun k n => by rw [bP.aBO, if_neg (by omega)]) (Ev2.now _), hL, by rw [← xC]; exact h1⟩
  | succ m ih =>
    intro i b L hi hL hb h1 h2
    have i1 : (i : Int) < 10 := by omega
    have i0 : (0 : Int) ≤ (i : Int) := by omega
    have e := h2 i (Nat.le_refl _)
    obtain ⟨d, c, d1, c1, d2, d3, d4⟩ := limb_sub (lim xs i) (lim ys i) b (hx.lt i) (hy.lt i) hb
    have hlen : i < L.length := by rw [hL.len]; omega
    have key : lo (L.set i (d : Int)) (i + 1) + lo ys (i + 1) = lo xs (i + 1) + c * 2 ^ (64 * (i + 1)) := by
      rw [kW, kW, kW, aBP L i _ hlen, pR L i i _ hlen, if_pos rfl, Int.toNat_natCast, show 64 * (i + 1) = 64 * i + 64 by omega, Nat.pow_add, show (2 : Nat) ^ 64 = 18446744073709551616 by decide, Nat.mul_comm (2 ^ (64 * i)), ← Nat.mul_assoc]
      have := congrArg (· * 2 ^ (64 * i)) d2
      simp only [Nat.add_mul] at this
      omega
    obtain ⟨R, q, r1, r2, r3⟩ := ih (i + 1) c (L.set i (d : Int)) (by omega) (hL.set i d (by omega) d1) c1 key (fun j hj => by rw [pR L i j _ hlen, if_neg (by omega)]; exact h2 j (by omega))
    refine ⟨R, q, ?_, r2, r3⟩
    refine Ev2.step (fun k n => by
      rw [bP.aBO, if_pos i1, if_pos i0, if_pos i1, if_pos i0, if_pos i1, if_pos i0, if_pos i1, if_pos i0, if_pos i1, hL.rd i, hy.rd i, e, d3, Int.toNat_natCast, cZ _ (by omega) (by omega), if_pos i0, if_pos i1]) ?_
    rw [show ((i : Int) + 1) = ((i + 1 : Nat) : Int) by omega]
    rcases Nat.lt_or_ge c 1 with c0 | c0
    · obtain rfl : c = 0 := by omega
      refine Ev2.congr (fun k n => by rw [if_neg (fun h => absurd (d4.mpr (.inl h)) (by decide)), if_neg (fun h => absurd (d4.mpr (.inr h)) (by decide)), if_pos i0, if_pos i1]) ?_
      exact r1
    · obtain rfl : c = 1 := by omega
      refine Ev2.congr (fun k n => ?_) r1
      by_cases t : (lim xs i : Int) < (lim ys i : Int)
      · rw [if_pos t]; rfl
      · rw [if_neg t, if_pos ((d4.mp rfl).resolve_left t)]; rfl
theorem plus_l5 (ln xn yn : Bool) (z : List Int) {xs ys : List Int} (hx : l6 xs) (hy : l6 ys) (m : Nat) : ∀ (i : Nat) (b : Nat) (L : List Int), i + m = 10 → l6 L → b ≤ 1 → lo L i + b * 2 ^ (64 * i) = lo xs i + lo ys i → (∀ j, i ≤ j → lim L j = lim xs j) →
    ∃ (R : List Int) (c : Nat), Ev2 (fun k n => bS.l5 k n (i : Int) (b : Int) ln z yn ys xn L) (xn, R) ∧ l6 R ∧ lo R 10 + c * T640 = lo xs 10 + lo ys 10 := by
  induction m with
  | zero =>
    intro i b L hi hL hb h1 h2
    obtain rfl : i = 10 := by omega
    exact ⟨L, b, Ev2.step (fun k n => by rw [bS.aBO, if_neg (by omega)]) (Ev2.now _), hL, by rw [← xC]; exact h1⟩
  | succ m ih =>
    intro i b L hi hL hb h1 h2
    have i1 : (i : Int) < 10 := by omega
    have i0 : (0 : Int) ≤ (i : Int) := by omega
    have e := h2 i (Nat.le_refl _)
    obtain ⟨d, c, d1, c1, d2, d3, d4⟩ := limb_add (lim xs i) (lim ys i) b (hx.lt i) (hy.lt i) hb
    have hlen : i < L.length := by rw [hL.len]; omega
    have key : lo (L.set i (d : Int)) (i + 1) + c * 2 ^ (64 * (i + 1)) = lo xs (i + 1) + lo ys (i + 1) := by
      rw [kW, kW, kW, aBP L i _ hlen, pR L i i _ hlen, if_pos rfl, Int.toNat_natCast, show 64 * (i + 1) = 64 * i + 64 by omega, Nat.pow_add, show (2 : Nat) ^ 64 = 18446744073709551616 by decide, Nat.mul_comm (2 ^ (64 * i)), ← Nat.mul_assoc]
      have := congrArg (· * 2 ^ (64 * i)) d2
      simp only [Nat.add_mul] at this
      omega
    obtain ⟨R, q, r1, r2, r3⟩ := ih (i + 1) c (L.set i (d : Int)) (by omega) (hL.set i d (by omega) d1) c1 key (fun j hj => by rw [pR L i j _ hlen, if_neg (by omega)]; exact h2 j (by omega))
    refine ⟨R, q, ?_, r2, r3⟩
    refine Ev2.step (fun k n => by
      rw [bS.aBO, if_pos i1, if_pos i0, if_pos i1, if_pos i0, if_pos i1, if_pos i0, if_pos i1, hL.rd i, hy.rd i, e, d3, Int.toNat_natCast, cZ _ (by omega) (by omega), if_pos i0, if_pos i1]) ?_
    rw [show ((i : Int) + 1) = ((i + 1 : Nat) : Int) by omega]
    rw [d3] at d4
    rcases Nat.lt_or_ge c 1 with c0 | c0
    · obtain rfl : c = 0 := by omega
      refine Ev2.congr (fun k n => by rw [if_neg (fun h => absurd (d4.mpr (.inl h)) (by decide)), if_neg (fun h => absurd (d4.mpr (.inr h)) (by decide)), if_pos i0, if_pos i1]) ?_
      exact r1
    · obtain rfl : c = 1 := by omega
      refine Ev2.congr (fun k n => ?_) r1
      by_cases t : IntKind.u64.wrap ((lim xs i : Int) + (lim ys i : Int)) < (lim xs i : Int)
      · rw [if_pos t]; rfl
      · rw [if_neg t, if_pos ((d4.mp rfl).resolve_left t)]; rfl
theorem aCp (xn yn : Bool) {xs ys : List Int} (hx : l6 xs) (hy : l6 ys) : ∃ R, l6 R ∧ lo R 10 = (if lo xs 10 < lo ys 10 then lo ys 10 - lo xs 10 else lo xs 10 - lo ys 10) ∧
    Ev (fun n => E.bP.f n xn xs yn ys) ((if lo xs 10 < lo ys 10 then yn else xn), R) := by
  have hb := below_ev xn yn hx hy
  have fin : ∀ (R : List Int) (c X Y : Nat), l6 R → lo R 10 + Y = X + c * T640 → Y ≤ X → lo R 10 = X - Y := by
    intro R c X Y hR h hle
    have hl := lo_top hR
    rcases Nat.eq_zero_or_pos c with c0 | c0
    · rw [c0, Nat.zero_mul] at h; omega
    · have : 1 * T640 ≤ _ := Nat.mul_le_mul_right T640 c0
      rw [Nat.one_mul] at this; omega
  by_cases c : lo xs 10 < lo ys 10
  · obtain ⟨R, q, r1, r2, r3⟩ := aAr false yn xn (0 :: List.replicate 9 0) hy hx 10 0 0 ys (by decide) hy (by decide) (by rw [nJ, nJ]) (fun _ _ => rfl)
    refine ⟨R, r2, by rw [if_pos c]; exact fin R q _ _ r2 r3 (by omega), ?_⟩
    refine Ev.congr (fun n => bP.eq n xn xs yn ys) (Ev.bind hb ?_)
    rw [if_pos c, decide_eq_true c]
    exact Ev.congr (fun n => by rw [if_pos rfl]; rfl) r1.diag
  · obtain ⟨R, q, r1, r2, r3⟩ := aAr false xn yn (0 :: List.replicate 9 0) hx hy 10 0 0 xs (by decide) hx (by decide) (by rw [nJ, nJ]) (fun _ _ => rfl)
    refine ⟨R, r2, by rw [if_neg c]; exact fin R q _ _ r2 r3 (by omega), ?_⟩
    refine Ev.congr (fun n => bP.eq n xn xs yn ys) (Ev.bind hb ?_)
    rw [if_neg c, decide_eq_false c]
    exact Ev.congr (fun n => by rw [if_neg (by decide)]; rfl) r1.diag
theorem aCk (xn : Bool) {xs ys : List Int} (hx : l6 xs) (hy : l6 ys) (h : lo xs 10 + lo ys 10 < T640) : ∃ R, l6 R ∧ lo R 10 = lo xs 10 + lo ys 10 ∧
    Ev (fun n => E.bS.f n xn xs xn ys) (xn, R) := by
  obtain ⟨R, q, r1, r2, r3⟩ := plus_l5 false xn xn (0 :: List.replicate 9 0) hx hy 10 0 0 xs (by decide) hx (by decide) (by rw [nJ, nJ]) (fun _ _ => rfl)
  refine ⟨R, r2, ?_, ?_⟩
  · rcases Nat.eq_zero_or_pos q with c0 | c0
    · rw [c0, Nat.zero_mul, Nat.add_zero] at r3; exact r3
    · have : 1 * T640 ≤ _ := Nat.mul_le_mul_right T640 c0
      rw [Nat.one_mul] at this; omega
  · exact Ev.congr (fun n => by rw [bS.eq, if_pos (beq_self_eq_true _)]; rfl) r1.diag
theorem aC5 (xn yn : Bool) (e : xn ≠ yn) {xs ys : List Int} (hx : l6 xs) (hy : l6 ys) : ∃ R, l6 R ∧ lo R 10 = (if lo xs 10 < lo ys 10 then lo ys 10 - lo xs 10 else lo xs 10 - lo ys 10) ∧
    Ev (fun n => E.bS.f n xn xs yn ys) ((if lo xs 10 < lo ys 10 then yn else xn), R) := by
  obtain ⟨R, r1, r2, r3⟩ := aCp xn yn hx hy
  refine ⟨R, r1, r2, ?_⟩
  refine Ev.congr (fun n => by rw [bS.eq, if_neg (by rw [beq_iff_eq]; exact e)]) (Ev.bind r3 (Ev.now _))
theorem plus_ev (xn yn : Bool) {xs ys : List Int} (hx : l6 xs) (hy : l6 ys) (h : lo xs 10 + lo ys 10 < T640) : ∃ R, l6 R ∧ lo R 10 = (jC xn (lo xs 10) yn (lo ys 10)).2 ∧
    Ev (fun n => E.bS.f n xn xs yn ys) ((jC xn (lo xs 10) yn (lo ys 10)).1, R) := by
  by_cases e : xn = yn
  · subst e
    obtain ⟨R, r1, r2, r3⟩ := aCk xn hx hy h
    have w : jC xn (lo xs 10) xn (lo ys 10) = (xn, lo xs 10 + lo ys 10) := if_pos rfl
    rw [w]
    exact ⟨R, r1, r2, r3⟩
  · obtain ⟨R, r1, r2, r3⟩ := aC5 xn yn e hx hy
    have w : jC xn (lo xs 10) yn (lo ys 10) = ((if lo xs 10 < lo ys 10 then yn else xn), (if lo xs 10 < lo ys 10 then lo ys 10 - lo xs 10 else lo xs 10 - lo ys 10)) := by
      unfold jC
      rw [if_neg e]
      split <;> rfl
    rw [w]
    exact ⟨R, r1, r2, r3⟩
theorem qU (neg : Bool) (e : Int) (s : Nat) (h1 : -298 ≤ e) (h2 : e ≤ 250) (hs : s < 1152921504606846976) : ∃ R, l6 R ∧ lo R 10 = s * 2 ^ (e + 298).toNat ∧ Ev (fun n => E.dB.f n neg e (s : Int)) (neg, R) := by
  obtain ⟨a, ha⟩ : ∃ a : Nat, e + 298 = (a : Int) := ⟨(e + 298).toNat, by omega⟩
  have hz := aCJ
  have at1 : wrap64 (e + 298) = (a : Int) := by rw [cZ _ (by omega) (by omega)]; exact ha
  have at2 : Int.tmod (a : Int) 64 = ((a % 64 : Nat) : Int) := by rw [Int.tmod_eq_emod_of_nonneg (by omega)]; omega
  have at3 : wrap64 (Int.tdiv (a : Int) 64) = ((a / 64 : Nat) : Int) := by rw [Int.tdiv_eq_ediv_of_nonneg (by omega), cZ _ (by omega) (by omega)]; omega
  have hq : a / 64 ≤ 8 := by omega
  have hr : a % 64 < 64 := Nat.mod_lt _ (by decide)
  have hm : a = 64 * (a / 64) + a % 64 := by omega
  have ev : s * 2 ^ (e + 298).toNat = s * 2 ^ (a % 64) * 2 ^ (64 * (a / 64)) := by
    rw [Nat.mul_assoc, ← Nat.pow_add]; congr 2; omega
  rw [ev]
  have l0 : (List.replicate 10 (0 : Int)).length = 10 := rfl
  have z0 : lo (List.replicate 10 (0 : Int)) 10 = 0 := (tX 10).mpr fun i _ => tC i
  generalize hqq : a / 64 = q at *
  generalize hrr : a % 64 = r at *
  have iq : q < 10 := by omega
  have iq1 : q + 1 < 10 := by omega
  have iqn : ¬ q + 1 = q := by omega
  have i1 : (0 : Int) ≤ (r : Int) := by omega
  have i2 : (0 : Int) ≤ (q : Int) := by omega
  have i3 : (q : Int) < 10 := by omega
  have hs64 : s < 18446744073709551616 := by omega
  have M : s * 2 ^ r % 18446744073709551616 < 18446744073709551616 := Nat.mod_lt _ (by decide)
  have b1 := hz.set q (s * 2 ^ r % 18446744073709551616) iq M
  have b2 := aBJ (List.replicate 10 (0 : Int)) q (s * 2 ^ r % 18446744073709551616) (by rw [l0]; exact iq) (tC q) 10 iq
  rw [z0, Nat.zero_add] at b2
  by_cases r0 : r = 0
  · have i4 : ¬ (0 : Int) < (r : Int) := by omega
    refine ⟨_, b1, ?_, Ev.congr (fun n => dB.eq n neg e (s : Int)) (Ev.congr (fun n => ?_) (Ev.now _))⟩
    · rw [b2, r0, Nat.pow_zero, Nat.mul_one, Nat.mod_eq_of_lt (by omega)]
    · rw [at1, at2, at3, if_pos i1, if_pos i2, if_pos i3, if_neg i4, kX, Int.toNat_natCast]
  · have i4 : (0 : Int) < (r : Int) := by omega
    have i5 : (q : Int) < 9 := by omega
    have i6 : (0 : Int) ≤ ((64 - r : Nat) : Int) := by omega
    have i7 : (0 : Int) ≤ ((q + 1 : Nat) : Int) := by omega
    have i8 : ((q + 1 : Nat) : Int) < 10 := by omega
    have S : s / 2 ^ (64 - r) < 18446744073709551616 := Nat.lt_of_le_of_lt (Nat.div_le_self _ _) (by omega)
    have b3 := b1.set (q + 1) (s / 2 ^ (64 - r)) iq1 S
    have l1 : (List.set (List.replicate 10 (0 : Int)) q ((s * 2 ^ r % 18446744073709551616 : Nat) : Int)).length = 10 := by rw [List.length_set]; rfl
    have b4 := aBJ (List.set (List.replicate 10 (0 : Int)) q ((s * 2 ^ r % 18446744073709551616 : Nat) : Int)) (q + 1) (s / 2 ^ (64 - r)) (by rw [l1]; exact iq1) (by rw [pR _ _ _ _ (by rw [l0]; exact iq), if_neg iqn]; exact tC _) 10 iq1
    refine ⟨_, b3, ?_, Ev.congr (fun n => dB.eq n neg e (s : Int)) (Ev.congr (fun n => ?_) (Ev.now _))⟩
    · rw [b4, b2, show 64 * (q + 1) = 64 + 64 * q by omega, Nat.pow_add, ← Nat.mul_assoc, ← Nat.add_mul]
      refine congrArg (· * 2 ^ (64 * q)) ?_
      have h64 : (2 : Nat) ^ 64 = 18446744073709551616 := by decide
      have hd : s * 2 ^ r / 18446744073709551616 = s / 2 ^ (64 - r) := by
        rw [← h64, show (2 : Nat) ^ 64 = 2 ^ (64 - r) * 2 ^ r by rw [← Nat.pow_add]; congr 1; omega]
        exact Nat.mul_div_mul_right _ _ (Nat.two_pow_pos r)
      rw [← hd, h64]
      have := Nat.div_add_mod (s * 2 ^ r) 18446744073709551616
      clear b1 b2 b3 b4 ev
      generalize s * 2 ^ r = Q at *
      omega
    · have t1 : wrap64 (64 - (r : Int)) = ((64 - r : Nat) : Int) := by rw [cZ _ (by omega) (by omega)]; omega
      have t2 : wrap64 ((q : Int) + 1) = ((q + 1 : Nat) : Int) := by rw [cZ _ (by omega) (by omega)]; omega
      rw [at1, at2, at3, if_pos i1, if_pos i2, if_pos i3, if_pos i4, if_pos i5, t1, t2, if_pos i6, if_pos i7, if_pos i8, kX, oH _ _ hs64, Int.toNat_natCast, Int.toNat_natCast]
def anyL (xs : List Int) : Nat → Nat → Bool
  | _, 0 => false
  | j, m + 1 => decide (lim xs j ≠ 0) || anyL xs (j + 1) m
theorem vY (xs : List Int) (m : Nat) : ∀ j, anyL xs j m = false ↔ ∀ q, j ≤ q → q < j + m → lim xs q = 0 := by
  induction m with
  | zero => exact fun j => ⟨fun _ q h1 h2 => by omega, fun _ => rfl⟩
  | succ m ih =>
    intro j
    unfold anyL
    rw [Bool.or_eq_false_iff, ih (j + 1), decide_eq_false_iff_not]
    constructor
    · rintro ⟨h1, h2⟩ q h3 h4
      by_cases c : q = j
      · rw [c]; exact Decidable.not_not.mp h1
      · exact h2 q (by omega) (by omega)
    · intro h
      exact ⟨fun c => c (h j (Nat.le_refl _) (by omega)), fun q h1 h2 => h q (by omega) (by omega)⟩
theorem anyL_lo (xs : List Int) (m : Nat) : anyL xs 0 m = decide (lo xs m ≠ 0) := by
  cases h : anyL xs 0 m
  · have := (vY xs m 0).mp h
    rw [decide_eq_false (show ¬ lo xs m ≠ 0 from fun c => c ((tX m).mpr fun i hi => this i (Nat.zero_le _) (by omega)))]
  · have hne : lo xs m ≠ 0 := fun c => by
      have := (vY xs m 0).mpr (fun q _ hq => (tX m).mp c q (by omega))
      rw [h] at this; cases this
    rw [decide_eq_true hne]
theorem zW (f mode e sig top : Int) (i : Nat) (neg c0 c1 c2 c3 c4 : Bool) {xs : List Int} (hx : l6 xs) (r : Int × Bool × Bool × Bool × Bool × Bool) (ht : top = (i : Int) + 1) (hi : i < 10) (m : Nat) : ∀ (j : Nat) (more : Bool), j + m = i →
    Ev (fun n => (aA.f n f mode neg e sig (more || anyL xs j m))) r →
    Ev2 (fun k n => aQ.l19 k n (j : Int) more e sig top mode f c0 c1 c2 c3 c4 neg xs) r := by
  induction m with
  | zero =>
    intro j more hj h
    obtain rfl : j = i := by omega
    have h : Ev (fun n => aA.f n f mode neg e sig (more || false)) r := h
    rw [Bool.or_false] at h
    refine Ev2.step (fun k n => by rw [aQ.l19_eq, ht, cZ _ (by omega) (by omega), if_neg (by omega)]) ?_
    exact Ev2.bind h (Ev2.now _)
  | succ m ih =>
    intro j more hj h
    have j0 : (0 : Int) ≤ (j : Int) := by omega
    have j1 : (j : Int) < 10 := by omega
    have next : ∀ b : Bool, (more || anyL xs j (m + 1)) = (b || anyL xs (j + 1) m) → Ev2 (fun k n => aQ.l19 k n ((j + 1 : Nat) : Int) b e sig top mode f c0 c1 c2 c3 c4 neg xs) r := fun b hb => ih (j + 1) b (by omega) (by rw [← hb]; exact h)
    have hw : wrap64 ((j : Int) + 1) = ((j + 1 : Nat) : Int) := by rw [cZ _ (by omega) (by omega)]; omega
    refine Ev2.step (fun k n => by rw [aQ.l19_eq, ht, cZ ((i : Int) + 1 - 1) (by omega) (by omega), if_pos (by omega), hw, ← ht]) ?_
    cases more
    · refine Ev2.congr (fun k n => by rw [if_neg (by decide), if_pos j0, if_pos j1, hx.rd j]) ?_
      by_cases z : lim xs j = 0
      · rw [z]
        refine next false ?_
        show (false || (decide (lim xs j ≠ 0) || anyL xs (j + 1) m)) = _
        rw [z]; rfl
      · have hb : ((lim xs j : Int) == 0) = false := beq_eq_false_iff_ne.mpr (by omega)
        rw [hb]
        refine next true ?_
        show (false || (decide (lim xs j ≠ 0) || anyL xs (j + 1) m)) = _
        rw [decide_eq_true z]; rfl
    · exact Ev2.congr (fun k n => by rw [if_pos rfl]) (next true rfl)
theorem zC (f mode : Int) (i : Nat) (neg : Bool) {xs : List Int} (hx : l6 xs) (hi : i + 1 < 10) (h0 : lim xs (i + 1) ≠ 0) :
    gB f mode neg (-298) (lo xs (i + 2)) false = gB f mode neg (64 * ((i : Int) + 1) - 298 - (64 - (iA (lim xs (i + 1)) : Int))) (lim xs (i + 1) * 2 ^ (64 - iA (lim xs (i + 1))) + lim xs i / 2 ^ iA (lim xs (i + 1))) (decide (lim xs i % 2 ^ iA (lim xs (i + 1)) ≠ 0) || decide (lo xs i ≠ 0)) ∧
    lZ f mode neg (-298) (lo xs (i + 2)) false = lZ f mode neg (64 * ((i : Int) + 1) - 298 - (64 - (iA (lim xs (i + 1)) : Int))) (lim xs (i + 1) * 2 ^ (64 - iA (lim xs (i + 1))) + lim xs i / 2 ^ iA (lim xs (i + 1))) (decide (lim xs i % 2 ^ iA (lim xs (i + 1)) ≠ 0) || decide (lo xs i ≠ 0)) ∧
    lim xs (i + 1) * 2 ^ (64 - iA (lim xs (i + 1))) + lim xs i / 2 ^ iA (lim xs (i + 1)) < 18446744073709551616 := by
  have hb := eP f
  have hp : 2 ^ (fm f + 1) ≤ 2 ^ 24 := Nat.pow_le_pow_right (by decide) (by omega)
  have hl := lo_lt hx i
  have ha := hx.lt (i + 1)
  have hc := hx.lt i
  rw [kW, kW]
  generalize lo xs i = W at *
  generalize lim xs (i + 1) = a at *
  generalize lim xs i = c at *
  have n1 := gP a 64 ha
  have n2 := nG a h0
  have n3 := uR a h0
  have n4 := nV a
  generalize iA a = n at *
  have pk : 2 ^ n * 2 ^ (64 - n) = 18446744073709551616 := by
    rw [← Nat.pow_add, show n + (64 - n) = 64 by omega]
  have pn := Nat.two_pow_pos n
  have pk0 := Nat.two_pow_pos (64 - n)
  have cd : c / 2 ^ n < 2 ^ (64 - n) := (Nat.div_lt_iff_lt_mul pn).mpr (by rw [Nat.mul_comm, pk]; exact hc)
  have cm := Nat.mod_lt c pn
  have cdm := Nat.div_add_mod c (2 ^ n)
  have a63 : 9223372036854775808 ≤ a * 2 ^ (64 - n) := by
    have h := Nat.mul_le_mul_right (2 ^ (64 - n)) n3
    rw [← Nat.pow_add, show n - 1 + (64 - n) = 63 by omega] at h
    have : (2 : Nat) ^ 63 = 9223372036854775808 := by decide
    omega
  have a64 : a * 2 ^ (64 - n) + 2 ^ (64 - n) ≤ 18446744073709551616 := by
    have h := Nat.mul_le_mul_right (2 ^ (64 - n)) n4
    rw [pk, Nat.succ_mul] at h; exact h
  have e : W + c * 2 ^ (64 * i) + a * 2 ^ (64 * (i + 1)) = (a * 2 ^ (64 - n) + c / 2 ^ n) * 2 ^ (n + 64 * i) + (c % 2 ^ n * 2 ^ (64 * i) + W) := by
    rw [Nat.pow_add, show 64 * (i + 1) = 64 + 64 * i by omega, Nat.pow_add, show (2 : Nat) ^ 64 = 2 ^ n * 2 ^ (64 - n) by rw [pk], ← Nat.mul_assoc, ← Nat.mul_assoc, ← Nat.mul_assoc, Nat.add_mul]
    have h1 : c * 2 ^ (64 * i) = c / 2 ^ n * 2 ^ n * 2 ^ (64 * i) + c % 2 ^ n * 2 ^ (64 * i) := by
      rw [← Nat.add_mul, Nat.mul_comm (c / 2 ^ n), cdm]
    rw [h1, Nat.add_mul, Nat.mul_right_comm a (2 ^ n)]
    generalize a * 2 ^ (64 - n) * 2 ^ n * 2 ^ (64 * i) = Z1
    generalize c / 2 ^ n * 2 ^ n * 2 ^ (64 * i) = Z2
    generalize c % 2 ^ n * 2 ^ (64 * i) = Z3
    omega
  have small : c % 2 ^ n * 2 ^ (64 * i) + W < 2 ^ (n + 64 * i) := by
    have h := Nat.mul_le_mul_right (2 ^ (64 * i)) (show c % 2 ^ n + 1 ≤ 2 ^ n from cm)
    rw [Nat.add_mul, Nat.one_mul, ← Nat.pow_add] at h
    exact Nat.lt_of_lt_of_le (Nat.add_lt_add_left hl _) h
  obtain ⟨q1, q2⟩ := nH f mode neg (-298) (a * 2 ^ (64 - n) + c / 2 ^ n) (c % 2 ^ n * 2 ^ (64 * i) + W) (n + 64 * i) false small (Nat.le_trans hp (Nat.le_trans (show 2 ^ 24 ≤ a * 2 ^ (64 - n) by omega) (Nat.le_add_right _ _)))
  have t : decide (c % 2 ^ n * 2 ^ (64 * i) + W ≠ 0) = (decide (c % 2 ^ n ≠ 0) || decide (W ≠ 0)) := by
    have pi := Nat.two_pow_pos (64 * i)
    by_cases c0 : c % 2 ^ n = 0
    · rw [c0, Nat.zero_mul, Nat.zero_add]; simp
    · have : c % 2 ^ n * 2 ^ (64 * i) ≠ 0 := Nat.mul_ne_zero c0 (by omega)
      rw [decide_eq_true (show c % 2 ^ n * 2 ^ (64 * i) + W ≠ 0 by omega), decide_eq_true (show c % 2 ^ n ≠ 0 from c0)]; rfl
  rw [e, q1, q2, Bool.false_or, t, show (-298 : Int) + ((n + 64 * i : Nat) : Int) = 64 * ((i : Int) + 1) - 298 - (64 - (n : Int)) by omega]
  exact ⟨rfl, rfl, by omega⟩
theorem aAM (i L : Nat) (hi : i < 10) (h1 : L ≤ 64) : wrap64 (wrap64 (wrap64 (64 * ((i + 1 : Nat) : Int)) - 298) - ((64 - L : Nat) : Int)) = 64 * ((i : Int) + 1) - 298 - (64 - (L : Int)) ∧ -10000 ≤ 64 * ((i : Int) + 1) - 298 - (64 - (L : Int)) ∧ 64 * ((i : Int) + 1) - 298 - (64 - (L : Int)) ≤ 10000 := by
  rw [cZ (64 * _) (by omega) (by omega), cZ (64 * _ - 298) (by omega) (by omega), cZ _ (by omega) (by omega)]; omega
theorem aBV (c : Nat) (hc : c < 18446744073709551616) : (!((c : Int) == 0)) = decide (c % 2 ^ 64 ≠ 0) := by
  rw [show c % 2 ^ 64 = c from Nat.mod_eq_of_lt (by rw [show (2 : Nat) ^ 64 = 18446744073709551616 by decide]; exact hc)]
  by_cases c0 : c = 0
  · rw [c0]; rfl
  · rw [beq_eq_false_iff_ne.mpr (show (c : Int) ≠ 0 by omega), decide_eq_true c0]; rfl
theorem full_sig (a c : Nat) (hc : c < 18446744073709551616) : a * 2 ^ (64 - 64) + c / 2 ^ 64 = a := by
  rw [Nat.div_eq_of_lt (by rw [show (2 : Nat) ^ 64 = 18446744073709551616 by decide]; exact hc), Nat.sub_self, Nat.pow_zero, Nat.mul_one, Nat.add_zero]
theorem part_sig (a c L : Nat) (hL : L ≤ 64) (hc : c < 18446744073709551616) (n4 : a < 2 ^ L) : Go.bits .or .u64 (shl .u64 (a : Int) ((64 - L : Nat) : Int)) (shr .u64 (c : Int) (L : Int)) = ((a * 2 ^ (64 - L) + c / 2 ^ L : Nat) : Int) := by
  have e64 : L + (64 - L) = 64 := by clear n4 hc; omega
  have pn := Nat.two_pow_pos L
  have cd : c / 2 ^ L < 2 ^ (64 - L) := (Nat.div_lt_iff_lt_mul pn).mpr (by
    rw [← Nat.pow_add, Nat.add_comm, e64]; exact hc)
  have a64 : a * 2 ^ (64 - L) < 18446744073709551616 := by
    have h := Nat.mul_lt_mul_of_pos_right n4 (Nat.two_pow_pos (64 - L))
    rw [← Nat.pow_add, e64] at h; exact h
  rw [kX, oH _ _ hc, Nat.mod_eq_of_lt a64, aAp _ _ a64 (Nat.lt_of_le_of_lt (Nat.div_le_self _ _) hc), nO _ _ (64 - L) (Nat.mul_mod_left _ _) cd]
theorem aCw (c L : Nat) (hL : L ≤ 64) : (!(shl .u64 (c : Int) ((64 - L : Nat) : Int) == 0)) = decide (c % 2 ^ L ≠ 0) := by
  have e64 : L + (64 - L) = 64 := by omega
  have h1 : c * 2 ^ (64 - L) % 18446744073709551616 = c % 2 ^ L * 2 ^ (64 - L) := by
    rw [show (18446744073709551616 : Nat) = 2 ^ L * 2 ^ (64 - L) by rw [← Nat.pow_add, e64]]
    exact Nat.mul_mod_mul_right _ _ _
  rw [kX, h1]
  by_cases c0 : c % 2 ^ L = 0
  · rw [c0, Nat.zero_mul]; rfl
  · have : c % 2 ^ L * 2 ^ (64 - L) ≠ 0 := Nat.mul_ne_zero c0 (Nat.ne_of_gt (Nat.two_pow_pos _))
    rw [beq_eq_false_iff_ne.mpr (show ((c % 2 ^ L * 2 ^ (64 - L) : Nat) : Int) ≠ 0 from fun e => this (Int.ofNat.inj e)), decide_eq_true c0]; rfl
theorem aBE (L : Nat) (n1 : L ≤ 64) : wrap64 (64 - (L : Int)) = ((64 - L : Nat) : Int) ∧ (0 : Int) ≤ (L : Int) ∧ (0 : Int) ≤ ((64 - L : Nat) : Int) := by
  rw [cZ _ (by omega) (by omega)]; omega
theorem aDp (i : Nat) (h : i + 1 < 10) : (0 : Int) ≤ ((i + 1 : Nat) : Int) ∧ ((i + 1 : Nat) : Int) < 10 ∧ (0 : Int) < ((i + 1 : Nat) : Int) ∧ wrap64 (((i + 1 : Nat) : Int) - 1) = (i : Int) ∧ (0 : Int) ≤ (i : Int) ∧ (i : Int) < 10 ∧ ((i + 1 : Nat) : Int) = (i : Int) + 1 := by
  rw [cZ _ (by omega) (by omega)]; omega
theorem aA6 {a : Nat} (h : a ≠ 0) : ¬ ((a : Int) = 0) := by omega
theorem aAe (f mode : Int) (neg c0 c1 c2 c3 c4 : Bool) {xs : List Int} (i : Nat) (hi : i + 1 < 10) (a c L : Nat) (r : Int × Bool × Bool × Bool × Bool × Bool) (ra : rd xs ((i + 1 : Nat) : Int) = (a : Int)) (rc : rd xs (i : Int) = (c : Int)) (ha : a ≠ 0) (hc : c < 18446744073709551616) (n1 : L ≤ 64) (n4 : a < 2 ^ L)
    (hln : Ev (fun n => aX.f n (a : Int)) (L : Int))
    (fin : ∀ (more : Bool) (top : Int), top = (i : Int) + 1 → more = decide (c % 2 ^ L ≠ 0) →
          Ev2 (fun k n => aQ.l19 k n ((0 : Nat) : Int) more (64 * ((i : Int) + 1) - 298 - (64 - (L : Int))) ((a * 2 ^ (64 - L) + c / 2 ^ L : Nat) : Int) top mode f c0 c1 c2 c3 c4 neg xs) r) :
    Ev2 (fun k n => aQ.l2 k n ((i + 1 : Nat) : Int) mode f c0 c1 c2 c3 c4 neg xs) r := by
  obtain ⟨j0, j1, jp, hw, k0, k1, tp⟩ := aDp i hi
  obtain ⟨w1, l0, l1⟩ := aBE L n1
  have za := aA6 ha
  have w2 := (aAM i L (Nat.lt_of_succ_lt hi) n1).1
  refine Ev2.step (fun k n => by rw [aQ.aBa, if_pos j0, if_pos j1, ra, if_neg za, if_pos j0, if_pos j1]) (Ev2.bind hln ?_)
  by_cases full : L = 64
  · have f1 : ((L : Int) = 64) := by rw [full]; rfl
    have f2 : ¬ ((L : Int) < 64) := by rw [f1]; decide
    have sg : a * 2 ^ (64 - L) + c / 2 ^ L = a := by rw [full]; exact full_sig a c hc
    have more : (!((c : Int) == 0)) = decide (c % 2 ^ L ≠ 0) := by rw [full]; exact aBV c hc
    rw [sg] at fin
    refine Ev2.congr (fun k n => by
      rw [if_pos j0, if_pos j1, if_pos jp, w1, if_pos l1, hw, if_pos k0, if_pos k1, if_pos l0, if_pos f1, if_pos j0, if_pos j1, if_pos k0, if_pos k1, if_neg f2, w2, rc, more]) ?_
    exact (fin _ _ tp rfl).inner
  · have f1 : ¬ ((L : Int) = 64) := fun e => full (by clear n4 fin hln; omega)
    have f2 : (L : Int) < 64 := by clear n4 fin hln; omega
    have sg := part_sig a c L n1 hc n4
    have more := aCw c L n1
    refine Ev2.congr (fun k n => by
      rw [if_pos j0, if_pos j1, if_pos jp, w1, if_pos l1, hw, if_pos k0, if_pos k1, if_pos l0, if_neg f1, if_pos k0, if_pos k1, if_pos f2, if_pos l1, w2, rc, sg, more]) ?_
    exact (fin _ _ tp rfl).inner
theorem aA7 (f mode : Int) (neg c0 c1 c2 c3 c4 : Bool) {xs : List Int} (hx : l6 xs) (j : Nat) : j < 10 → lo xs (j + 1) ≠ 0 →
    Ev2 (fun k n => aQ.l2 k n (j : Int) mode f c0 c1 c2 c3 c4 neg xs) ((gB f mode neg (-298) (lo xs (j + 1)) false : Int), false, false, lZ f mode neg (-298) (lo xs (j + 1)) false) := by
  induction j with
  | zero =>
    intro _ h
    rw [kW, nJ, Nat.zero_add, Nat.mul_zero, Nat.pow_zero, Nat.mul_one] at h ⊢
    have h1 := hx.lt 0
    have hp := pQ f mode neg (-298) (lim xs 0) false h1
    rw [iX _ (by omega) (by omega)] at hp
    have w0 : wrap64 (wrap64 (64 * ((0 : Nat) : Int)) - 298) = -298 := by unfold wrap64; omega
    have r0 := hx.rd 0
    refine Ev2.step (fun k n => by rw [aQ.aBa, if_pos (by decide), if_pos (by decide), r0, if_neg (by omega), if_pos (by decide), if_pos (by decide)]) ?_
    refine Ev2.bind (qX _ h1) ?_
    refine Ev2.congr (fun k n => by rw [if_pos (by decide), if_pos (by decide), if_neg (by decide), w0]) ?_
    exact Ev2.bind hp (Ev2.now _)
  | succ i ih =>
    intro hj h
    have j0 : (0 : Int) ≤ ((i + 1 : Nat) : Int) := by omega
    have j1 : ((i + 1 : Nat) : Int) < 10 := by omega
    have jp : (0 : Int) < ((i + 1 : Nat) : Int) := by omega
    have hw : wrap64 (((i + 1 : Nat) : Int) - 1) = (i : Int) := by rw [cZ _ (by omega) (by omega)]; omega
    have k0 : (0 : Int) ≤ (i : Int) := by omega
    have k1 : (i : Int) < 10 := by omega
    by_cases z : lim xs (i + 1) = 0
    · have e : lo xs (i + 1 + 1) = lo xs (i + 1) := by rw [kW xs (i + 1), z, Nat.zero_mul, Nat.add_zero]
      rw [e] at h ⊢
      refine Ev2.step (fun k n => by rw [aQ.aBa, if_pos j0, if_pos j1, hx.rd (i + 1), if_pos (by rw [z]; rfl), hw]) ?_
      exact ih (by omega) h
    · obtain ⟨p1, p2, p3⟩ := zC f mode i neg hx (by omega) z
      have ha := hx.lt (i + 1)
      have hc := hx.lt i
      have ra := hx.rd (i + 1)
      have rc := hx.rd i
      have n1 := gP _ 64 ha
      have n2 := nG _ z
      have n4 := nV (lim xs (i + 1))
      have hln := qX _ ha
      have fin : ∀ (more : Bool) (top : Int), top = (i : Int) + 1 → more = decide (lim xs i % 2 ^ iA (lim xs (i + 1)) ≠ 0) →
          Ev2 (fun k n => aQ.l19 k n ((0 : Nat) : Int) more (64 * ((i : Int) + 1) - 298 - (64 - (iA (lim xs (i + 1)) : Int))) ((lim xs (i + 1) * 2 ^ (64 - iA (lim xs (i + 1))) + lim xs i / 2 ^ iA (lim xs (i + 1)) : Nat) : Int) top mode f c0 c1 c2 c3 c4 neg xs) ((gB f mode neg (-298) (lo xs (i + 1 + 1)) false : Int), false, false, lZ f mode neg (-298) (lo xs (i + 1 + 1)) false) := by
        intro more top ht hm
        refine zW f mode _ _ top i neg c0 c1 c2 c3 c4 hx _ ht (by omega) i 0 more (by omega) ?_
        rw [anyL_lo, hm, p1, p2]
        have hp := pQ f mode neg (64 * ((i : Int) + 1) - 298 - (64 - (iA (lim xs (i + 1)) : Int))) (lim xs (i + 1) * 2 ^ (64 - iA (lim xs (i + 1))) + lim xs i / 2 ^ iA (lim xs (i + 1))) (decide (lim xs i % 2 ^ iA (lim xs (i + 1)) ≠ 0) || decide (lo xs i ≠ 0)) p3
        have we := aAM i (iA (lim xs (i + 1))) (Nat.lt_of_succ_lt hj) n1
        rw [iX _ we.2.1 we.2.2] at hp
        exact hp
      exact aAe f mode neg c0 c1 c2 c3 c4 i hj _ _ _ _ (hx.rd (i + 1)) (hx.rd i) z hc n1 n4 hln fin
end Round
namespace Round
open P Num BitsF Fmt
end Round
namespace Round
open P E Num BitsF Fmt
theorem aBn (f mode : Int) (neg : Bool) {xs : List Int} (hx : l6 xs) (h : lo xs 10 ≠ 0) : Ev (fun n => E.aQ.f n f mode neg xs) ((gB f mode neg (-298) (lo xs 10) false : Int), false, false, lZ f mode neg (-298) (lo xs 10) false) :=
  Ev.congr (fun n => aQ.eq n f mode neg xs) (aA7 f mode neg false false false false false hx 9 (by decide) h).diag
theorem total_ev (f mode : Int) (xn yn : Bool) {xs ys : List Int} (hx : l6 xs) (hy : l6 ys) (h : lo xs 10 + lo ys 10 < T640) :
    Ev (fun n => E.dH.f n f mode xn xs yn ys) (((if (jC xn (lo xs 10) yn (lo ys 10)).2 = 0 then eQ f (decide (mode = 3)) else gB f mode (jC xn (lo xs 10) yn (lo ys 10)).1 (-298) (jC xn (lo xs 10) yn (lo ys 10)).2 false : Nat) : Int), false, false,
      (if (jC xn (lo xs 10) yn (lo ys 10)).2 = 0 then (false, false, false) else lZ f mode (jC xn (lo xs 10) yn (lo ys 10)).1 (-298) (jC xn (lo xs 10) yn (lo ys 10)).2 false)) := by
  obtain ⟨R, r1, r2, r3⟩ := plus_ev xn yn hx hy h
  refine Ev.congr (fun n => dH.eq n f mode xn xs yn ys) (Ev.bind r3 ?_)
  rw [← r2]
  have hm : ((mode == 3) : Bool) = decide (mode = 3) := by
    by_cases c : mode = 3
    · subst c; rfl
    · rw [decide_eq_false c]; exact beq_eq_false_iff_ne.mpr c
  by_cases z : lo R 10 = 0
  · rw [if_pos z, if_pos z]
    refine Ev.congr (fun n => ?_) (Ev.now _)
    rw [dI.eq, Option.bind_some, uN r1, if_pos (decide_eq_true z), kE, Option.bind_some, hm]
  · rw [if_neg z, if_neg z]
    refine Ev.congr (fun n => ?_) (Ev.bind (f := fun _ t => some ((t.1, t.2.1, t.2.2.1, t.2.2.2.1, t.2.2.2.2.1, t.2.2.2.2.2)) ) (aBn f mode (jC xn (lo xs 10) yn (lo ys 10)).1 r1 z) (Ev.now _))
    rw [dI.eq, Option.bind_some, uN r1, if_neg (by rw [decide_eq_true_iff]; exact z)]
theorem kK (f : Int) (v : Nat) (h : cO f v < 3) : -149 ≤ bN f v ∧ bN f v ≤ 120 := by
  have ht := (o7 f v).mp h
  unfold bN dM
  unfold gN at ht
  generalize mE f v = e at *
  rcases uM f with ⟨h1, h2⟩ | ⟨h1, h2⟩ | ⟨h1, h2⟩ <;> rw [h1] at ht <;> rw [h1, h2] <;> simp at ht ⊢ <;> omega
theorem mX (f : Int) (v : Nat) (h : cO f v < 3) (z : bT f v = 0) : cO f v = 0 := by
  have hp := Nat.two_pow_pos (fm f)
  unfold bT at z
  unfold cO at h ⊢
  by_cases e : mE f v = 0
  · rw [if_pos e] at z
    rw [if_pos e, if_pos z]
  · rw [if_neg e] at z; omega
theorem zU (s1 s2 : Nat) (e1 e2 : Int) (h1 : s1 < 1152921504606846976) (h2 : s2 < 1152921504606846976) (u1 : e1 ≤ 250) (u2 : e2 ≤ 250) : s1 * 2 ^ (e1 + 298).toNat + s2 * 2 ^ (e2 + 298).toNat < T640 := by
  obtain ⟨K, hK⟩ : ∃ K : Nat, K = 548 := ⟨_, rfl⟩
  have b : ∀ (s : Nat) (e : Int), s < 1152921504606846976 → e ≤ 250 → s * 2 ^ (e + 298).toNat < 2 ^ (60 + K) := by
    intro s e hs he
    have h1 : (2 : Nat) ^ (e + 298).toNat ≤ 2 ^ K := Nat.pow_le_pow_right (by decide) (by omega)
    have h3 : s * 2 ^ K < 2 ^ 60 * 2 ^ K := Nat.mul_lt_mul_of_pos_right (by rw [show (2 : Nat) ^ 60 = 1152921504606846976 by decide]; exact hs) (Nat.two_pow_pos _)
    rw [← Nat.pow_add] at h3
    exact Nat.lt_of_le_of_lt (Nat.mul_le_mul_left _ h1) h3
  have c : (2 : Nat) ^ (60 + K) + 2 ^ (60 + K) = 2 ^ (60 + K + 1) := by rw [Nat.pow_succ, Nat.mul_two]
  obtain ⟨M, hM⟩ : ∃ M : Nat, M = 64 * 10 := ⟨_, rfl⟩
  have d : (2 : Nat) ^ (60 + K + 1) ≤ 2 ^ M := Nat.pow_le_pow_right (by decide) (by omega)
  rw [← xC, ← hM]
  rw [← c] at d
  exact Nat.lt_of_lt_of_le (Nat.add_lt_add (b s1 e1 h1 u1) (b s2 e2 h2 u2)) d
theorem vT (f mode : Int) (n1 : Bool) (e1 : Int) (s1 : Nat) (n2 : Bool) (e2 : Int) (s2 : Nat) (l1 : -298 ≤ e1) (u1 : e1 ≤ 250) (l2 : -298 ≤ e2) (u2 : e2 ≤ 250) (h1 : s1 < 1152921504606846976) (h2 : s2 < 1152921504606846976)
    (hne : n1 = n2 → s1 = 0 → s2 = 0 → False) {xs ys : List Int} (hx : l6 xs) (hy : l6 ys) (vx : lo xs 10 = s1 * 2 ^ (e1 + 298).toNat) (vy : lo ys 10 = s2 * 2 ^ (e2 + 298).toNat) :
    Ev (fun n => E.dH.f n f mode n1 xs n2 ys) ((fP f mode n1 n2 (kT n1 e1 s1 n2 e2 s2) : Int), false, false, gK f mode (kT n1 e1 s1 n2 e2 s2)) := by
  obtain ⟨w1, w2⟩ := qZ f mode n1 e1 s1 n2 e2 s2 l1 l2 h1 h2
  have t := total_ev f mode n1 n2 hx hy (by rw [vx, vy]; exact zU s1 s2 e1 e2 h1 h2 u1 u2)
  rw [vx, vy] at t
  rw [w1, w2]
  by_cases z : (jC n1 (s1 * 2 ^ (e1 + 298).toNat) n2 (s2 * 2 ^ (e2 + 298).toNat)).2 = 0
  · have hn : n1 ≠ n2 := by
      intro e
      have w : jC n1 (s1 * 2 ^ (e1 + 298).toNat) n2 (s2 * 2 ^ (e2 + 298).toNat) = (n1, s1 * 2 ^ (e1 + 298).toNat + s2 * 2 ^ (e2 + 298).toNat) := if_pos e
      rw [w] at z
      have z1 := (Nat.add_eq_zero_iff.mp z).1
      have z2 := (Nat.add_eq_zero_iff.mp z).2
      exact hne e ((Nat.mul_eq_zero.mp z1).resolve_right (Nat.ne_of_gt (Nat.two_pow_pos _))) ((Nat.mul_eq_zero.mp z2).resolve_right (Nat.ne_of_gt (Nat.two_pow_pos _)))
    rw [if_pos z, if_pos z] at t
    rw [if_pos z, if_pos z]
    have hno : lY f mode n1 n2 = eQ f (decide (mode = 3)) := if_neg hn
    rw [hno]; exact t
  · rw [if_neg z, if_neg z] at t
    rw [if_neg z, if_neg z]; exact t
theorem lF (f : Int) (v : Nat) : bT f v < 1152921504606846976 := by
  have wa := kM f v
  have hbd := eP f
  have hp24 : 2 ^ (fm f + 1) ≤ 16777216 := Nat.pow_le_pow_right (show 0 < 2 by decide) (show fm f + 1 ≤ 24 by omega)
  omega
theorem aB7 (f : Int) (a b : Nat) : bT f a * bT f b < 1152921504606846976 := by
  have wa := kM f a
  have wb := kM f b
  have hbd := eP f
  have hp24 : 2 ^ (fm f + 1) ≤ 16777216 := Nat.pow_le_pow_right (show 0 < 2 by decide) (show fm f + 1 ≤ 24 by omega)
  have := Nat.mul_le_mul (show bT f a ≤ 16777216 by omega) (show bT f b ≤ 16777216 by omega)
  omega
theorem add_j12 (f mode : Int) (a b : Nat) (ha : a < 4294967296) (hb : b < 4294967296) (ca : cO f a < 3) (cb : cO f b < 3) (hne : ¬ (cO f a = 0 ∧ cO f b = 0 ∧ dO f a = dO f b)) (c0 c1 c2 c3 c4 : Bool) :
    Ev (fun n => E.bD.j12 n (b : Int) (a : Int) mode f c0 c1 c2 c3 c4) ((fP f mode (dO f a) (dO f b) (tV f a b) : Int), false, false, gK f mode (tV f a b)) := by
  obtain ⟨l1, l2⟩ := kK f a ca
  obtain ⟨m1, m2⟩ := kK f b cb
  obtain ⟨R, r1, r2, r3⟩ := qU (dO f a) (bN f a) (bT f a) (by omega) (by omega) (lF f a)
  obtain ⟨S, s1, s2, s3⟩ := qU (dO f b) (bN f b) (bT f b) (by omega) (by omega) (lF f b)
  refine Ev.congr (fun n => bD.aBS n b a mode f c0 c1 c2 c3 c4) (Ev.bind (lI f a ha (iQ f a ca)) (Ev.bind r3 (Ev.bind (lI f b hb (iQ f b cb)) (Ev.bind s3 ?_))))
  exact Ev.bind (vT f mode _ _ _ _ _ _ (by omega) (by omega) (by omega) (by omega) (lF f a) (lF f b) (fun e z1 z2 => hne ⟨mX f a ca z1, mX f b cb z2, e⟩) r1 s1 r2 s2) (Ev.now _)
theorem add_j6 (f mode : Int) (a b : Nat) (ha : a < 4294967296) (hb : b < 4294967296) (na : ¬ 4 ≤ cO f a) (nb : ¬ 4 ≤ cO f b) (hne : ¬ (cO f a = 3 ∧ cO f b = 3 ∧ dO f a ≠ dO f b)) (c0 c1 c2 c3 c4 : Bool) :
    Ev (fun n => E.bD.j6 n (b : Int) (a : Int) mode f c0 c1 c2 c3 c4) ((pV f mode a b : Int), sumX f mode a b) := by
  have n : ¬ (4 ≤ cO f a ∨ 4 ≤ cO f b) := by omega
  unfold pV sumX
  rw [if_neg n, if_neg n, if_neg hne, if_neg hne]
  refine Ev.congr (fun n => bD.j6_eq n b a mode f c0 c1 c2 c3 c4) (Ev.bind (lX f a ha) ?_)
  by_cases a3 : cO f a = 3
  · rw [if_pos a3, if_pos (.inl a3)]
    exact Ev.congr (fun n => by rw [if_pos (decide_eq_true a3), iE, Option.bind_some, jR f a ha, wO f a a3]) (Ev.now _)
  · refine Ev.congr (fun n => by rw [if_neg (by rw [decide_eq_true_iff]; exact a3)]) (Ev.bind (lX f b hb) ?_)
    rw [if_neg a3]
    by_cases b3 : cO f b = 3
    · rw [if_pos b3, if_pos (.inr b3)]
      exact Ev.congr (fun n => by rw [if_pos (decide_eq_true b3), iE, Option.bind_some, jR f b hb, wO f b b3]) (Ev.now _)
    · rw [if_neg b3, if_neg (show ¬ (cO f a = 3 ∨ cO f b = 3) by omega)]
      refine Ev.congr (fun n => by rw [if_neg (by rw [decide_eq_true_iff]; exact b3)]) (Ev.bind (kQ f a ha) ?_)
      have fin := add_j12 f mode a b ha hb (by omega) (by omega)
      by_cases a0 : cO f a = 0
      · refine Ev.congr (fun n => by rw [if_pos (decide_eq_true a0)]) (Ev.bind (kQ f b hb) ?_)
        by_cases b0 : cO f b = 0
        · by_cases e : dO f a = dO f b
          · refine Ev.congr (fun n => by rw [if_pos (decide_eq_true b0), nA f a ha, Option.bind_some, nA f b hb, Option.bind_some, if_pos (beq_iff_eq.mpr e), iE, Option.bind_some, jR f a ha, (kN f a a0).1]) ?_
            have w := qZ f mode (dO f a) (bN f a) (bT f a) (dO f b) (bN f b) (bT f b) (by have := (fD f a).1; omega) (by have := (fD f b).1; omega) (lF f a) (lF f b)
            unfold tV
            rw [w.1, w.2]
            have hw : (jC (dO f a) (bT f a * 2 ^ (bN f a + 298).toNat) (dO f b) (bT f b * 2 ^ (bN f b + 298).toNat)).2 = 0 := by
              rw [(kN f a a0).2, (kN f b b0).2, Nat.zero_mul, Nat.zero_mul]
              unfold jC; rw [if_pos e]
            rw [if_pos hw, if_pos hw]
            have hno : lY f mode (dO f a) (dO f b) = eQ f (dO f a) := if_pos e
            rw [hno]; exact Ev.now _
          · exact Ev.congr (fun n => by rw [if_pos (decide_eq_true b0), nA f a ha, Option.bind_some, nA f b hb, Option.bind_some, if_neg (by rw [beq_iff_eq]; exact e)]) (fin (fun h => e h.2.2) _ _ _ _ _)
        · exact Ev.congr (fun n => by rw [if_neg (by rw [decide_eq_true_iff]; exact b0)]) (fin (fun h => b0 h.2.1) _ _ _ _ _)
      · exact Ev.congr (fun n => by rw [if_neg (by rw [decide_eq_true_iff]; exact a0)]) (fin (fun h => a0 h.1) _ _ _ _ _)
theorem aBf (f mode : Int) (a b : Nat) (ha : a < 4294967296) (hb : b < 4294967296) : Ev (fun n => E.bD.f n f mode (a : Int) (b : Int)) ((pV f mode a b : Int), sumX f mode a b) := by
  refine Ev.congr (fun n => bD.eq n f mode a b) (Ev.bind (aAA f a b ha hb) ?_)
  by_cases n : 4 ≤ cO f a ∨ 4 ≤ cO f b
  · have e : (fC f a || fC f b) = true := by unfold fC; rw [Bool.or_eq_true, decide_eq_true_iff, decide_eq_true_iff]; exact n
    unfold pV sumX
    rw [if_pos n, if_pos n]
    exact Ev.congr (fun k => by rw [if_pos e, lT, Option.bind_some]) (Ev.now _)
  · have e : ¬ (fC f a || fC f b) = true := by unfold fC; rw [Bool.or_eq_true, decide_eq_true_iff, decide_eq_true_iff]; exact n
    have fin := add_j6 f mode a b ha hb (by omega) (by omega)
    refine Ev.congr (fun k => by rw [if_neg e]) (Ev.bind (lX f a ha) ?_)
    by_cases a3 : cO f a = 3
    · refine Ev.congr (fun k => by rw [if_pos (decide_eq_true a3)]) (Ev.bind (lX f b hb) ?_)
      by_cases b3 : cO f b = 3
      · by_cases s : dO f a = dO f b
        · exact Ev.congr (fun k => by rw [if_pos (decide_eq_true b3), nA f a ha, Option.bind_some, nA f b hb, Option.bind_some, if_pos (beq_iff_eq.mpr s)]) (fin (fun h => h.2.2 s) _ _ _ _ _)
        · have t : cO f a = 3 ∧ cO f b = 3 ∧ dO f a ≠ dO f b := ⟨a3, b3, s⟩
          unfold pV sumX
          rw [if_neg n, if_neg n, if_pos t, if_pos t]
          exact Ev.congr (fun k => by rw [if_pos (decide_eq_true b3), nA f a ha, Option.bind_some, nA f b hb, Option.bind_some, if_neg (by rw [beq_iff_eq]; exact s), lT, Option.bind_some]) (Ev.now _)
      · exact Ev.congr (fun k => by rw [if_neg (by rw [decide_eq_true_iff]; exact b3)]) (fin (fun h => b3 h.2.1) _ _ _ _ _)
    · exact Ev.congr (fun k => by rw [if_neg (by rw [decide_eq_true_iff]; exact a3)]) (fin (fun h => a3 h.1) _ _ _ _ _)
theorem aB8 (f : Int) (a b c : Nat) (ha : a < 4294967296) (hb : b < 4294967296) (hc : c < 4294967296) : Ev (fun k => aG.f k f [(a : Int), (b : Int), (c : Int)]) (fC f a || fC f b || fC f c, fV f a || fV f b || fV f c) := by
  refine Ev.congr (fun k => by unfold aG.f; rfl) (mY f _ 0 a false false _ (by simp) (by simp) ha rfl (mY f _ 1 b _ _ _ (by simp) (by simp) hb rfl (mY f _ 2 c _ _ _ (by simp) (by simp) hc rfl ?_)))
  rw [Bool.false_or, Bool.false_or]
  exact wJ f [(a : Int), (b : Int), (c : Int)] _ _
theorem fma_j14 (f mode : Int) (a b c : Nat) (ha : a < 4294967296) (hb : b < 4294967296) (hc : c < 4294967296) (ca : cO f a < 3) (cb : cO f b < 3) (cc : cO f c < 3) (hne : ¬ ((cO f a = 0 ∨ cO f b = 0) ∧ cO f c = 0 ∧ (dO f a != dO f b) = dO f c)) (c0 c1 c2 c3 c4 : Bool) :
    Ev (fun n => E.aT.j14 n (dO f a != dO f b) (c : Int) (b : Int) (a : Int) mode f c0 c1 c2 c3 c4) ((fP f mode (dO f a != dO f b) (dO f c) (qK f a b c) : Int), false, false, gK f mode (qK f a b c)) := by
  obtain ⟨l1, l2⟩ := kK f a ca
  obtain ⟨m1, m2⟩ := kK f b cb
  obtain ⟨o1, o2⟩ := kK f c cc
  obtain ⟨R, r1, r2, r3⟩ := qU (dO f a != dO f b) (bN f a + bN f b) (bT f a * bT f b) (by omega) (by omega) (aB7 f a b)
  obtain ⟨S, s1, s2, s3⟩ := qU (dO f c) (bN f c) (bT f c) (by omega) (by omega) (lF f c)
  refine Ev.congr (fun n => aT.aCq n _ c b a mode f c0 c1 c2 c3 c4) (Ev.bind (lI f a ha (iQ f a ca)) (Ev.bind (lI f b hb (iQ f b cb)) ?_))
  dsimp only
  rw [cZ (bN f a + bN f b) (by omega) (by omega), ← Int.natCast_mul, gL _ (uI f a b)]
  refine Ev.bind r3 (Ev.bind (lI f c hc (iQ f c cc)) (Ev.bind s3 ?_))
  refine Ev.bind (vT f mode _ _ _ _ _ _ (by omega) (by omega) (by omega) (by omega) (aB7 f a b) (lF f c) (fun e z1 z2 => hne ⟨?_, mX f c cc z2, e⟩) r1 s1 r2 s2) (Ev.now _)
  rcases Nat.mul_eq_zero.mp z1 with z | z
  · exact .inl (mX f a ca z)
  · exact .inr (mX f b cb z)
theorem xO (f mode : Int) (a b c : Nat) (h : cO f a = 0 ∨ cO f b = 0) (ca : cO f a < 3) (cb : cO f b < 3) (hc : cO f c = 0) (e : (dO f a != dO f b) = dO f c) :
    fP f mode (dO f a != dO f b) (dO f c) (qK f a b c) = eQ f (dO f a != dO f b) ∧ gK f mode (qK f a b c) = (false, false, false) := by
  have l1 := (kK f a ca).1
  have m1 := (kK f b cb).1
  have o1 := (fD f c).1
  have w := qZ f mode (dO f a != dO f b) (bN f a + bN f b) (bT f a * bT f b) (dO f c) (bN f c) (bT f c) (by omega) (by omega) (aB7 f a b) (lF f c)
  have z : bT f a * bT f b = 0 := by
    rcases h with h | h
    · rw [(kN f a h).2, Nat.zero_mul]
    · rw [(kN f b h).2, Nat.mul_zero]
  have hw : (jC (dO f a != dO f b) (bT f a * bT f b * 2 ^ (bN f a + bN f b + 298).toNat) (dO f c) (bT f c * 2 ^ (bN f c + 298).toNat)).2 = 0 := by
    rw [z, (kN f c hc).2, Nat.zero_mul, Nat.zero_mul]
    unfold jC; rw [if_pos e]
  unfold qK
  rw [w.1, w.2, if_pos hw, if_pos hw]
  exact ⟨if_pos e, rfl⟩
theorem fma_j5 (f mode : Int) (a b c : Nat) (ha : a < 4294967296) (hb : b < 4294967296) (hc : c < 4294967296) (n : ¬ (4 ≤ cO f a ∨ 4 ≤ cO f b ∨ 4 ≤ cO f c)) (t : ¬ nS f a b = true) (c0 c1 c2 c3 c4 : Bool) :
    Ev (fun n => E.aT.j5 n (c : Int) (b : Int) (a : Int) mode f c0 c1 c2 c3 c4) ((uK f mode a b c : Int), aAf f mode a b c) := by
  unfold uK aAf
  rw [if_neg n, if_neg n, if_neg t, if_neg t]
  refine Ev.congr (fun n => by rw [aT.aCo n c b a mode f c0 c1 c2 c3 c4, nA f a ha, Option.bind_some, nA f b hb, Option.bind_some]) ?_
  have inf : Ev (fun n => (bK.f n f (c : Int)).bind fun t3 => (if t3 = true then ((bO.f f (c : Int)).bind fun t4 => (if (t4 == !(dO f a == dO f b)) = true then ((bZ.f f (!(dO f a == dO f b))).bind fun t5 => (some ((t5, false, false, false, false, false)))) else ((dD.f f).bind fun t5 => (some ((t5, true, false, false, false, false)))))) else ((bZ.f f (!(dO f a == dO f b))).bind fun t4 => (some ((t4, false, false, false, false, false))))))
      (((if cO f c = 3 ∧ dO f c ≠ (dO f a != dO f b) then pU f else oW f (dO f a != dO f b) : Nat) : Int), (if cO f c = 3 ∧ dO f c ≠ (dO f a != dO f b) then (true, false, false, false, false) else (false, false, false, false, false))) := by
    refine Ev.bind (lX f c hc) ?_
    by_cases k3 : cO f c = 3
    · refine Ev.congr (fun n => by rw [if_pos (decide_eq_true k3), nA f c hc, Option.bind_some]) ?_
      by_cases e : dO f c = (dO f a != dO f b)
      · have h1 : ¬ (cO f c = 3 ∧ dO f c ≠ (dO f a != dO f b)) := fun h => h.2 e
        rw [if_neg h1, if_neg h1]
        have e1 : (dO f c == !(dO f a == dO f b)) = true := beq_iff_eq.mpr e
        exact Ev.congr (fun n => by rw [if_pos e1, oC, Option.bind_some]; rfl) (Ev.now _)
      · have h1 : cO f c = 3 ∧ dO f c ≠ (dO f a != dO f b) := ⟨k3, e⟩
        rw [if_pos h1, if_pos h1]
        have e1 : ¬ (dO f c == !(dO f a == dO f b)) = true := fun h => e (beq_iff_eq.mp h)
        exact Ev.congr (fun n => by rw [if_neg e1, lT, Option.bind_some]) (Ev.now _)
    · have h1 : ¬ (cO f c = 3 ∧ dO f c ≠ (dO f a != dO f b)) := fun h => k3 h.1
      rw [if_neg h1, if_neg h1]
      exact Ev.congr (fun n => by rw [if_neg (by rw [decide_eq_true_iff]; exact k3), oC, Option.bind_some]; rfl) (Ev.now _)
  refine Ev.bind (lX f a ha) ?_
  by_cases a3 : cO f a = 3
  · have ab : cO f a = 3 ∨ cO f b = 3 := .inl a3
    rw [if_pos ab, if_pos ab]
    exact Ev.congr (fun n => by rw [if_pos (decide_eq_true a3)]) inf
  · refine Ev.congr (fun n => by rw [if_neg (by rw [decide_eq_true_iff]; exact a3)]) (Ev.bind (lX f b hb) ?_)
    by_cases b3 : cO f b = 3
    · have ab : cO f a = 3 ∨ cO f b = 3 := .inr b3
      rw [if_pos ab, if_pos ab]
      exact Ev.congr (fun n => by rw [if_pos (decide_eq_true b3)]) inf
    · rw [if_neg (show ¬ (cO f a = 3 ∨ cO f b = 3) by omega), if_neg (show ¬ (cO f a = 3 ∨ cO f b = 3) by omega)]
      refine Ev.congr (fun n => by rw [if_neg (by rw [decide_eq_true_iff]; exact b3)]) (Ev.bind (lX f c hc) ?_)
      by_cases k3 : cO f c = 3
      · rw [if_pos k3, if_pos k3]
        exact Ev.congr (fun n => by rw [if_pos (decide_eq_true k3), iE, Option.bind_some, jR f c hc, wO f c k3]) (Ev.now _)
      · rw [if_neg k3, if_neg k3]
        refine Ev.congr (fun n => by rw [if_neg (by rw [decide_eq_true_iff]; exact k3)]) ?_
        have fin := fma_j14 f mode a b c ha hb hc (by omega) (by omega) (by omega)
        have none : (cO f a = 0 ∨ cO f b = 0) → Ev (fun n => (bA.f n f (c : Int)).bind fun t6 => (if t6 = true then ((bO.f f (c : Int)).bind fun t7 => (if ((!(dO f a == dO f b)) == t7) = true then ((bU.f f (!(dO f a == dO f b))).bind fun t8 => (some ((t8, false, false, false, false, false)))) else (aT.j14 n (!(dO f a == dO f b)) (c : Int) (b : Int) (a : Int) mode f c0 c1 c2 c3 c4))) else (aT.j14 n (!(dO f a == dO f b)) (c : Int) (b : Int) (a : Int) mode f c0 c1 c2 c3 c4)))
            ((fP f mode (dO f a != dO f b) (dO f c) (qK f a b c) : Int), false, false, gK f mode (qK f a b c)) := by
          intro ab
          refine Ev.bind (kQ f c hc) ?_
          by_cases k0 : cO f c = 0
          · refine Ev.congr (fun n => by rw [if_pos (decide_eq_true k0), nA f c hc, Option.bind_some]) ?_
            by_cases e : (dO f a != dO f b) = dO f c
            · obtain ⟨e1, e2⟩ := xO f mode a b c ab (by omega) (by omega) k0 e
              rw [e1, e2]
              have e3 : ((!(dO f a == dO f b)) == dO f c) = true := beq_iff_eq.mpr e
              exact Ev.congr (fun n => by rw [if_pos e3, kE, Option.bind_some]; rfl) (Ev.now _)
            · have e3 : ¬ ((!(dO f a == dO f b)) == dO f c) = true := fun h => e (beq_iff_eq.mp h)
              exact Ev.congr (fun n => by rw [if_neg e3]; rfl) (fin (fun h => e h.2.2) c0 c1 c2 c3 c4)
          · exact Ev.congr (fun n => by rw [if_neg (by rw [decide_eq_true_iff]; exact k0)]; rfl) (fin (fun h => k0 h.2.1) c0 c1 c2 c3 c4)
        refine Ev.bind (kQ f a ha) ?_
        by_cases a0 : cO f a = 0
        · exact Ev.congr (fun n => by rw [if_pos (decide_eq_true a0)]) (none (.inl a0))
        · refine Ev.congr (fun n => by rw [if_neg (by rw [decide_eq_true_iff]; exact a0)]) (Ev.bind (kQ f b hb) ?_)
          by_cases b0 : cO f b = 0
          · exact Ev.congr (fun n => by rw [if_pos (decide_eq_true b0)]) (none (.inr b0))
          · exact Ev.congr (fun n => by rw [if_neg (by rw [decide_eq_true_iff]; exact b0)]; rfl) (fin (fun h => h.1.elim a0 b0) c0 c1 c2 c3 c4)
theorem fma_j2 (f mode : Int) (a b c : Nat) (ha : a < 4294967296) (hb : b < 4294967296) (hc : c < 4294967296) (t : Bool) (ht : nS f a b = t) (c0 c1 c2 c3 c4 : Bool) :
    Ev (fun n => E.aT.j2 n t (c : Int) (b : Int) (a : Int) mode f c0 c1 c2 c3 c4) ((uK f mode a b c : Int), aAf f mode a b c) := by
  subst ht
  refine Ev.congr (fun n => aT.wV n _ c b a mode f c0 c1 c2 c3 c4) (Ev.bind (aB8 f a b c ha hb hc) ?_)
  dsimp only
  by_cases n : 4 ≤ cO f a ∨ 4 ≤ cO f b ∨ 4 ≤ cO f c
  · unfold uK aAf
    rw [if_pos n, if_pos n]
    refine Ev.congr (fun k => ?_) (Ev.now _)
    rw [if_pos ((nan3 f a b c).mpr n), lT, Option.bind_some]
    cases h : (fV f a || fV f b || fV f c)
    · rw [if_neg (by decide), Bool.false_or]
    · rw [if_pos rfl, Bool.true_or]
  · have e : ¬ (fC f a || fC f b || fC f c) = true := fun h => n ((nan3 f a b c).mp h)
    by_cases t : nS f a b = true
    · unfold uK aAf
      rw [if_neg n, if_neg n, if_pos t, if_pos t]
      refine Ev.congr (fun k => ?_) (Ev.now _)
      rw [if_neg e, if_pos t, lT, Option.bind_some, t]
      split <;> rfl
    · exact Ev.congr (fun k => by rw [if_neg e, if_neg t]) (fma_j5 f mode a b c ha hb hc n t c0 c1 c2 c3 c4)
theorem aA8 (f mode : Int) (a b c : Nat) (ha : a < 4294967296) (hb : b < 4294967296) (hc : c < 4294967296) :
    Ev (fun n => E.aT.f n f mode (a : Int) (b : Int) (c : Int)) ((uK f mode a b c : Int), aAf f mode a b c) := by
  have tt : ∀ t : Bool, (t = true ↔ (cO f a = 0 ∧ cO f b = 3 ∨ cO f a = 3 ∧ cO f b = 0)) → nS f a b = t := by
    intro t h
    unfold nS
    cases t
    · exact decide_eq_false (fun x => by have := h.mpr x; cases this)
    · exact decide_eq_true (h.mp rfl)
  have fin := fun (t : Bool) h => fma_j2 f mode a b c ha hb hc t (tt t h) false false false false false
  have rest : cO f a ≠ 0 ∨ cO f b ≠ 3 → Ev (fun n => (bK.f n f (a : Int)).bind fun t1 => (if t1 = true then ((bA.f n f (b : Int)).bind fun t2 => (aT.j2 n (t2) (c : Int) (b : Int) (a : Int) mode f (false) (false) (false) (false) (false))) else (aT.j2 n (false) (c : Int) (b : Int) (a : Int) mode f (false) (false) (false) (false) (false)))) ((uK f mode a b c : Int), aAf f mode a b c) := by
    intro h
    refine Ev.bind (lX f a ha) ?_
    by_cases a3 : cO f a = 3
    · refine Ev.congr (fun n => by rw [if_pos (decide_eq_true a3)]) (Ev.bind (kQ f b hb) ?_)
      exact fin _ (by rw [decide_eq_true_iff]; omega)
    · exact Ev.congr (fun n => by rw [if_neg (by rw [decide_eq_true_iff]; exact a3)]) (fin _ ⟨fun x => (by cases x), fun x => (by omega)⟩)
  refine Ev.congr (fun n => aT.eq n f mode a b c) (Ev.bind (kQ f a ha) ?_)
  by_cases a0 : cO f a = 0
  · refine Ev.congr (fun n => by rw [if_pos (decide_eq_true a0)]) (Ev.bind (lX f b hb) ?_)
    by_cases b3 : cO f b = 3
    · exact Ev.congr (fun n => by rw [if_pos (decide_eq_true b3)]) (fin _ ⟨fun _ => .inl ⟨a0, b3⟩, fun _ => rfl⟩)
    · exact Ev.congr (fun n => by rw [if_neg (by rw [decide_eq_true_iff]; exact b3)]) (rest (.inr b3))
  · exact Ev.congr (fun n => by rw [if_neg (by rw [decide_eq_true_iff]; exact a0)]) (rest (.inl a0))
end Round
namespace Round
open P Num BitsF Fmt
def mF (n : Int) : Int := mn (mx n (-5000)) 5000
theorem aCi (n : Int) : -5000 ≤ mF n ∧ mF n ≤ 5000 := by
 unfold mF mn mx; split <;> split <;> omega
theorem aB6 (n : Int) (h : -5000 ≤ n) (h' : n ≤ 5000) : mF n = n := by
 unfold mF mn mx; split <;> split <;> omega
def lC (f mode : Int) (v : Nat) (n : Int) : Nat :=
 if 4 ≤ cO f v then pU f else if cO f v = 3 then iH f v else gB f mode (dO f v) (bN f v + mF n) (bT f v) false
def aAC (f mode : Int) (v : Nat) (n : Int) : Bool × Bool × Bool × Bool × Bool :=
 if 4 ≤ cO f v then (fV f v, false, false, false, false) else if cO f v = 3 then (false, false, false, false, false) else (false, false, lZ f mode (dO f v) (bN f v + mF n) (bT f v) false)
theorem apart_ev (f : Int) (v : Nat) (hv : v < 4294967296) : Ev (fun k => d9.f k f (v : Int))
  (if 4 ≤ cO f v then ((pU f : Int), fV f v, false, false, false, false, true) else ((iH f v : Int), false, false, false, false, false, decide (cO f v = 3 ∨ cO f v = 0))) := by
 refine Ev.congr (fun k => by unfold d9.f; rfl) (Ev.bind (yO f v hv) ?_)
 by_cases c4 : 4 ≤ cO f v
 ·rw [if_pos c4]
  exact Ev.congr (fun k => by rw [if_pos (show fC f v = true from decide_eq_true c4)]) (Ev.now _)
 ·rw [if_neg c4]
  have n4 : ¬ fC f v = true := by unfold fC; simp; omega
  refine Ev.congr (fun k => by rw [if_neg n4, zT, Option.bind_some, jR f v hv]) (Ev.bind (iR f v hv) ?_)
  by_cases c3 : cO f v = 3
  ·exact Ev.congr (fun k => by rw [if_pos (decide_eq_true c3), decide_eq_true (.inl c3)]) (Ev.now _)
  ·refine Ev.congr (fun k => by rw [if_neg (by simp [c3])]) (Ev.bind (nL f v hv) (Ev.congr (fun k => ?_) (Ev.now _)))
   rw [show decide (cO f v = 3 ∨ cO f v = 0) = decide (cO f v = 0) from decide_eq_decide.mpr (by omega)]
theorem scale_e (f : Int) (v : Nat) (n : Int) : wrap64 (bN f v + mn (mx n (-5000)) 5000) = bN f v + mF n ∧ -10000 ≤ bN f v + mF n ∧ bN f v + mF n ≤ 10000 := by
 obtain ⟨l1, l2⟩ := fD f v
 have := aCi n
 refine ⟨?_, by omega, by omega⟩
 show wrap64 (bN f v + mF n) = _
 exact cZ _ (by omega) (by omega)
theorem scale_ev (f mode : Int) (v : Nat) (n : Int) (hv : v < 4294967296) : Ev (fun k => dV.f k f mode (v : Int) n) ((lC f mode v n : Int), aAC f mode v n) := by
 refine Ev.congr (fun k => by unfold dV.f; rfl) (Ev.bind (apart_ev f v hv) ?_)
 unfold lC aAC
 by_cases c4 : 4 ≤ cO f v
 ·rw [if_pos c4, if_pos c4, if_pos c4]
  exact Ev.congr (fun k => by rw [if_pos rfl]) (Ev.now _)
 ·rw [if_neg c4, if_neg c4, if_neg c4]
  by_cases c3 : cO f v = 3
  ·rw [if_pos c3, if_pos c3, decide_eq_true (.inl c3)]
   exact Ev.congr (fun k => by rw [if_pos rfl]) (Ev.now _)
  ·rw [if_neg c3, if_neg c3]
   by_cases c0 : cO f v = 0
   ·obtain ⟨n1, n2⟩ := kN f v c0
    obtain ⟨q1, q2⟩ := uV f mode (dO f v) (bN f v + mF n)
    rw [decide_eq_true (.inr c0), n1, n2, q1, q2]
    exact Ev.congr (fun k => by rw [if_pos rfl]) (Ev.now _)
   ·have hx := iQ f v (by omega)
    obtain ⟨e1, e2, e3⟩ := scale_e f v n
    have hp := oV f mode (dO f v) (bN f v + mF n) (bT f v) false (sZ f v)
    rw [iX _ e2 e3] at hp
    rw [decide_eq_false (by omega)]
    exact Ev.congr (fun k => by rw [if_neg (show ¬ false = true by decide), of_f f v hv hx, Option.bind_some]; dsimp only; rw [e1]) (Ev.bind hp (Ev.now _))
end Round
namespace P
attribute [local go_sem] max2_int min2_int max_two min_two max_three min_three max_four min_four
end P
namespace Round
open P Num BitsF Fmt
theorem w32_id (n : Int) (h : -2147483648 ≤ n) (h' : n ≤ 2147483647) : wrap32 n = n := by unfold wrap32; omega
theorem w32_in (n : Int) : -2147483648 ≤ wrap32 n ∧ wrap32 n ≤ 2147483647 := by unfold wrap32; omega
theorem fits (V : Int) (h1 : -1099511627776 ≤ V) (h2 : V ≤ 1099511627776) (x : Bool) : (if V = wrap64 (wrap32 V) then some (wrap32 V, false, false, false, false, x) else some (-2147483648, true, false, false, false, false)) =
    some (if -2147483648 ≤ V ∧ V ≤ 2147483647 then (V, false, false, false, false, x) else (-2147483648, true, false, false, false, false)) := by
  obtain ⟨w1, w2⟩ := w32_in V
  rw [cZ (wrap32 V) (by omega) (by omega)]
  by_cases c : -2147483648 ≤ V ∧ V ≤ 2147483647
  · rw [w32_id V c.1 c.2, if_pos rfl, if_pos c]
  · rw [if_neg (by omega), if_neg c]
end Round
namespace P
attribute [local go_sem] max2_int min2_int max_two min_two max_three min_three max_four min_four
end P
namespace Round
open P Num BitsF Fmt
end Round
end
end Go.Proofs.YtolpdiifmacdbaaGreat
