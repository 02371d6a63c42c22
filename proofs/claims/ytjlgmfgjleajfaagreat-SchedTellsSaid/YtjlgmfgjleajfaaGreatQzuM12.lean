import Derived.Test.YtjlgmfgjleajfaaGreatQzuM10
import Derived.Test.YtjlgmfgjleajfaaGreatQzuM9
import Derived.Test.YtjlgmfgjleajfaaGreatQzuM11
import Derived.Test.YtjlgmfgjleajfaaGreatQzuM8
/- Products: the reference's, of any numbers, as plain numbers. -/
set_option linter.unusedVariables false
set_option linter.unusedSimpArgs false
namespace Go.Proofs.YtjlgmfgjleajfaaGreat.Round
open Go.RowKit Go.Proofs.YtjlgmfgjleajfaaGreat.P Go.Proofs.YtjlgmfgjleajfaaGreat.Num Go.Proofs.YtjlgmfgjleajfaaGreat.BitsF Go.Proofs.YtjlgmfgjleajfaaGreat.Fmt Go.Proofs.YtjlgmfgjleajfaaGreatW.PrintWords Go.Proofs.YtjlgmfgjleajfaaGreatW.PrintLast Go.Proofs.YtjlgmfgjleajfaaGreatW.PrintMore

theorem yR (f mode : Int) (a b : Nat) (ha : a < 4294967296) (hb : b < 4294967296) : Ev (fun k => aG.f k f mode (a : Int) (b : Int)) ((mulN f mode a b : Int), mulX f mode a b) := by
 have hla := qZ f a
 have hlb := qZ f b
 refine Ev.congr (fun k => by unfold aG.f; rfl) (Ev.bind (vN f a b ha hb) ?_)
 unfold mulN mulX
 by_cases n : 4 ≤ bK f a ∨ 4 ≤ bK f b
 ·have e : (eX f a || eX f b) = true := by unfold eX; rw [Bool.or_eq_true, decide_eq_true_iff, decide_eq_true_iff]; exact n
  rw [if_pos n, if_pos n]
  exact Ev.congr (fun k => by rw [if_pos e, jZ]; rfl) (Ev.now _)
 ·have e : ¬ (eX f a || eX f b) = true := by unfold eX; rw [Bool.or_eq_true, decide_eq_true_iff, decide_eq_true_iff]; exact n
  rw [if_neg n, if_neg n]
  have bad : kF f a b = true → Ev (fun k => aG.j0 k f mode (a : Int) (b : Int) (dE f a != dE f b) true) (((if kF f a b = true then qU f else if bK f a = 3 ∨ bK f b = 3 then oH f (dE f a != dE f b) else gD f mode (dE f a != dE f b) (bA f a + bA f b) (bH f a * bH f b) false : Nat) : Int),
    if kF f a b = true then (true, false, false, false, false) else if bK f a = 3 ∨ bK f b = 3 then (false, false, false, false, false) else (false, false, lW f mode (dE f a != dE f b) (bA f a + bA f b) (bH f a * bH f b) false)) := by
   intro t
   rw [if_pos t, if_pos t]
   exact Ev.step (fun k => by rw [aG.j0, if_pos rfl, jZ]; rfl) (Ev.now _)
  have good : ¬ kF f a b = true → Ev (fun k => aG.j0 k f mode (a : Int) (b : Int) (dE f a != dE f b) false) (((if kF f a b = true then qU f else if bK f a = 3 ∨ bK f b = 3 then oH f (dE f a != dE f b) else gD f mode (dE f a != dE f b) (bA f a + bA f b) (bH f a * bH f b) false : Nat) : Int),
    if kF f a b = true then (true, false, false, false, false) else if bK f a = 3 ∨ bK f b = 3 then (false, false, false, false, false) else (false, false, lW f mode (dE f a != dE f b) (bA f a + bA f b) (bH f a * bH f b) false)) := by
   intro t
   rw [if_neg t, if_neg t]
   refine Ev.step (fun k => by rw [aG.j0, if_neg (by decide)]) (Ev.bind (iK f a ha) ?_)
   have inf : (bK f a = 3 ∨ bK f b = 3) → Ev (fun k => aG.j1 k f mode (a : Int) (b : Int) (dE f a != dE f b) true) (((if bK f a = 3 ∨ bK f b = 3 then oH f (dE f a != dE f b) else gD f mode (dE f a != dE f b) (bA f a + bA f b) (bH f a * bH f b) false : Nat) : Int),
     if bK f a = 3 ∨ bK f b = 3 then (false, false, false, false, false) else (false, false, lW f mode (dE f a != dE f b) (bA f a + bA f b) (bH f a * bH f b) false)) := by
    intro i
    rw [if_pos i, if_pos i]
    exact Ev.step (fun k => by rw [aG.j1, if_pos rfl, kN]; rfl) (Ev.now _)
   by_cases a3 : bK f a = 3
   ·exact Ev.congr (fun k => by rw [if_pos (decide_eq_true a3)]) (inf (.inl a3))
   ·refine Ev.congr (fun k => by rw [if_neg (by simp [a3])]) (Ev.bind (iK f b hb) ?_)
    by_cases b3 : bK f b = 3
    ·rw [decide_eq_true b3]; exact inf (.inr b3)
    ·rw [decide_eq_false b3, if_neg (show ¬ (bK f a = 3 ∨ bK f b = 3) by omega), if_neg (show ¬ (bK f a = 3 ∨ bK f b = 3) by omega)]
     have hprod := pU f a b
     obtain ⟨l1, l2⟩ := fB f a
     obtain ⟨m1, m2⟩ := fB f b
     have hp := lT f mode (dE f a != dE f b) (bA f a + bA f b) (bH f a * bH f b) false hprod
     rw [iV _ (by omega) (by omega)] at hp
     refine Ev.step (fun k => by rw [aG.j1, if_neg (by decide)]) (Ev.bind (jI f a ha (iZ f a (by omega))) (Ev.bind (jI f b hb (iZ f b (by omega))) ?_))
     dsimp only
     rw [cK (bA f a + bA f b) (by omega) (by omega), ← Int.natCast_mul, iD _ hprod]
     exact Ev.bind hp (Ev.now _)
  have tt : kF f a b = true ↔ (bK f a = 0 ∧ bK f b = 3 ∨ bK f a = 3 ∧ bK f b = 0) := by unfold kF; exact decide_eq_true_iff
  refine Ev.congr (fun k => by rw [if_neg e, kY f a ha, Option.bind_some, kY f b hb, Option.bind_some]) (Ev.bind (jB f a ha) ?_)
  by_cases a0 : bK f a = 0
  ·refine Ev.congr (fun k => by rw [if_pos (decide_eq_true a0)]) (Ev.bind (iK f b hb) ?_)
   by_cases b3 : bK f b = 3
   ·exact Ev.congr (fun k => by rw [if_pos (decide_eq_true b3)]) (bad (tt.mpr (.inl ⟨a0, b3⟩)))
   ·refine Ev.congr (fun k => by rw [if_neg (by simp [b3])]) (Ev.bind (iK f a ha) ?_)
    exact Ev.congr (fun k => by rw [if_neg (by simp; omega)]) (good (fun h => by have := tt.mp h; omega))
  ·refine Ev.congr (fun k => by rw [if_neg (by simp [a0])]) (Ev.bind (iK f a ha) ?_)
   by_cases a3 : bK f a = 3
   ·refine Ev.congr (fun k => by rw [if_pos (decide_eq_true a3)]) (Ev.bind (jB f b hb) ?_)
    by_cases b0 : bK f b = 0
    ·rw [decide_eq_true b0]; exact bad (tt.mpr (.inr ⟨a3, b0⟩))
    ·rw [decide_eq_false b0]; exact good (fun h => by have := tt.mp h; omega)
   ·exact Ev.congr (fun k => by rw [if_neg (by simp [a3])]) (good (fun h => by have := tt.mp h; omega))
/- All results are numbers of 32 bits. -/

theorem oJ (f : Int) : qU f < 4294967296 := by
 unfold qU iT
 rcases xG f with ⟨h1, h2⟩ | ⟨h1, h2⟩ | ⟨h1, h2⟩ <;> rw [h1, h2] <;> decide
theorem uY (f mode : Int) (neg : Bool) (x : Int) (a : Nat) (more : Bool) : gD f mode neg x a more < 4294967296 := by
 obtain ⟨_, hi⟩ := mH f false
 have hp := Nat.two_pow_pos (fm f)
 have hb := dZ f
 have h32 := mY (show fe f + fm f + 1 ≤ 32 by omega)
 have hs : 2 ^ (fe f + fm f + 1) = 2 * 2 ^ (fe f + fm f) := by rw [Nat.pow_succ, Nat.mul_comm]
 have hn : fO f neg ≤ 2 ^ (fe f + fm f) := by unfold fO; split <;> omega
 unfold gD jK
 generalize oI f mode neg x a more = K at *
 generalize iT f * 2 ^ fm f = T at *
 by_cases c : T ≤ K
 ·cases jS mode neg <;> simp [c] <;> omega
 ·simp [c]; omega
theorem aA2 (f : Int) (b : Bool) : fO f b < 4294967296 := (zP f b).2.2
theorem uT (f mode : Int) (a b : Bool) (r : Bool × Int × Nat × Bool) : gG f mode a b r < 4294967296 := by
 unfold gG l9
 split
 ·split <;> exact aA2 f _
 ·exact uY f mode _ _ _ _
theorem kZ (f mode : Int) (a b : Nat) : mulN f mode a b < 4294967296 := by
 unfold mulN
 split
 ·exact oJ f
 ·split
  ·exact oJ f
  ·split
   ·exact (mH f _).1
   ·exact uY f mode _ _ _ _
theorem aBs (f mode : Int) (a b : Nat) : rV f mode a b < 4294967296 := by
 unfold rV
 split
 ·exact oJ f
 ·split
  ·exact oJ f
  ·split
   ·exact (mH f _).1
   ·split
    ·exact (mH f _).1
    ·exact uT f mode _ _ _
theorem sub_32 (f mode : Int) (a b : Nat) : uL f mode a b < 4294967296 := by
 unfold uL
 split
 ·exact oJ f
 ·exact aBs f mode _ _
theorem uK (f mode : Int) (a b c : Nat) : qO f mode a b c < 4294967296 := by
 unfold qO
 split
 ·exact oJ f
 ·split
  ·exact oJ f
  ·split
   ·split
    ·exact oJ f
    ·exact (mH f _).1
   ·split
    ·exact (mH f _).1
    ·exact uT f mode _ _ _
theorem aCn (f mode : Int) (a b : Nat) : divN f mode a b < 4294967296 := by
 unfold divN xB
 split
 ·exact oJ f
 ·split
  ·exact oJ f
  ·split
   ·exact (mH f _).1
   ·split
    ·exact aA2 f _
    ·split
     ·exact (mH f _).1
     ·exact uY f mode _ _ _ _
/- Products by one and by nought: plain numbers alone. -/

end Go.Proofs.YtjlgmfgjleajfaaGreat.Round
