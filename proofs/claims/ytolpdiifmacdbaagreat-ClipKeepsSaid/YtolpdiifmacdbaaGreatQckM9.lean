import Derived.Test.YtolpdiifmacdbaaGreatQckM8
import Derived.Test.YtolpdiifmacdbaaGreatQckPackE
set_option linter.unusedVariables false
set_option linter.unusedSimpArgs false
namespace Go.Proofs.YtolpdiifmacdbaaGreat
noncomputable section
open Go.RowKit YtolpdiifmacdbaaGreatW.PrintWords YtolpdiifmacdbaaGreatW.PrintLast YtolpdiifmacdbaaGreatW.PrintMore
namespace P
attribute [local go_sem] max2_int min2_int max_two min_two max_three min_three max_four min_four
def fI.f (a0 a1 : Int) (a2 a3 : Bool) : Option (Int) := if (a2 == a3) = true then ((eF.f a0 a2).bind fun t293 => (some t293)) else ((eF.f a0 (a1 == 3)).bind fun t294 => (some t294))
set_option maxHeartbeats 8000000 in
set_option maxRecDepth 100000 in
theorem fI.calls (a0 a1 : Int) (a2 a3 : Bool) (r : Int) (w : World) (h : fI.f a0 a1 a2 a3 = some r) :
  Calls Tryz.prog 163 #[.int .i64 a0, .int .i64 a1, .bool a2, .bool a3] w fun e w' => e = .returned (.int .u32 r) ∧ Drawn0 w w' := by
 have H : (if (a2 == a3) = true then ((eF.f a0 a2).bind fun t293 => (some t293)) else ((eF.f a0 (a1 == 3)).bind fun t294 => (some t294))) = some r := h
 clear h
 by_cases c5 : (a2 == a3) = true
 ·rw [if_pos c5] at H
  have c5b0 : (a2 == a3) = true := c5
  (try (have c5b1 : decide (a2 = a3) = true := by simpa using c5))
  (try (have c5b2 : (a2 == a3) = true := by simpa using c5))
  clear c5
  replace H := bq_ H
  obtain ⟨t293, A60, H⟩ := H
  replace H : (some t293) = some r := H
  have A6 := Aside0.mk A60
  clear A60
  obtain rfl := Option.some.inj H
  go_enter Tryz.func163, Tryz.ntmps163
  go_wp2_with (first | ((with_reducible refine gate_callee (f := 139) rfl ?_); refine goesL_ (some 14) rfl rfl Tryz.func139 kr rfl #[.int .i64 a0, .bool a2] rfl gl ?_; (with_reducible refine (eF.calls a0 a2 t293 _ A6.out).mono ?_); rintro e w' ⟨rfl, ⟨nd, rfl⟩⟩; refine ⟨_, rfl, ?_⟩))
  go_ret
  exact ⟨gr_, gd_⟩
 ·rw [if_neg c5] at H
  have c5b0 : (a2 == a3) = false := by simpa using c5
  (try (have c5b1 : decide (a2 = a3) = false := by simpa using c5))
  (try (have c5b2 : (a2 == a3) = false := by simpa using c5))
  (try (have c5b3 : ¬ (a2 = a3) := by simpa using c5))
  clear c5
  replace H := bq_ H
  obtain ⟨t294, A70, H⟩ := H
  replace H : (some t294) = some r := H
  have A7 := Aside0.mk A70
  clear A70
  obtain rfl := Option.some.inj H
  go_enter Tryz.func163, Tryz.ntmps163
  go_wp2_with (first | ((with_reducible refine gate_callee (f := 139) rfl ?_); refine goesL_ (some 18) rfl rfl Tryz.func139 kr rfl #[.int .i64 a0, .bool (a1 == 3)] rfl gl ?_; (with_reducible refine (eF.calls a0 (a1 == 3) t294 _ A7.out).mono ?_); rintro e w' ⟨rfl, ⟨nd, rfl⟩⟩; refine ⟨_, rfl, ?_⟩))
  go_ret
  exact ⟨gr_, gd_⟩
mutual
def dJ.j0 : Nat → Int → Int → Int → Int → Bool → Bool → Bool → Option (Int × Bool × Bool × Bool × Bool × Bool)
 |0, _, _, _, _, _, _, _ => none
 |k + 1, x0, x1, x2, x3, x13, x14, x39 => if x39 = true then ((dL.f x0 x2).bind fun t842 => ((dL.f x0 x3).bind fun t843 => ((aZ.f k x0 t842 t843 x13 x14).bind fun bt844 => (some (bt844.1, bt844.2.1, bt844.2.2.1, bt844.2.2.2.1, bt844.2.2.2.2.1, bt844.2.2.2.2.2))))) else ((fJ.f x0 x2).bind fun bt850 => ((fJ.f x0 x3).bind fun bt854 => ((aU.f k bt850.1 bt850.2.1 bt850.2.2.1 bt850.2.2.2 bt854.1 bt854.2.1 bt854.2.2.1 bt854.2.2.2).bind fun bt860 => (if bt860.2.2.1 = 0 then (dJ.j1 k x0 x1 (!bt860.2.2.2) bt850.1 bt850.2.1 bt850.2.2.1 bt850.2.2.2 bt854.1 bt854.2.1 bt854.2.2.1 bt854.2.2.2 bt860.1 bt860.2.1 bt860.2.2.1 bt860.2.2.2) else (dJ.j1 k x0 x1 false bt850.1 bt850.2.1 bt850.2.2.1 bt850.2.2.2 bt854.1 bt854.2.1 bt854.2.2.1 bt854.2.2.2 bt860.1 bt860.2.1 bt860.2.2.1 bt860.2.2.2)))))
def dJ.j1 : Nat → Int → Int → Bool → Bool → Int → Int → Bool → Bool → Int → Int → Bool → Bool → Int → Int → Bool → Option (Int × Bool × Bool × Bool × Bool × Bool)
 |0, _, _, _, _, _, _, _, _, _, _, _, _, _, _, _ => none
 |k + 1, x0, x1, x68, x859000, x859001, x859002, x859003, x860000, x860001, x860002, x860003, x865000, x865001, x865002, x865003 => if x68 = true then ((fI.f x0 x1 x859000 x860000).bind fun t865 => (some (t865, false, false, false, false, false))) else ((aC.f k x0 x1 x865000 x865001 x865002 x865003).bind fun bt866 => (some (bt866.1, bt866.2.1, bt866.2.2.1, bt866.2.2.2.1, bt866.2.2.2.2.1, bt866.2.2.2.2.2)))
end
def dJ.f (k : Nat) (a0 a1 : Int) (a2 a3 : Int) : Option (Int × Bool × Bool × Bool × Bool × Bool) := (bH.f k a0 (([a2, a3] : List Int))).bind fun bt832 => (if bt832.2.2.2.2.2.2 = true then (some (bt832.1, bt832.2.1, bt832.2.2.1, bt832.2.2.2.1, bt832.2.2.2.2.1, bt832.2.2.2.2.2.1)) else ((aW.f k a0 a2).bind fun t840 => ((aW.f k a0 a3).bind fun t841 => (if t840 = true then (dJ.j0 k a0 a1 a2 a3 t840 t841 true) else (dJ.j0 k a0 a1 a2 a3 t840 t841 t841)))))
end P
namespace Round
open P Num BitsF Fmt
theorem aAv (f mode : Int) (a b : Bool) : fI.f f mode a b = some (lY f mode a b : Int) := by
 unfold fI.f lY
 have e3 : ((mode == 3) : Bool) = decide (mode = 3) := by
  by_cases c : mode = 3
  ·subst c; rfl
  ·rw [decide_eq_false c]; exact beq_eq_false_iff_ne.mpr c
 rw [e3]
 by_cases c : a = b
 ·subst c; rw [if_pos (beq_self_eq_true a), if_pos rfl, wD]; rfl
 ·rw [if_neg (show ¬ (a == b) = true by rw [beq_iff_eq]; exact c), if_neg c, wD]; rfl
theorem tN (f : Int) (a b x y : Bool) : Ev (fun k => aZ.f k f a b x y) (if x = true ∧ y = true ∧ a ≠ b then ((pU f : Int), true, false, false, false, false) else if x = true then ((oW f a : Int), false, false, false, false, false) else ((oW f b : Int), false, false, false, false, false)) := by
 have bad : Ev (fun k => aZ.j0 k f a b x true) ((pU f : Int), true, false, false, false, false) :=
  Ev.step (fun k => by rw [aZ.j0, if_pos rfl, aBr]; rfl) (Ev.now _)
 have left : x = true → Ev (fun k => aZ.j0 k f a b x false) ((oW f a : Int), false, false, false, false, false) := fun h =>
  Ev.step (fun k => by rw [aZ.j0, if_neg (by decide), if_pos h, aAk]; rfl) (Ev.now _)
 have right : ¬ x = true → Ev (fun k => aZ.j0 k f a b x false) ((oW f b : Int), false, false, false, false, false) := fun h =>
  Ev.step (fun k => by rw [aZ.j0, if_neg (by decide), if_neg h, aAk]; rfl) (Ev.now _)
 refine Ev.congr (fun k => by unfold aZ.f; rfl) ?_
 by_cases hx : x = true
 ·by_cases hy : y = true
  ·by_cases n : a = b
   ·rw [if_neg (fun h => h.2.2 n), if_pos hx]
    refine Ev.congr (fun k => ?_) (left hx)
    rw [if_pos hx, if_pos hy, n, bne_self_eq_false]
   ·rw [if_pos ⟨hx, hy, n⟩]
    refine Ev.congr (fun k => ?_) bad
    rw [if_pos hx, if_pos hy, bne_iff_ne.mpr n]
  ·rw [if_neg (fun h => hy h.2.1), if_pos hx]
   exact Ev.congr (fun k => by rw [if_pos hx, if_neg hy]) (left hx)
 ·rw [if_neg (fun h => hx h.1), if_neg hx]
  exact Ev.congr (fun k => by rw [if_neg hx]) (right hx)
theorem o5 (f : Int) (v : Nat) : bT f v < 4611686018427387904 := by
 have h := eP f
 have h1 := kM f v
 have h2 := eZ (show fm f + 1 ≤ 31 by omega)
 omega
theorem add_ev (f mode : Int) (a b : Nat) (ha : a < 4294967296) (hb : b < 4294967296) : Ev (fun k => dJ.f k f mode (a : Int) (b : Int)) ((pV f mode a b : Int), sumX f mode a b) := by
 have hla := r9 f a
 have hlb := r9 f b
 refine Ev.congr (fun k => by unfold dJ.f; rfl) (Ev.bind (uD f a b ha hb) ?_)
 unfold pV sumX
 by_cases n : 4 ≤ cO f a ∨ 4 ≤ cO f b
 ·have e : (fC f a || fC f b) = true := by unfold fC; rw [Bool.or_eq_true, decide_eq_true_iff, decide_eq_true_iff]; exact n
  rw [if_pos n, if_pos n]
  exact Ev.congr (fun k => by rw [if_pos e]) (Ev.now _)
 ·have e : ¬ (fC f a || fC f b) = true := by unfold fC; rw [Bool.or_eq_true, decide_eq_true_iff, decide_eq_true_iff]; exact n
  rw [if_neg n, if_neg n]
  refine Ev.congr (fun k => by rw [if_neg e]) (Ev.bind (iR f a ha) (Ev.bind (iR f b hb) ?_))
  by_cases i : cO f a = 3 ∨ cO f b = 3
  ·have hj : Ev (fun k => dJ.j0 k f mode (a : Int) (b : Int) (decide (cO f a = 3)) (decide (cO f b = 3)) true)
     ((((if cO f a = 3 ∧ cO f b = 3 ∧ dO f a ≠ dO f b then pU f else if cO f a = 3 then oW f (dO f a) else if cO f b = 3 then oW f (dO f b) else fP f mode (dO f a) (dO f b) (tV f a b) : Nat) : Int)),
      if cO f a = 3 ∧ cO f b = 3 ∧ dO f a ≠ dO f b then (true, false, false, false, false) else if cO f a = 3 ∨ cO f b = 3 then (false, false, false, false, false) else (false, false, gK f mode (tV f a b))) := by
    have hin := tN f (dO f a) (dO f b) (decide (cO f a = 3)) (decide (cO f b = 3))
    simp only [decide_eq_true_iff] at hin
    refine Ev.step (fun k => by rw [dJ.j0, if_pos rfl, sI f a ha, Option.bind_some, sI f b hb, Option.bind_some]) (Ev.bind hin (Ev.congr (fun k => ?_) (Ev.now _)))
    by_cases t : cO f a = 3 ∧ cO f b = 3 ∧ dO f a ≠ dO f b
    ·rw [if_pos t, if_pos t, if_pos t]
    ·rw [if_neg t, if_neg t, if_neg t, if_pos i]
     by_cases a3 : cO f a = 3
     ·rw [if_pos a3, if_pos a3]
     ·rw [if_neg a3, if_neg a3, if_pos (i.resolve_left a3)]
   by_cases a3 : cO f a = 3
   ·exact Ev.congr (fun k => by rw [if_pos (decide_eq_true a3)]) hj
   ·refine Ev.congr (fun k => by rw [if_neg (by simp [a3])]) ?_
    rw [show decide (cO f b = 3) = true from decide_eq_true (i.resolve_left a3)] at hj ⊢
    exact hj
  ·have a3 : ¬ cO f a = 3 := fun h => i (.inl h)
   have b3 : ¬ cO f b = 3 := fun h => i (.inr h)
   rw [if_neg (fun h => a3 h.1), if_neg a3, if_neg b3, if_neg (fun h => a3 h.1), if_neg i]
   obtain ⟨l1, l2⟩ := fD f a
   obtain ⟨m1, m2⟩ := fD f b
   have hx := aAK (dO f a) (bN f a) (bT f a) (dO f b) (bN f b) (bT f b) (o5 f a) (o5 f b) (by omega) (by omega) (by omega) (by omega)
   obtain ⟨x1, x2, x3⟩ := rZ (dO f a) (bN f a) (bT f a) (dO f b) (bN f b) (bT f b) (o5 f a) (o5 f b) (by omega) (by omega) (by omega) (by omega)
   rw [decide_eq_false a3, decide_eq_false b3]
   refine Ev.congr (fun k => by rw [if_neg (by decide)]) (Ev.step (fun k => by rw [dJ.j0, if_neg (by decide), of_f f a ha (iQ f a (by omega)), Option.bind_some, of_f f b hb (iQ f b (by omega)), Option.bind_some]) ?_)
   dsimp only
   refine Ev.bind hx ?_
   unfold tV zX
   generalize kT (dO f a) (bN f a) (bT f a) (dO f b) (bN f b) (bT f b) = r at *
   obtain ⟨rn, re, rs, rm⟩ := r
   dsimp only at *
   have hp := oV f mode rn re rs rm (by omega)
   rw [iX _ (by omega) (by omega)] at hp
   have pack : ¬ (rs = 0 ∧ rm = false) → Ev (fun k => dJ.j1 k f mode false (dO f a) (bN f a) (bT f a : Int) false (dO f b) (bN f b) (bT f b : Int) false rn re (rs : Int) rm) ((fP f mode (dO f a) (dO f b) (rn, re, rs, rm) : Int), false, false, gK f mode (rn, re, rs, rm)) := by
    intro z
    have zz : ¬ (rs, rm) = (0, false) := fun e => z ⟨(Prod.mk.inj e).1, (Prod.mk.inj e).2⟩
    unfold fP gK
    rw [if_neg zz, if_neg zz]
    exact Ev.step (fun k => by rw [dJ.j1, if_neg (by decide)]) (Ev.bind hp (Ev.now _))
   by_cases s0 : rs = 0
   ·cases rm
    ·have zz : (rs, false) = (0, false) := by rw [s0]
     refine Ev.congr (fun k => by rw [if_pos (by omega)]) (Ev.step (fun k => by rw [dJ.j1, if_pos (by decide), aAv]) (Ev.congr (fun k => ?_) (Ev.now _)))
     unfold fP gK
     rw [if_pos zz, if_pos zz]; rfl
    ·exact Ev.congr (fun k => by rw [if_pos (by omega)]; rfl) (pack (by simp))
   ·exact Ev.congr (fun k => by rw [if_neg (by omega)]) (pack (fun h => s0 h.1))
def vD (f : Int) (v : Nat) : Nat := v % 2 ^ (fe f + fm f)
theorem aBd (r h j : Nat) : sM (r * 2 ^ j) (h * 2 ^ j) false = sM r h false := by
 have hp := Nat.two_pow_pos j
 unfold sM
 have h1 : r * 2 ^ j < h * 2 ^ j ↔ r < h := Nat.mul_lt_mul_right hp
 have h2 : r * 2 ^ j = 0 ↔ r = 0 := by rw [Nat.mul_eq_zero]; omega
 have h3 : r * 2 ^ j = h * 2 ^ j ↔ r = h := ⟨fun e => Nat.eq_of_mul_eq_mul_right hp e, fun e => by rw [e]⟩
 simp only [h1, h2, h3]
theorem o6 (s : Nat) (d : Int) (h : d ≤ 0 ∨ s % 2 ^ d.toNat = 0) : gD s d false = 0 := gH false h
theorem yM (s j : Nat) (d : Int) : iM (s * 2 ^ j) d = iM s (d - j) ∧ gD (s * 2 ^ j) d false = gD s (d - j) false := by
 by_cases c : d ≤ 0
 ·rw [o6 _ _ (.inl c), o6 _ _ (.inl (by omega))]
  refine ⟨?_, rfl⟩
  unfold iM
  rw [if_pos c, if_pos (by omega), show (-(d - (j : Int))).toNat = j + (-d).toNat by omega, Nat.pow_add, Nat.mul_assoc]
 ·obtain ⟨n, rfl⟩ := mG (show 0 ≤ d by omega)
  by_cases c2 : (n : Int) - j ≤ 0
  ·obtain ⟨i, rfl⟩ : ∃ i, j = n + i := ⟨j - n, by omega⟩
   have e : s * 2 ^ (n + i) = s * 2 ^ i * 2 ^ n := by rw [Nat.add_comm, Nat.pow_add, Nat.mul_assoc]
   have hp := Nat.two_pow_pos n
   constructor
   ·unfold iM
    rw [if_neg c, if_pos c2, Int.toNat_natCast, e, Nat.mul_div_cancel _ hp, show (-((n : Int) - ((n + i : Nat) : Int))).toNat = i by omega]
   ·rw [o6 _ _ (.inr (by rw [Int.toNat_natCast, e, Nat.mul_mod_left])), o6 _ _ (.inl c2)]
  ·obtain ⟨i, rfl⟩ : ∃ i, n = i + j := ⟨n - j, by omega⟩
   have hp := Nat.two_pow_pos j
   have e : ((i + j : Nat) : Int) - (j : Int) = (i : Int) := by omega
   rw [e] at c2 ⊢
   have hi : i ≠ 0 := by omega
   constructor
   ·unfold iM
    rw [if_neg c, if_neg c2, Int.toNat_natCast, Int.toNat_natCast, Nat.pow_add, Nat.mul_div_mul_right _ _ hp]
   ·rw [mV _ _ _ c, mV _ _ _ c2, Int.toNat_natCast, Int.toNat_natCast, Nat.pow_add, Nat.mul_mod_mul_right, show i + j - 1 = i - 1 + j by omega, Nat.pow_add, aBd]
theorem wB (f x : Int) (s j : Nat) : gV f x (s * 2 ^ j) = gV f (x + j) s := by
 unfold gV
 by_cases c : s = 0
 ·subst c; rw [Nat.zero_mul, if_pos rfl, if_pos rfl]
 ·rw [if_neg (Nat.mul_ne_zero c (Nat.ne_of_gt (Nat.two_pow_pos j))), if_neg c, tH s j c]
  congr 1; omega
theorem aB4 (f mode : Int) (neg : Bool) (x : Int) (s j : Nat) : pO f mode neg x (s * 2 ^ j) false = pO f mode neg (x + j) s false := by
 have hr := wB f x s j
 have hu : dU f x (s * 2 ^ j) = dU f (x + j) s := by unfold dU; rw [hr]
 obtain ⟨hq, hl⟩ := yM s j (dU f (x + j) s - x)
 rw [show dU f (x + j) s - x - j = dU f (x + j) s - (x + j) by omega] at hq hl
 unfold pO
 rw [hr, hu, hq, hl]
theorem pY (f : Int) (v : Nat) : vD f v / 2 ^ fm f = mE f v ∧ vD f v % 2 ^ fm f = jY f v := by
 unfold vD mE jY
 rw [Nat.add_comm (fe f), Nat.pow_add]
 exact ⟨Nat.mod_mul_right_div_self .., Nat.mod_mul_right_mod ..⟩
def vB (f : Int) : Nat := gN f * 2 ^ fm f
theorem wP (f : Int) : vB f < 2 ^ (fe f + fm f) ∧ 0 < vB f := by
 obtain ⟨_, hi⟩ := l9 f false
 have hp := Nat.two_pow_pos (fm f)
 have ht : 0 < gN f * 2 ^ fm f := Nat.mul_pos (by have := gU f; omega) hp
 unfold vB; omega
theorem lK (f : Int) (P : Nat) (neg : Bool) (h : P < 2 ^ (fe f + fm f)) : dO f (P + eQ f neg) = neg ∧ vD f (P + eQ f neg) = P ∧ P + eQ f neg < 2 ^ (fe f + fm f + 1) := by
 unfold dO vD eQ
 have hp := Nat.two_pow_pos (fe f + fm f)
 cases neg
 ·simp only [Bool.false_eq_true, if_false, Nat.add_zero]
  rw [Nat.div_eq_of_lt h, Nat.mod_eq_of_lt h, Nat.pow_succ]
  exact ⟨rfl, rfl, by omega⟩
 ·simp only [if_true]
  rw [Nat.add_div_right _ hp, Nat.div_eq_of_lt h, Nat.add_mod_right, Nat.mod_eq_of_lt h, Nat.pow_succ]
  exact ⟨rfl, rfl, by omega⟩
theorem vU (f : Int) (P : Nat) (neg : Bool) (h : P < 2 ^ (fe f + fm f)) : iI f (iH f (P + eQ f neg)) = if neg then -1 - (P : Int) else (P : Int) := by
 obtain ⟨h1, h2, h3⟩ := lK f P neg h
 rw [low_id f _ h3]
 unfold iI
 unfold vD at h2
 rw [h1, h2]
theorem mag_exp (f : Int) (v : Nat) : mE f v < gN f ↔ vD f v < vB f := by
 obtain ⟨h1, _⟩ := pY f v
 unfold vB
 rw [← h1, Nat.div_lt_iff_lt_mul (Nat.two_pow_pos _)]
theorem aBU (f : Int) (v : Nat) (h : vD f v = vB f) : cO f v = 3 := by
 obtain ⟨h1, h2⟩ := pY f v
 have ht := gU f
 unfold cO
 rw [← h1, ← h2, h]
 unfold vB
 rw [Nat.mul_div_cancel _ (Nat.two_pow_pos _), Nat.mul_mod_left, if_neg (by omega), if_neg (by omega), if_pos rfl]
def capN (f mode : Int) (neg : Bool) (K : Nat) : Nat := if vB f ≤ K then (if jM mode neg then vB f else vB f - 1) else K
theorem pack_cap (f mode : Int) (neg : Bool) (x : Int) (s : Nat) (more : Bool) : gB f mode neg x s more = capN f mode neg (pO f mode neg x s more) + eQ f neg := by
 unfold gB capN iZ vB; simp only [decide_eq_true_iff]
theorem cap_le (f mode : Int) (neg : Bool) (K : Nat) : capN f mode neg K ≤ vB f ∧ capN f mode neg K ≤ K := by
 unfold capN
 by_cases h : vB f ≤ K
 ·rw [if_pos h]; split <;> omega
 ·rw [if_neg h]; omega
theorem mag_sign (f : Int) (v : Nat) (h : v < 2 ^ (fe f + fm f + 1)) : v = vD f v + eQ f (dO f v) := by
 unfold vD eQ dO
 have h1 := Nat.div_add_mod v (2 ^ (fe f + fm f))
 have h2 : v / 2 ^ (fe f + fm f) < 2 := by rw [Nat.div_lt_iff_lt_mul (Nat.two_pow_pos _), Nat.mul_comm, ← Nat.pow_succ]; exact h
 rw [Nat.mod_eq_of_lt h2]
 generalize v / 2 ^ (fe f + fm f) = b at *
 have h3 : b = 0 ∨ b = 1 := by omega
 rcases h3 with rfl | rfl
 ·simp at h1 ⊢; omega
 ·simp at h1 ⊢; omega
def turnN (f : Int) (v : Nat) : Nat := vD f v + eQ f (!dO f v)
theorem xor_off (m n : Nat) (h : m < 2 ^ n) : m ^^^ 2 ^ n = m + 2 ^ n ∧ (m + 2 ^ n) ^^^ 2 ^ n = m := by
 have ho : m + 2 ^ n = 2 ^ n ||| m := by rw [nO (2 ^ n) m n (Nat.mod_self _) h, Nat.add_comm]
 have hn : m.testBit n = false := Nat.testBit_lt_two_pow h
 rw [ho]
 constructor
 ·apply Nat.eq_of_testBit_eq
  intro i
  rw [Nat.testBit_xor, Nat.testBit_or, Nat.testBit_two_pow]
  by_cases e : n = i
  ·subst e; rw [hn]; simp
  ·rw [decide_eq_false e]; simp
 ·apply Nat.eq_of_testBit_eq
  intro i
  rw [Nat.testBit_xor, Nat.testBit_or, Nat.testBit_two_pow]
  by_cases e : n = i
  ·subst e; rw [hn]; simp
  ·rw [decide_eq_false e]; simp
theorem mag_lt (f : Int) (v : Nat) : vD f v < 2 ^ (fe f + fm f) := Nat.mod_lt _ (Nat.two_pow_pos _)
theorem aCG (f : Int) (v : Nat) : iH f v = vD f v + eQ f (dO f v) := by
 have h := mag_sign f (iH f v) (vQ f v)
 have e : vD f (iH f v) = vD f v := by
  unfold vD iH
  exact Nat.mod_mod_of_dvd _ (Nat.pow_dvd_pow 2 (by omega))
 rw [rM, e] at h
 exact h
theorem turn_f (f : Int) (v : Nat) (hv : v < 4294967296) : gQ.f f (v : Int) = some (turnN f v : Int) := by
 have hb := eP f
 have h31 := eZ (show fe f + fm f ≤ 31 by omega)
 have hm := mag_lt f v
 have hs : eQ f true = 2 ^ (fe f + fm f) := rfl
 have hs0 : eQ f false = 0 := rfl
 obtain ⟨x1, x2⟩ := xor_off (vD f v) (fe f + fm f) hm
 unfold gQ.f turnN
 rw [jD, Option.bind_some, zT, Option.bind_some]
 dsimp only
 rw [sum_w, if_pos (Int.natCast_nonneg _), jR f v hv, oF _ (by omega), aCG]
 cases dO f v
 ·rw [hs0, Nat.add_zero, aCy _ _ (by omega) (by omega), x1]; rfl
 ·rw [hs, aCy _ _ (by omega) (by omega), x2, Bool.not_true, hs0, Nat.add_zero]
def nS (f : Int) (a b : Nat) : Bool := decide (cO f a = 0 ∧ cO f b = 3 ∨ cO f a = 3 ∧ cO f b = 0)
def mulN (f mode : Int) (a b : Nat) : Nat :=
 if 4 ≤ cO f a ∨ 4 ≤ cO f b then pU f else if nS f a b then pU f else if cO f a = 3 ∨ cO f b = 3 then oW f (dO f a != dO f b)
 else gB f mode (dO f a != dO f b) (bN f a + bN f b) (bT f a * bT f b) false
def mulX (f mode : Int) (a b : Nat) : Bool × Bool × Bool × Bool × Bool :=
 if 4 ≤ cO f a ∨ 4 ≤ cO f b then (fV f a || fV f b, false, false, false, false) else if nS f a b then (true, false, false, false, false) else if cO f a = 3 ∨ cO f b = 3 then (false, false, false, false, false)
 else (false, false, lZ f mode (dO f a != dO f b) (bN f a + bN f b) (bT f a * bT f b) false)
theorem uI (f : Int) (a b : Nat) : bT f a * bT f b < 18446744073709551616 := by
 have wa := kM f a
 have wb := kM f b
 have hbd := eP f
 have hp24 : 2 ^ (fm f + 1) ≤ 16777216 := Nat.pow_le_pow_right (show 0 < 2 by decide) (show fm f + 1 ≤ 24 by omega)
 have := Nat.mul_le_mul (show bT f a ≤ 16777216 by omega) (show bT f b ≤ 16777216 by omega)
 omega
end Round
namespace P
attribute [local go_sem] max2_int min2_int max_two min_two max_three min_three max_four min_four
def cB.f (a0 a1 a2 : Int) : Option (Bool × Int × Int × Bool) := (fJ.f a0 a1).bind fun bt256 => ((fJ.f a0 a2).bind fun bt260 => (some ((bt256.1 != bt260.1), wrap64 (bt256.2.1 + bt260.2.1), IntKind.u64.wrap (bt256.2.2.1 * bt260.2.2.1), false)))
def dR.j0 : Nat → Int → Int → Int → Int → Bool → Bool → Option (Int × Bool × Bool × Bool × Bool × Bool)
 |0, _, _, _, _, _, _ => none
 |k + 1, x0, x1, x2, x3, x13, x49 => if x49 = true then ((dQ.f x0 x13).bind fun t465 => (some (t465, false, false, false, false, false))) else ((cB.f x0 x2 x3).bind fun bt466 => ((aC.f k x0 x1 x13 bt466.2.1 bt466.2.2.1 false).bind fun bt471 => (some (bt471.1, bt471.2.1, bt471.2.2.1, bt471.2.2.2.1, bt471.2.2.2.2.1, bt471.2.2.2.2.2))))
def dR.f (k : Nat) (a0 a1 : Int) (a2 a3 : Int) : Option (Int × Bool × Bool × Bool × Bool × Bool) := (bH.f k a0 (([a2, a3] : List Int))).bind fun bt446 => (if bt446.2.2.2.2.2.2 = true then (some (bt446.1, bt446.2.1, bt446.2.2.1, bt446.2.2.2.1, bt446.2.2.2.2.1, bt446.2.2.2.2.2.1)) else ((dS.f k a0 a2 a3).bind fun t454 => (if t454 = true then ((fM.f a0).bind fun bt455 => (some (bt455.1, bt455.2.1, bt455.2.2.1, bt455.2.2.2.1, bt455.2.2.2.2.1, bt455.2.2.2.2.2))) else ((dL.f a0 a2).bind fun t461 => ((dL.f a0 a3).bind fun t462 => ((aW.f k a0 a2).bind fun t463 => (if t463 = true then (dR.j0 k a0 a1 a2 a3 (t461 != t462) true) else ((aW.f k a0 a3).bind fun t464 => (dR.j0 k a0 a1 a2 a3 (t461 != t462) t464)))))))))
end P
end
end Go.Proofs.YtolpdiifmacdbaaGreat
