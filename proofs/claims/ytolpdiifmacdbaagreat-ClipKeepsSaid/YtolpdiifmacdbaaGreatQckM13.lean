import Derived.Test.YtolpdiifmacdbaaGreatQckPartsN
set_option linter.unusedVariables false
set_option linter.unusedSimpArgs false
set_option maxRecDepth 100000
set_option maxHeartbeats 8000000
namespace Go.Proofs.YtolpdiifmacdbaaGreat
noncomputable section
open Go.RowKit YtolpdiifmacdbaaGreatW.PrintWords YtolpdiifmacdbaaGreatW.PrintLast YtolpdiifmacdbaaGreatW.PrintMore
namespace Round
open P Num BitsF Fmt
end Round
namespace P
attribute [local go_sem] max2_int min2_int max_two min_two max_three min_three max_four min_four
def aT.f (k : Nat) (a0 a1 : Int) (a2 a3 a4 : Int) : Option (Int × Bool × Bool × Bool × Bool × Bool) := E.aT.f k a0 a1 a2 a3 a4
theorem aT.calls (k : Nat) (a0 a1 : Int) (a2 a3 : Int) (a4 r1 : Int) (r2 r3 : Bool) (r4 r5 r6 : Bool) (w : World) (h : aT.f k a0 a1 a2 a3 a4 = some (r1, r2, r3, r4, r5, r6)) :
  Calls Tryz.prog 34 #[.int .i64 a0, .int .i64 a1, .int .u32 a2, .int .u32 a3, .int .u32 a4] w fun e w' => e = .returned (.tuple #[.int .u32 r1, .agg #[.bool r2, .bool r3, .bool r4, .bool r5, .bool r6]]) ∧ Below w.heap.size w w' :=
 Ek.iK E.aT.ok k ((a0, ()), (a1, ()), (a2, ()), (a3, ()), (a4, ()), ()) (r1, r2, r3, r4, r5, r6) rfl h w
def iD.f (k : Nat) (a0 a1 a2 : Int) : Option (Int) := (aT.f k 2 0 a0 a1 a2).bind fun bt691 => (some bt691.1)
theorem iD.calls (k : Nat) (a0 a1 : Int) (a2 r : Int) (w : World) (h : iD.f k a0 a1 a2 = some r) :
  Calls Tryz.prog 9 #[.int .u32 a0, .int .u32 a1, .int .u32 a2] w fun e w' => e = .returned (.int .u32 r) ∧ Below w.heap.size w w' := by
 have hu62 := Tryz.underlying62
 have HB := Aside0.mk (Below.refl w.heap.size w)
 have H : ((aT.f k 2 0 a0 a1 a2).bind fun bt691 => (some bt691.1)) = some r := h
 clear h
 replace H := bq_ H
 obtain ⟨⟨t691, t692, t693, t694, t695, t696⟩, A40, H⟩ := H
 replace H : (some t691) = some r := H
 have A4 := Aside0.mk A40
 clear A40
 obtain rfl := Option.some.inj H
 go_enter Tryz.func9, Tryz.ntmps9
 go_wp2_with (first | ((with_reducible refine gate_callee (f := 34) rfl ?_); refine goesL_ (some 13) rfl rfl Tryz.func34 kr rfl #[.int .i64 2, .int .i64 0, .int .u32 a0, .int .u32 a1, .int .u32 a2] rfl gl ?_; (with_reducible refine (aT.calls k 2 0 a0 a1 a2 t691 t692 t693 t694 t695 t696 _ A4.out).mono ?_); rintro e w5 ⟨rfl, hb⟩; refine ⟨_, rfl, ?_⟩; have n0_ := Aside0.mk (below_step (bl0 HB.out) hb); clear HB; have HB := n0_; clear n0_) | ((with_reducible refine gate_dst (N := 8) rfl ?_); refine box_event ?hg (N := 8) ?hd (cs := F5) (t := 62) ?hr ?_; (case hd => rfl); (case hg => rfl); (case hr => first | (go_simp; done) | (go_simp; rfl)); intro gb697 hg w6 hbox hb; have n0_ := Aside0.mk (below_step (bl0 HB.out) hb); have n1_ := Aside0.mk (hbox); have n2_ := Aside0.mk ((by rw [hg]; exact (below_size (bl0 HB.out)) : w.heap.size ≤ gb697)); have n3_ := n2_; clear HB; have HB := n0_; have BK697 := n1_; have GW697 := n2_; have GE697 := n3_; clear n0_ n1_ n2_ n3_; clear hb hbox hg; obtain ⟨hcz7_0, hcz7_1, hcz7_2, hcz7_3, hcz7_4⟩ := bc5 BK697.out; obtain ⟨hfz7_0, hfz7_1, hfz7_2, hfz7_3, hfz7_4⟩ := bf5 BK697.out))
 go_ret
 exact ⟨by first | rfl | (simp [eG, eO] <;> rfl) | (simp [*, eG, eO] <;> rfl), bl1 HB.out GE697.out⟩
def bD.f (k : Nat) (a0 a1 : Int) (a2 a3 : Int) : Option (Int × Bool × Bool × Bool × Bool × Bool) := E.bD.f k a0 a1 a2 a3
theorem bD.calls (k : Nat) (a0 a1 : Int) (a2 a3 r1 : Int) (r2 r3 : Bool) (r4 r5 r6 : Bool) (w : World) (h : bD.f k a0 a1 a2 a3 = some (r1, r2, r3, r4, r5, r6)) :
  Calls Tryz.prog 71 #[.int .i64 a0, .int .i64 a1, .int .u32 a2, .int .u32 a3] w fun e w' => e = .returned (.tuple #[.int .u32 r1, .agg #[.bool r2, .bool r3, .bool r4, .bool r5, .bool r6]]) ∧ Below w.heap.size w w' :=
 Ek.iK E.bD.ok k ((a0, ()), (a1, ()), (a2, ()), (a3, ()), ()) (r1, r2, r3, r4, r5, r6) rfl h w
def iF.f (k : Nat) (a0 a1 : Int) : Option (Int) := (bD.f k 2 0 a0 a1).bind fun bt762 => (some bt762.1)
theorem iF.calls (k : Nat) (a0 a1 r : Int) (w : World) (h : iF.f k a0 a1 = some r) :
  Calls Tryz.prog 28 #[.int .u32 a0, .int .u32 a1] w fun e w' => e = .returned (.int .u32 r) ∧ Below w.heap.size w w' := by
 have hu62 := Tryz.underlying62
 have HB := Aside0.mk (Below.refl w.heap.size w)
 have H : ((bD.f k 2 0 a0 a1).bind fun bt762 => (some bt762.1)) = some r := h
 clear h
 replace H := bq_ H
 obtain ⟨⟨t762, t763, t764, t765, t766, t767⟩, A30, H⟩ := H
 replace H : (some t762) = some r := H
 have A3 := Aside0.mk A30
 clear A30
 obtain rfl := Option.some.inj H
 go_enter Tryz.func28, Tryz.ntmps28
 go_wp2_with (first | ((with_reducible refine gate_callee (f := 71) rfl ?_); refine goesL_ (some 10) rfl rfl Tryz.func71 kr rfl #[.int .i64 2, .int .i64 0, .int .u32 a0, .int .u32 a1] rfl gl ?_; (with_reducible refine (bD.calls k 2 0 a0 a1 t762 t763 t764 t765 t766 t767 _ A3.out).mono ?_); rintro e w4 ⟨rfl, hb⟩; refine ⟨_, rfl, ?_⟩; have n0_ := Aside0.mk (below_step (bl0 HB.out) hb); clear HB; have HB := n0_; clear n0_) | ((with_reducible refine gate_dst (N := 6) rfl ?_); refine box_event ?hg (N := 6) ?hd (cs := F5) (t := 62) ?hr ?_; (case hd => rfl); (case hg => rfl); (case hr => first | (go_simp; done) | (go_simp; rfl)); intro gb768 hg w5 hbox hb; have n0_ := Aside0.mk (below_step (bl0 HB.out) hb); have n1_ := Aside0.mk (hbox); have n2_ := Aside0.mk ((by rw [hg]; exact (below_size (bl0 HB.out)) : w.heap.size ≤ gb768)); have n3_ := n2_; clear HB; have HB := n0_; have BK768 := n1_; have GW768 := n2_; have GE768 := n3_; clear n0_ n1_ n2_ n3_; clear hb hbox hg; obtain ⟨hcz6_0, hcz6_1, hcz6_2, hcz6_3, hcz6_4⟩ := bc5 BK768.out; obtain ⟨hfz6_0, hfz6_1, hfz6_2, hfz6_3, hfz6_4⟩ := bf5 BK768.out))
 go_ret
 exact ⟨by first | rfl | (simp [eG, eO] <;> rfl) | (simp [*, eG, eO] <;> rfl), bl1 HB.out GE768.out⟩
end P
namespace Round
open P Num BitsF Fmt
theorem aCs (a b : Nat) (ha : a < 4294967296) (hb : b < 4294967296) : Ev (fun k => iF.f k (a : Int) (b : Int)) ((pV 2 0 a b : Nat) : Int) :=
 Ev.congr (fun k => by unfold iF.f; rfl) (Ev.bind (show Ev (fun k => bD.f k 2 0 (a : Int) (b : Int)) _ from aBf 2 0 a b ha hb) (Ev.now _))
theorem aCF (a b c : Nat) (ha : a < 4294967296) (hb : b < 4294967296) (hc : c < 4294967296) : Ev (fun k => iD.f k (a : Int) (b : Int) (c : Int)) ((uK 2 0 a b c : Nat) : Int) :=
 Ev.congr (fun k => by unfold iD.f; rfl) (Ev.bind (show Ev (fun k => aT.f k 2 0 (a : Int) (b : Int) (c : Int)) _ from aA8 2 0 a b c ha hb hc) (Ev.now _))
end Round
namespace BitsF
open P Num
def jJ : Nat → Nat → Nat → Nat
 |0, _, r => r
 |j + 1, v, r => if (r + 2 ^ j) * (r + 2 ^ j) ≤ v then jJ j v (r + 2 ^ j) else jJ j v r
def gT (v : Nat) : Nat := jJ 32 v 0
theorem aCl (j : Nat) : ∀ v r, r * r ≤ v → v < (r + 2 ^ j) * (r + 2 ^ j) → jJ j v r * jJ j v r ≤ v ∧ v < (jJ j v r + 1) * (jJ j v r + 1) := by
 induction j with
 |zero => intro v r h h'; exact ⟨h, h'⟩
 |succ j ih =>
  intro v r h h'
  unfold jJ
  by_cases c : (r + 2 ^ j) * (r + 2 ^ j) ≤ v
  ·rw [if_pos c]; exact ih v _ c (by rw [Nat.add_assoc, ← Nat.mul_two, ← Nat.pow_succ]; exact h')
  ·rw [if_neg c]; exact ih v r h (by omega)
theorem aCe (j : Nat) : ∀ v r n, r + 2 ^ j ≤ n → jJ j v r < n := by
 induction j with
 |zero => intro v r n h; unfold jJ; have := Nat.two_pow_pos 0; omega
 |succ j ih =>
  intro v r n h
  rw [Nat.pow_succ] at h
  unfold jJ
  split
  ·exact ih _ _ _ (by omega)
  ·exact ih _ _ _ (by omega)
theorem w9 (v : Nat) (hv : v < 18446744073709551616) : gT v * gT v ≤ v ∧ v < (gT v + 1) * (gT v + 1) := aCl 32 v 0 (by omega) (by omega)
theorem aAu (v : Nat) : gT v < 4294967296 := aCe 32 v 0 _ (by decide)
theorem sq_lt {a b : Nat} (h : a < b) : a * a < b * b := Nat.mul_self_lt_mul_self h
theorem sq32 {a : Nat} (h : a < 4294967296) : a * a < 18446744073709551616 := sq_lt (b := 4294967296) h
theorem aAQ (a b : Nat) : (((a : Int) == (b : Int)) : Bool) = decide (a = b) := by
 by_cases h : a = b
 ·subst h; simp
 ·rw [beq_eq_false_iff_ne.mpr (by omega)]; simp [h]
theorem root_l0 (v j : Nat) : ∀ r k : Nat, r % 2 ^ j = 0 → r + 2 ^ j ≤ 4294967296 →
  dZ.l0 (j + 1 + k) (v : Int) (r : Int) ((2 ^ j / 2 : Nat) : Int) = some ((jJ j v r : Int), decide (jJ j v r * jJ j v r = v)) := by
 induction j with
 |zero =>
  intro r k h h'
  rw [show 0 + 1 + k = k + 1 by omega, dZ.l0, if_neg (by decide)]
  rw [Nat.pow_zero] at h'
  unfold jJ
  rw [show (r : Int) * (r : Int) = ((r * r : Nat) : Int) by simp, gL _ (sq32 (by omega)), aAQ, Int.emod_eq_of_lt (by omega) (by omega)]
 |succ j ih =>
  intro r k h h'
  have hp := Nat.two_pow_pos j
  have e : 2 ^ (j + 1) / 2 = 2 ^ j := by rw [Nat.pow_succ, Nat.mul_div_cancel _ (by decide)]
  have e2 : ((2 ^ j : Nat) : Int) / 2 = ((2 ^ j / 2 : Nat) : Int) := by omega
  have hh : r % 2 ^ j = 0 := by
   rw [Nat.pow_succ] at h
   have := Nat.mod_mul_right_mod r (2 ^ j) 2
   rw [h] at this; simpa using this.symm
  rw [Nat.pow_succ] at h'
  rw [show j + 1 + 1 + k = (j + 1 + k) + 1 by omega, dZ.l0, e, if_pos (by omega), aAp _ _ (by omega) (by omega), nO r (2 ^ j) (j + 1) h (by rw [Nat.pow_succ]; omega)]
  rw [show ((r + 2 ^ j : Nat) : Int) * ((r + 2 ^ j : Nat) : Int) = (((r + 2 ^ j) * (r + 2 ^ j) : Nat) : Int) by simp, gL _ (sq32 (by omega)), e2]
  unfold jJ
  by_cases c : (r + 2 ^ j) * (r + 2 ^ j) ≤ v
  ·rw [if_pos (by omega), if_pos c]
   exact ih (r + 2 ^ j) k (by rw [Nat.add_mod_right]; exact hh) (by omega)
  ·rw [if_neg (by omega), if_neg c]
   exact ih r k hh (by omega)
theorem root_ev (v : Nat) : Ev (fun k => dZ.f k (v : Int)) ((gT v : Int), decide (gT v * gT v = v)) :=
 Ev.of (dZ.mono _) (k := 33) (by
  have h := root_l0 v 32 0 0 (by decide) (by decide)
  rw [show ((2 ^ 32 / 2 : Nat) : Int) = 2147483648 by decide, show ((0 : Nat) : Int) = 0 from rfl] at h
  exact h)
end BitsF
namespace Round
open P Num BitsF Fmt
theorem qF (x : Int) : Int.tmod x 2 = 0 ↔ x % 2 = 0 := by
 constructor
 ·intro h
  have := Int.mul_tdiv_add_tmod x 2
  omega
 ·intro h
  obtain ⟨y, rfl⟩ : ∃ y, x = 2 * y := ⟨x / 2, by omega⟩
  exact Int.mul_tmod_right ..
theorem uO (x : Int) (h : x % 2 = 0) : Int.tdiv x 2 = x / 2 := by
 obtain ⟨y, rfl⟩ : ∃ y, x = 2 * y := ⟨x / 2, by omega⟩
 rw [Int.mul_tdiv_cancel_left y (by decide)]; omega
theorem zD (f mode x : Int) (V j : Nat) (hV : V * 2 ^ (j + j) < 18446744073709551616) (hs : 2 ^ (fm f + 1) ≤ gT V) :
  gB f mode false x (gT (V * 2 ^ (j + j))) (!decide (gT (V * 2 ^ (j + j)) * gT (V * 2 ^ (j + j)) = V * 2 ^ (j + j))) = gB f mode false (x + j) (gT V) (!decide (gT V * gT V = V)) ∧
  lZ f mode false x (gT (V * 2 ^ (j + j))) (!decide (gT (V * 2 ^ (j + j)) * gT (V * 2 ^ (j + j)) = V * 2 ^ (j + j))) = lZ f mode false (x + j) (gT V) (!decide (gT V * gT V = V)) := by
 have hp := Nat.two_pow_pos j
 have hV' : V < 18446744073709551616 := Nat.lt_of_le_of_lt (Nat.le_mul_of_pos_right V (Nat.two_pow_pos _)) hV
 obtain ⟨s1, s2⟩ := w9 V hV'
 obtain ⟨r1, r2⟩ := w9 _ hV
 generalize gT (V * 2 ^ (j + j)) = R at *
 generalize gT V = s at *
 rw [Nat.pow_add] at *
 generalize hP : 2 ^ j = P at *
 have sq : ∀ u : Nat, (u * P) * (u * P) = u * u * (P * P) := fun u => Nat.mul_mul_mul_comm ..
 have hPP : 0 < P * P := Nat.mul_pos hp hp
 have lo : s * P ≤ R := by
  rcases Nat.lt_or_ge R (s * P) with c | c
  ·have := Nat.mul_self_le_mul_self (show R + 1 ≤ s * P from c)
   rw [sq] at this
   have := Nat.mul_le_mul_right (P * P) s1
   omega
  ·exact c
 have hi : R < (s + 1) * P := by
  rcases Nat.lt_or_ge R ((s + 1) * P) with c | c
  ·exact c
  ·have := Nat.mul_self_le_mul_self c
   rw [sq] at this
   have := Nat.mul_lt_mul_of_pos_right s2 hPP
   omega
 obtain ⟨t, rfl⟩ := Nat.exists_eq_add_of_le lo
 rw [Nat.add_mul, Nat.one_mul] at hi
 have ht : t < 2 ^ j := by omega
 have h := nH f mode false x s t j (!decide ((s * P + t) * (s * P + t) = V * (P * P))) ht hs
 rw [hP] at h
 have hm : (!decide ((s * P + t) * (s * P + t) = V * (P * P)) || decide (t ≠ 0)) = !decide (s * s = V) := by
  by_cases c : s * s = V
  ·have t0 : t = 0 := by
    rcases Nat.eq_zero_or_pos t with c' | c'
    ·exact c'
    ·have : s * P * (s * P) < (s * P + t) * (s * P + t) := Nat.mul_self_lt_mul_self (by omega)
     rw [sq, c] at this; omega
   rw [t0, Nat.add_zero, sq, c]; simp
  ·by_cases c' : t = 0
   ·have : ¬ (s * P + t) * (s * P + t) = V * (P * P) := by
     rw [c', Nat.add_zero, sq]
     intro e; exact c (Nat.eq_of_mul_eq_mul_right hPP e)
    rw [decide_eq_false this, decide_eq_false c]; simp
   ·rw [decide_eq_true c', decide_eq_false c]; simp
 rw [h.1, h.2, hm]; exact ⟨rfl, rfl⟩
def lQ (f : Int) (a : Nat) : Nat := if (bN f a - (fK f a : Int)) % 2 = 0 then fK f a else fK f a - 1
def jI (f : Int) (a : Nat) : Nat := bT f a * 2 ^ lQ f a
def aBT (f mode : Int) (a : Nat) : Nat := gB f mode false ((bN f a - (lQ f a : Int)) / 2) (gT (jI f a)) (!decide (gT (jI f a) * gT (jI f a) = jI f a))
def sideX (f mode : Int) (a : Nat) : Bool × Bool × Bool := lZ f mode false ((bN f a - (lQ f a : Int)) / 2) (gT (jI f a)) (!decide (gT (jI f a) * gT (jI f a) = jI f a))
def jP (f mode : Int) (a : Nat) : Nat :=
 if 4 ≤ cO f a then pU f else if cO f a = 0 then eQ f (dO f a) else if dO f a = true then pU f else if cO f a = 3 then oW f false else aBT f mode a
def sqrtX (f mode : Int) (a : Nat) : Bool × Bool × Bool × Bool × Bool :=
 if 4 ≤ cO f a then (fV f a, false, false, false, false) else if cO f a = 0 then (false, false, false, false, false) else if dO f a = true then (true, false, false, false, false) else if cO f a = 3 then (false, false, false, false, false) else (false, false, sideX f mode a)
theorem uU (f : Int) (a : Nat) (h : bT f a ≠ 0) : (bN f a - (lQ f a : Int)) % 2 = 0 ∧ lQ f a ≤ fK f a ∧ fK f a ≤ lQ f a + 1 ∧ 1152921504606846976 ≤ jI f a ∧ jI f a < 4611686018427387904 ∧ 1073741824 ≤ gT (jI f a) := by
 obtain ⟨k1, k2, k3, k4, k5⟩ := lS f a h
 have main : (bN f a - (lQ f a : Int)) % 2 = 0 ∧ lQ f a ≤ fK f a ∧ fK f a ≤ lQ f a + 1 := by
  unfold lQ; split <;> omega
 obtain ⟨m1, m2, m3⟩ := main
 have v1 : jI f a ≤ bT f a * 2 ^ fK f a := Nat.mul_le_mul_left _ (Nat.pow_le_pow_right (by decide) m2)
 have v2 : bT f a * 2 ^ fK f a ≤ jI f a * 2 := by
  unfold jI
  rw [Nat.mul_assoc, ← Nat.pow_succ]
  exact Nat.mul_le_mul_left _ (Nat.pow_le_pow_right (by decide) m3)
 have v3 : 1152921504606846976 ≤ jI f a := by omega
 refine ⟨m1, m2, m3, v3, by omega, ?_⟩
 obtain ⟨_, r2⟩ := w9 (jI f a) (by omega)
 rcases Nat.lt_or_ge (gT (jI f a)) 1073741824 with c | c
 ·have := Nat.mul_self_le_mul_self (show gT (jI f a) + 1 ≤ 1073741824 from c)
  omega
 ·exact c
theorem of_inf (f : Int) (v : Nat) (hv : v < 4294967296) (h : cO f v = 3) : fJ.f f (v : Int) = some (dO f v, 0, 0, false) := by
 have he := aAt f v
 have hx : ¬ mE f v < gN f := fun c => by have := (o7 f v).mpr c; omega
 have ht := gU f
 unfold fJ.f dG.f
 rw [jD, Option.bind_some, wG f v hv, Option.bind_some]
 dsimp only
 rw [if_neg (by omega), zS, Option.bind_some, if_pos (by omega)]; rfl
theorem aCg (f mode : Int) (a : Nat) (ha : a < 4294967296) (h0 : cO f a ≠ 0) (h3 : cO f a < 3) (k0 : Int × Bool × Bool × Bool × Bool × Bool → Option (Int × Bool × Bool × Bool × Bool × Bool)) (hk : ∀ r, k0 r = some r) (c : Nat) (hc : c = lQ f a) :
  Ev (fun k => (aR.f k (bT f a : Int) (-(c : Int))).bind fun bt636 => ((dZ.f k bt636.1).bind fun bt638 => ((aC.f k f mode false ((bN f a - (c : Int)) / 2) (IntKind.u64.wrap (bt638.1)) (!bt638.2)).bind fun bt640 => k0 bt640))) ((aBT f mode a : Int), false, false, sideX f mode a) := by
 subst hc
 have hw := oM f a h0 h3
 obtain ⟨m1, m2, m3, v1, v2, v3⟩ := uU f a hw
 obtain ⟨k1, k2, k3, k4, k5⟩ := lS f a hw
 obtain ⟨l1, l2⟩ := fD f a
 have hs := sZ f a
 have hr := aAu (jI f a)
 refine Ev.bind (sO _ hs (-(lQ f a : Int)) (by omega) (by omega)) ?_
 dsimp only
 rw [aAR _ _ (show bT f a * 2 ^ lQ f a < 18446744073709551616 by unfold jI at v2; omega)]
 refine Ev.bind (root_ev (jI f a)) ?_
 dsimp only
 have hp := oV f mode false ((bN f a - (lQ f a : Int)) / 2) (gT (jI f a)) (!decide (gT (jI f a) * gT (jI f a) = jI f a)) (by omega)
 rw [iX _ (by omega) (by omega)] at hp
 rw [gL _ (by omega)]
 refine Ev.bind hp (Ev.congr (fun k => by rw [hk]; rfl) (Ev.now _))
theorem sqrt_ev (f mode : Int) (a : Nat) (ha : a < 4294967296) : Ev (fun k => eY.f k f mode (a : Int)) ((jP f mode a : Int), sqrtX f mode a) := by
 refine Ev.congr (fun k => by unfold eY.f; rfl) (Ev.bind (yO f a ha) ?_)
 have hle := r9 f a
 unfold jP sqrtX
 by_cases c4 : 4 ≤ cO f a
 ·rw [if_pos c4, if_pos c4]
  exact Ev.congr (fun k => by rw [if_pos (show fC f a = true from decide_eq_true c4)]) (Ev.now _)
 ·rw [if_neg c4, if_neg c4]
  have n4 : ¬ fC f a = true := by unfold fC; simp; omega
  by_cases c3 : cO f a = 3
  ·refine Ev.congr (fun k => by rw [if_neg n4, of_inf f a ha c3, Option.bind_some]) (Ev.bind (nL f a ha) ?_)
   rw [if_neg (show ¬ cO f a = 0 by omega), if_neg (show ¬ cO f a = 0 by omega), decide_eq_false (show ¬ cO f a = 0 by omega)]
   dsimp only
   cases hn : dO f a
   ·rw [if_neg (show ¬ false = true by decide), if_neg (show ¬ false = true by decide), if_pos c3, if_pos c3]
    exact Ev.congr (fun k => by rw [if_neg (show ¬ false = true by decide), if_neg (show ¬ false = true by decide)]) (Ev.bind (iR f a ha) (Ev.congr (fun k => by rw [if_pos (decide_eq_true c3), aAk]; rfl) (Ev.now _)))
   ·rw [if_pos (show true = true from rfl), if_pos (show true = true from rfl)]
    exact Ev.congr (fun k => by rw [if_neg (show ¬ false = true by decide), if_pos (show true = true from rfl), aBr]; rfl) (Ev.now _)
  ·refine Ev.congr (fun k => by rw [if_neg n4, of_f f a ha (iQ f a (by omega)), Option.bind_some]) (Ev.bind (nL f a ha) ?_)
   dsimp only
   by_cases c0 : cO f a = 0
   ·rw [if_pos c0, if_pos c0]
    exact Ev.congr (fun k => by rw [if_pos (decide_eq_true c0), wD]; rfl) (Ev.now _)
   ·rw [if_neg c0, if_neg c0, decide_eq_false c0]
    cases hn : dO f a
    ·rw [if_neg (show ¬ false = true by decide), if_neg (show ¬ false = true by decide), if_neg c3, if_neg c3]
     refine Ev.congr (fun k => by rw [if_neg (show ¬ false = true by decide), if_neg (show ¬ false = true by decide)]) (Ev.bind (iR f a ha) ?_)
     have hs := sZ f a
     have hw := oM f a c0 (by omega)
     obtain ⟨k1, k2, k3, k4, k5⟩ := lS f a hw
     obtain ⟨l1, l2⟩ := fD f a
     refine Ev.congr (fun k => by rw [if_neg (by simp [c3])]) (Ev.bind (aDn _ hs) ?_)
     have e1 : wrap64 (62 - (iA (bT f a) : Int)) = (fK f a : Int) := by rw [cZ _ (by omega) (by omega)]; omega
     have e2 : wrap64 (bN f a - (fK f a : Int)) = bN f a - (fK f a : Int) := cZ _ (by omega) (by omega)
     have e3 : wrap64 (-(fK f a : Int)) = -(fK f a : Int) := cZ _ (by omega) (by omega)
     have e4 : wrap64 ((fK f a : Int) - 1) = ((fK f a - 1 : Nat) : Int) := by rw [cZ _ (by omega) (by omega)]; omega
     have e5 : wrap64 (-((fK f a - 1 : Nat) : Int)) = -((fK f a - 1 : Nat) : Int) := cZ _ (by omega) (by omega)
     have e6 : wrap64 (bN f a - ((fK f a - 1 : Nat) : Int)) = bN f a - ((fK f a - 1 : Nat) : Int) := cZ _ (by omega) (by omega)
     by_cases ev : (bN f a - (fK f a : Int)) % 2 = 0
     ·have hl : fK f a = lQ f a := by unfold lQ; rw [if_pos ev]
      have e7 : wrap64 (Int.tdiv (bN f a - (fK f a : Int)) 2) = (bN f a - (fK f a : Int)) / 2 := by rw [uO _ ev, cZ _ (by omega) (by omega)]
      have h := aCg f mode a ha c0 (by omega) some (fun r => rfl) _ hl
      refine Ev.congr (fun k => ?_) h
      rw [e1, e2, if_pos ((qF _).mpr ev), e3, e7]
     ·have hl : fK f a - 1 = lQ f a := by unfold lQ; rw [if_neg ev]
      have e7 : wrap64 (Int.tdiv (bN f a - ((fK f a - 1 : Nat) : Int)) 2) = (bN f a - ((fK f a - 1 : Nat) : Int)) / 2 := by rw [uO _ (by omega), cZ _ (by omega) (by omega)]
      have h := aCg f mode a ha c0 (by omega) some (fun r => rfl) _ hl
      refine Ev.congr (fun k => ?_) h
      rw [e1, e2, if_neg (fun h => ev ((qF _).mp h)), e4, e5, e6, e7]
    ·rw [if_pos (show true = true from rfl), if_pos (show true = true from rfl)]
     exact Ev.congr (fun k => by rw [if_neg (show ¬ false = true by decide), if_pos (show true = true from rfl), aBr]; rfl) (Ev.now _)
end Round
namespace BitsF
open P Num
theorem aAm (v j : Nat) : ∀ r k : Nat, r % 2 ^ j = 0 → r + 2 ^ j ≤ 4294967296 → j ≤ 32 →
  bI.l0 (j + 1 + k) (v : Int) (r : Int) ((j : Int) - 1) = some ((jJ j v r : Int), decide (jJ j v r * jJ j v r = v)) := by
 induction j with
 |zero =>
  intro r k h h' _
  rw [show 0 + 1 + k = k + 1 by omega, bI.l0, if_neg (by decide)]
  rw [Nat.pow_zero] at h'
  unfold jJ
  rw [show (r : Int) * (r : Int) = ((r * r : Nat) : Int) by simp, gL _ (sq32 (by omega)), aAQ, Int.emod_eq_of_lt (by omega) (by omega)]
 |succ j ih =>
  intro r k h h' hj
  have hp := Nat.two_pow_pos j
  have hh : r % 2 ^ j = 0 := by
   rw [Nat.pow_succ] at h
   have := Nat.mod_mul_right_mod r (2 ^ j) 2
   rw [h] at this; simpa using this.symm
  rw [Nat.pow_succ] at h'
  have es : shl .u64 1 (j : Int) = ((2 ^ j : Nat) : Int) := by rw [show (1 : Int) = ((1 : Nat) : Int) from rfl, kX, Nat.one_mul, Nat.mod_eq_of_lt (by omega)]
  rw [show j + 1 + 1 + k = (j + 1 + k) + 1 by omega, bI.l0, show (((j + 1 : Nat) : Int) - 1) = (j : Int) by omega, if_pos (by omega), if_pos (by omega), es, aAp _ _ (by omega) (by omega), nO r (2 ^ j) (j + 1) h (by rw [Nat.pow_succ]; omega)]
  rw [show ((r + 2 ^ j : Nat) : Int) * ((r + 2 ^ j : Nat) : Int) = (((r + 2 ^ j) * (r + 2 ^ j) : Nat) : Int) by simp, gL _ (sq32 (by omega)), cZ _ (by omega) (by omega)]
  unfold jJ
  by_cases c : (r + 2 ^ j) * (r + 2 ^ j) ≤ v
  ·rw [if_pos (by omega), if_pos c]
   exact ih (r + 2 ^ j) k (by rw [Nat.add_mod_right]; exact hh) (by omega) (by omega)
  ·rw [if_neg (by omega), if_neg c]
   exact ih r k hh (by omega) (by omega)
theorem zA (v : Nat) : Ev (fun k => bI.f k (v : Int)) ((gT v : Int), decide (gT v * gT v = v)) :=
 Ev.of (bI.mono _) (k := 33) (by
  have h := aAm v 32 0 0 (by decide) (by decide) (by decide)
  rw [show ((32 : Nat) : Int) - 1 = 31 by decide, show ((0 : Nat) : Int) = 0 from rfl] at h
  exact h)
end BitsF
namespace Round
open P Num BitsF Fmt
theorem zY (f mode : Int) (r : Int × Bool × Bool × Bool × Bool × Bool) (i : Nat) : ∀ (x : Int) (m : Nat), m ≠ 0 → iA m + i = 62 → -100000 ≤ x - i → x ≤ 100000 →
  Ev (fun k => aV.l0 k f mode (x - (i : Int)) ((m * 2 ^ i : Nat) : Int)) r → Ev (fun k => aV.l0 k f mode x (m : Int)) r := by
 induction i with
 |zero => intro x m _ _ _ _ h; simpa using h
 |succ i ih =>
  intro x m h0 hl h1 h2 h
  have hn := Nat.lt_of_lt_of_le (nV m) (Nat.pow_le_pow_right (show 0 < 2 by decide) (show iA m ≤ 61 by omega))
  have hl2 := tH m 1 h0
  rw [Nat.pow_one] at hl2
  have hw : IntKind.u64.wrap ((m : Int) * 2) = ((m * 2 : Nat) : Int) := by rw [show (m : Int) * 2 = ((m * 2 : Nat) : Int) by omega, gL _ (by omega)]
  refine Ev.step (fun k => by rw [aV.l0, if_pos (by omega), hw, cZ (x - 1) (by omega) (by omega)]) (ih (x - 1) (m * 2) (by omega) (by omega) (by omega) (by omega) ?_)
  rw [show x - 1 - (i : Int) = x - ((i + 1 : Nat) : Int) by omega, Nat.mul_assoc, ← Nat.pow_succ']
  exact h
theorem rY (f mode x : Int) (V : Nat) (h1 : 2305843009213693952 ≤ V) (h2 : V < 9223372036854775808) (hx : x % 2 = 0) (l1 : -1000 ≤ x) (l2 : x ≤ 1000) :
  Ev (fun k => aV.l0 k f mode x (V : Int)) ((gB f mode false (x / 2) (gT V) (!decide (gT V * gT V = V)) : Int), false, false, lZ f mode false (x / 2) (gT V) (!decide (gT V * gT V = V))) := by
 have hr := aAu V
 have hp := pQ f mode false (x / 2) (gT V) (!decide (gT V * gT V = V)) (by omega)
 rw [iX _ (by omega) (by omega)] at hp
 refine Ev.step (fun k => by rw [aV.l0, if_neg (by omega), if_pos ((qF x).mpr hx), uO x hx, cZ (x / 2) (by omega) (by omega)]) (Ev.bind (zA V) ?_)
 dsimp only
 rw [gL _ (by omega)]
 exact Ev.bind hp (Ev.now _)
theorem aAj (f mode : Int) (a : Nat) (h0 : cO f a ≠ 0) (h3 : cO f a < 3) : Ev (fun k => aV.l0 k f mode (bN f a) (bT f a : Int)) ((aBT f mode a : Int), false, false, sideX f mode a) := by
 have hw := oM f a h0 h3
 obtain ⟨m1, m2, m3, v1, v2, v3⟩ := uU f a hw
 obtain ⟨k1, k2, k3, k4, k5⟩ := lS f a hw
 obtain ⟨l1, l2⟩ := fD f a
 refine zY f mode _ (fK f a) _ _ hw k3 (by omega) (by omega) ?_
 by_cases ev : (bN f a - (fK f a : Int)) % 2 = 0
 ·have hl : lQ f a = fK f a := by unfold lQ; rw [if_pos ev]
  have hv : jI f a = bT f a * 2 ^ fK f a := by unfold jI; rw [hl]
  unfold aBT sideX
  rw [hv, hl]
  exact rY f mode _ _ k4 (by omega) ev (by omega) (by omega)
 ·have hl : fK f a = lQ f a + 1 := by unfold lQ; rw [if_neg ev]; omega
  have hv : bT f a * 2 ^ fK f a * 2 = jI f a * 2 ^ (1 + 1) := by unfold jI; rw [hl, Nat.pow_succ, ← Nat.mul_assoc]; omega
  have hb := eP f
  have hf : 2 ^ (fm f + 1) ≤ 16777216 := Nat.pow_le_pow_right (show 0 < 2 by decide) (show fm f + 1 ≤ 24 by omega)
  obtain ⟨r1, r2⟩ := zD f mode ((bN f a - (fK f a : Int) - 1) / 2) (jI f a) 1 (by omega) (by omega)
  have hu : IntKind.u64.wrap (((bT f a * 2 ^ fK f a : Nat) : Int) * 2) = ((jI f a * 2 ^ (1 + 1) : Nat) : Int) := by
   rw [← hv, show ((bT f a * 2 ^ fK f a : Nat) : Int) * 2 = ((bT f a * 2 ^ fK f a * 2 : Nat) : Int) by omega, gL _ (by omega)]
  refine Ev.step (fun k => by rw [aV.l0, if_neg (by omega), if_neg (fun h => ev ((qF _).mp h)), hu, cZ _ (by omega) (by omega)]) ?_
  have h := rY f mode (bN f a - (fK f a : Int) - 1) (jI f a * 2 ^ (1 + 1)) (by omega) (by omega) (by omega) (by omega) (by omega)
  rw [r1, r2, show (bN f a - (fK f a : Int) - 1) / 2 + ((1 : Nat) : Int) = (bN f a - (lQ f a : Int)) / 2 by omega] at h
  exact h
theorem zQ (f mode : Int) (a : Nat) (ha : a < 4294967296) : Ev (fun k => aV.f k f mode (a : Int)) ((jP f mode a : Int), sqrtX f mode a) := by
 refine Ev.congr (fun k => by unfold aV.f; rfl) (Ev.bind (nans1_ev f a ha) ?_)
 have hle := r9 f a
 unfold jP sqrtX
 by_cases c4 : 4 ≤ cO f a
 ·rw [if_pos c4, if_pos c4]
  exact Ev.congr (fun k => by rw [if_pos (show fC f a = true from decide_eq_true c4), lT]; rfl) (Ev.now _)
 ·rw [if_neg c4, if_neg c4]
  have n4 : ¬ fC f a = true := by unfold fC; simp; omega
  refine Ev.congr (fun k => by rw [if_neg n4]) (Ev.bind (kQ f a ha) ?_)
  by_cases c0 : cO f a = 0
  ·rw [if_pos c0, if_pos c0, ← (kN f a c0).1]
   exact Ev.congr (fun k => by rw [if_pos (decide_eq_true c0), iE, Option.bind_some, jR f a ha]) (Ev.now _)
  ·rw [if_neg c0, if_neg c0]
   refine Ev.congr (fun k => by rw [if_neg (by simp [c0]), nA f a ha, Option.bind_some]) ?_
   cases hn : dO f a
   ·rw [if_neg (show ¬ false = true by decide), if_neg (show ¬ false = true by decide)]
    refine Ev.congr (fun k => by rw [if_neg (show ¬ false = true by decide)]) (Ev.bind (lX f a ha) ?_)
    by_cases c3 : cO f a = 3
    ·have hi := wO f a c3
     rw [hn] at hi
     rw [if_pos c3, if_pos c3, ← hi]
     exact Ev.congr (fun k => by rw [if_pos (decide_eq_true c3), iE, Option.bind_some, jR f a ha]) (Ev.now _)
    ·rw [if_neg c3, if_neg c3]
     exact Ev.congr (fun k => by rw [if_neg (by simp [c3])]) (Ev.bind (lI f a ha (iQ f a (by omega))) (aAj f mode a c0 (by omega)))
   ·rw [if_pos (show true = true from rfl), if_pos (show true = true from rfl)]
    exact Ev.congr (fun k => by rw [if_pos (show true = true from rfl), lT]; rfl) (Ev.now _)
end Round
namespace Xe
def parT (id : Nat) (l m : Tm) (i j : Nat) : Tm := .f id (.c l (.c m (.c (.l (.ofNat i)) (.l (.ofNat j)))))
def parN (id : Nat) (l m : Tm) (i : Nat) : Nat → Nat → List C
 |0, _ => []
 |n + 1, j => .i .u32 (parT id l m i j) :: parN id l m i n (j + 1)
def aCQ (id : Nat) (l m : Tm) (i : Nat) : Nat → Nat → (List C → Bool) → Bool
 |0, _, K => K []
 |n + 1, j, K => iG (Nat.succ j) fun j' => aCQ id l m i n j' fun r => K (.i .u32 (.f id (.c l (.c m (.c (.l (.ofNat i)) (.l (.ofNat j)))))) :: r)
theorem aCc (id : Nat) (l m : Tm) (i : Nat) : ∀ (n j : Nat) (K : List C → Bool), aCQ id l m i n j K = K (parN id l m i n j) := by
 intro n
 induction n with
 |zero => intro j K; rfl
 |succ n ih => intro j K; rw [aCQ, fO, ih]; rfl
def numV (g : Nat → Int) : Nat → Nat → List Value
 |0, _ => []
 |n + 1, j => .int .u32 (g j) :: numV g n (j + 1)
def ParC (w : World) (base e : Nat) (g : Nat → Nat → Int) : List Nat → Nat → List Value → Prop
 |a :: b :: r, i, cs => ∃ vw vb q, cs = .int .i64 (b : Int) :: .int .i64 (a : Int) :: .int .i64 2 :: vw :: .int .i64 1 :: .int .i64 (b : Int) :: .int .i64 2 :: vb :: q ∧
  w.ownsRow base e 1 vw (a * b) (numV (g i) (a * b) 0) ∧ w.ownsRow base e 1 vb b (numV (g i) b 0) ∧ ParC w base e g (b :: r) (i + 1) q
 |_, _, cs => cs = []
def parK (id e : Nat) (l m : Tm) : List Nat → Nat → Hp → (List C → Hp → Bool) → Bool
 |a :: q, i, h, K => match q with
  |b :: r => iG (Nat.mul a b) fun ab => aCQ id l m i ab 0 fun ws => aCQ id l m i b 0 fun bs =>
   addK h e 1 ws fun g h => addK h e 1 bs fun g' h => iG (Nat.succ i) fun i' => parK id e l m (b :: r) i' h fun cs h =>
    K (.i .i64 (.l (.ofNat b)) :: .i .i64 (.l (.ofNat a)) :: .i .i64 (.l 2) :: .sl g 0 1 ab :: .i .i64 (.l 1) :: .i .i64 (.l (.ofNat b)) :: .i .i64 (.l 2) :: .sl g' 0 1 b :: cs) h
  |[] => K [] h
 |[], _, h, K => K [] h
def litsK : List C → (List Nat → Bool) → Bool
 |[], K => K []
 |.i k (.l (.ofNat n)) :: r, K => cnd (Nat.beq (jA k) 3 && Nat.blt 0 n && Nat.ble n 1000) (iG n fun n => litsK r fun q => K (n :: q)) false
 |_, _ => false
def boolT : BE → Option Tm
 |.tt => some (.l 1)
 |.ff => some (.l 0)
 |.q t => some t
 |_ => none
def isF : Option Bool → Bool
 |some false => true
 |_ => false
def rowT (mx : Nat) (h : Hp) : C → Option Tm
 |.u g => match look h.us g with
  |some (.ro k t) => cnd (Nat.beq (jA k) 6 && isF (known h.pc (.lt (.l (.ofNat mx)) (.len t)))) (some t) none
  |_ => none
 |_ => none
def parE (mx id e e' : Nat) : Fc := fun args h K => match args with
 |[.one w, .one l, .one (.b m)] => match w with
  |.sl wg wo wz wn => match jZ h 1 (.sl wg wo wz wn) with
   |some cs => litsK cs fun ws => match rowT mx h l with
    |some t => match boolT m with
     |some m => cnd (Nat.blt 1 ws.length && Nat.ble ws.length 1000) (parK id e t m ws 0 h fun cs h => addK h e' 8 cs fun g h => iG (Nat.sub ws.length 1) fun n => K (.pv (.one (.sl g 0 8 n))) h) false
     |none => false
    |none => false
   |none => false
  |_ => false
 |_ => false
section
variable [Rho] {w0 : World} {A : Nat → Prop} {m : M} {h : Hp} {w : World}
theorem xY (m : M) (id : Nat) (l mt : Tm) (i : Nat) : ∀ n j, vals m (parN id l mt i n j) = numV (fun j => (parT id l mt i j).d) n j := by
 intro n
 induction n with
 |zero => intro j; rfl
 |succ n ih => intro j; show _ :: vals m (parN id l mt i n (j + 1)) = _; rw [ih]; rfl
theorem aAV {id : Nat} {l mt : Tm} {i : Nat} (hr : ∀ j, IntKind.u32.has (parT id l mt i j).d) : ∀ n j, oks A (parN id l mt i n j) := by
 intro n
 induction n with
 |zero => intro j c hc; cases hc
 |succ n ih =>
  intro j c hc
  rcases List.mem_cons.1 hc with rfl | hc
  ·exact hr j
  ·exact ih _ c hc
theorem parK_v {id e base : Nat} {l mt : Tm} {g : Nat → Nat → Int} (hg : ∀ i j, (parT id l mt i j).d = g i j) (hr : ∀ i j, IntKind.u32.has (g i j)) : ∀ (ws : List Nat) (i : Nat) (h : Hp) (A : Nat → Prop) (m : M) (K : List C → Hp → Bool) (cs : List Value),
  (∀ a ∈ ws, 0 < a ∧ a ≤ 1000) → kD w0 A m h w → (∀ j x, look h.heap j = some x → x.2.2.1 = true → m.b j < base) → ParC w base e g ws i cs → parK id e l mt ws i h K = true →
  ∃ (A' : Nat → Prop) (m' : M) (h' : Hp) (q : List C), K q h' = true ∧ kD w0 A' m' h' w ∧ Grow none A A' m m' h h' ∧ oks A' q ∧ vals m' q = cs ∧ (∀ j x, look h'.heap j = some x → x.2.2.1 = true → m'.b j < base) := by
 intro ws
 induction ws with
 |nil => intro i h A m K cs _ r hf hc hk; exact ⟨A, m, h, [], hk, r, .refl _ _ _ _, fun c hc => (by cases hc), hc.symm, hf⟩
 |cons a ws ih =>
  intro i h A m K cs hp r hf hc hk
  cases ws with
  |nil => exact ⟨A, m, h, [], hk, r, .refl _ _ _ _, fun c hc => (by cases hc), hc.symm, hf⟩
  |cons b ws =>
   obtain ⟨vw, vb, q, rfl, c1, c2, c3⟩ := hc
   have ha := hp a (by simp)
   have hb := hp b (by simp)
   have fit : ∀ n : Nat, n ≤ 1000 → IntKind.i64.has (n : Int) := fun n hn => by
    show (-9223372036854775808 : Int) ≤ n ∧ (n : Int) ≤ 9223372036854775807
    omega
   rw [parK, fO, aCc, aCc] at hk
   have eg : ∀ n, vals m (parN id l mt i n 0) = numV (g i) n 0 := fun n => by rw [xY]; simp only [hg]
   obtain ⟨A1, m1, h1, g1, k1, r1, w1, a1, e1, f1⟩ := zP (n := a * b) r (aAV (fun j => by rw [hg]; exact hr i j) _ _) (by rw [show Nat.mul a b = a * b from rfl, eg]; exact c1) (Nat.mul_pos ha.1 hb.1) hf hk
   have eg1 : ∀ n, vals m1 (parN id l mt i n 0) = numV (g i) n 0 := fun n => by rw [xY]; simp only [hg]
   obtain ⟨A2, m2, h2, g2, k2, r2, w2, a2, e2, f2⟩ := zP (n := b) r1 (aAV (fun j => by rw [hg]; exact hr i j) _ _) (by rw [eg1]; exact c2) hb.1 f1 k1
   rw [fO] at k2
   obtain ⟨A3, m3, h3, p, k3, r3, w3, a3, e3, f3⟩ := ih (i + 1) h2 A2 m2 _ q (fun x hx => hp x (List.mem_cons_of_mem _ hx)) r2 f2 c3 k2
   have g12 := w1.trans w2
   have g13 := g12.trans w3
   refine ⟨A3, m3, h3, _, k3, r3, g13, ?_, ?_, f3⟩
   ·intro c hc
    simp only [List.mem_cons] at hc
    rcases hc with rfl | rfl | rfl | rfl | rfl | rfl | rfl | rfl | hc
    ·exact fit b hb.2
    ·exact fit a ha.2
    ·exact fit 2 (by decide)
    ·exact w3.sub _ (w2.sub _ a1)
    ·exact fit 1 (by decide)
    ·exact fit b hb.2
    ·exact fit 2 (by decide)
    ·exact w3.sub _ a2
    ·exact a3 c hc
   ·have x1 : (C.sl g1 0 1 (a * b)).v m3 = vw := by
     rw [e1]
     exact C.iB ((w2.trans w3).ext) (show (C.sl g1 0 1 (a * b)).ok A1 from a1)
    have x2 : (C.sl g2 0 1 b).v m3 = vb := by
     rw [e2]
     exact C.iB w3.ext (show (C.sl g2 0 1 b).ok A2 from a2)
    show Value.int .i64 (b : Int) :: Value.int .i64 (a : Int) :: Value.int .i64 2 :: (C.sl g1 0 1 (a * b)).v m3 :: Value.int .i64 1 :: Value.int .i64 (b : Int) :: Value.int .i64 2 :: (C.sl g2 0 1 b).v m3 :: vals m3 p = _
    rw [x1, x2, e3]
theorem litsK_v : ∀ {cs : List C} {K : List Nat → Bool}, litsK cs K = true → ∃ ws : List Nat, K ws = true ∧ (∀ a ∈ ws, 0 < a ∧ a ≤ 1000) ∧ ∀ m : M, vals m cs = ws.map fun n : Nat => Value.int .i64 n := by
 intro cs
 induction cs with
 |nil => intro K hk; exact ⟨[], hk, fun a ha => (by cases ha), fun _ => rfl⟩
 |cons c r ih =>
  intro K hk
  unfold litsK at hk
  split at hk
  ·next e => cases e
  ·next k n r' e =>
   cases e
   have h9 := btf hk
   clear hk
   obtain ⟨h1, hk⟩ := h9
   rw [fO] at hk
   simp only [Bool.and_eq_true] at h1
   obtain ⟨⟨h1, h2⟩, h3⟩ := h1
   obtain rfl : k = .i64 := jG (k' := .i64) h1
   have h2 : 0 < n := Nat.le_of_ble_eq_true h2
   have h3 := Nat.le_of_ble_eq_true h3
   obtain ⟨q, k1, k2, k3⟩ := ih hk
   refine ⟨n :: q, k1, fun a ha => ?_, fun m => ?_⟩
   ·rcases List.mem_cons.1 ha with rfl | ha
    ·exact ⟨h2, h3⟩
    ·exact k2 a ha
   ·show _ :: vals m _ = _; rw [k3]; rfl
  ·cases hk
theorem aAY (r : kD w0 A m h w) {g o n : Nat} {cs : List C} (hs : jZ h 1 (.sl g o 1 n) = some cs) {k : IntKind} {xs : List Int} (hv : vals m cs = xs.map (Value.int k)) : ∃ ad c, (C.sl g o 1 n).v m = .slice ad xs.length c ∧ xs.length ≤ c ∧ Kd.C (Kd.int k) w ad xs.length xs := by
 obtain ⟨h1, h2, h3, h4, h5, h6⟩ := lJ (s := ⟨.e, h⟩) r (by decide) hs
 have e : xs.length = n := by
  have := congrArg List.length hv
  rw [dK, h3, List.length_map] at this
  omega
 refine ⟨_, _, by rw [e]; rfl, by omega, rfl, ?_, fun _ => ⟨_, rfl, fun j p hj => ⟨[.int k p], rfl, rfl, fun i u hu => ?_⟩⟩⟩
 ·simp only [maxLen] at h5
  omega
 ·have hi : i = 0 := by
   cases i with
   |zero => rfl
   |succ i => cases hu
  subst hi
  cases hu
  have hk : (Kd.int k).sz = 1 := rfl
  have e9 : j * (Kd.int k).sz + 0 = j := by rw [hk, Nat.mul_one]; rfl
  rw [e9]
  refine h6 j _ ?_
  rw [hv, List.getElem?_map, hj]
  rfl
end
theorem aCt {h : Hp} {z g o z' n : Nat} {cs : List C} (hs : jZ h z (.sl g o z' n) = some cs) : z' = z := by
 unfold jZ at hs
 exact (Nat.eq_of_beq_eq_true (gF hs).1).symm
section
variable [Rho] {P : Program}
theorem parE_ok {f : Nat} {fn : Func} (hf : P.funcs[f]? = some fn) (hb : fn.body.isSome = true) (hn : (fn.name == "runtime.NumGoroutine") = false) {mx id e e' : Nat} (hmx : mx ≤ 1000) {G : List Int → Bool → Nat → Nat → Int}
  (hF : ∀ (l m : U) (i j : Nat), (Rho.f id (.p l (.p m (.p (.n i) (.n j))))).int = G l.lst (!(m.int == 0)) i j) (hr : ∀ l b i j, IntKind.u32.has (G l b i j))
  (hc : ∀ (ws : List Nat) (l : List Int) (b : Bool) (aw al : Option Addr) (cw cl : Nat) (W : World), 1 < ws.length → ws.length ≤ cw → l.length ≤ cl → (∀ a ∈ ws, 0 < a ∧ a ≤ 1000) → ws.length ≤ 1000 → l.length ≤ 1000 → Kd.C (Kd.int .i64) W aw ws.length (ws.map fun n : Nat => (n : Int)) → Kd.C (Kd.int .u32) W al l.length l →
   Calls P f #[.slice aw ws.length cw, .slice al l.length cl, .bool b] W fun en W' => ∃ v cs, en = .returned v ∧ W'.ownsRow W.heap.size e' 8 v (ws.length - 1) cs ∧ ParC W' W.heap.size e (G l b) ws 0 cs ∧ Below W.heap.size W W') : mK P f (parE mx id e e') := by
 intro vs h K A m w w0 hrel hv hk
 refine ⟨⟨fn, hf, hb, hn⟩, ?_⟩
 unfold parE at hk
 split at hk
 ·next wc lc mb =>
  split at hk
  ·next wg wo wz wn =>
   split at hk
   ·next cs hcs =>
    obtain rfl := aCt hcs
    obtain ⟨ws, k1, k2, k3⟩ := litsK_v hk
    split at k1
    ·next t ht =>
     split at k1
     ·next mt hmt =>
      have h9 := btf k1
      obtain ⟨l1, k4⟩ := h9
      rw [Bool.and_eq_true] at l1
      have l2 := Nat.le_of_ble_eq_true l1.2
      have l1 : 1 < ws.length := Nat.le_of_ble_eq_true l1.1
      obtain ⟨aw, cw, v1, v3, v2⟩ := aAY hrel hcs (k := .i64) (xs := ws.map fun n : Nat => (n : Int)) (by rw [k3, List.map_map]; rfl)
      rw [List.length_map] at v1 v2 v3
      obtain ⟨al, cl, u1, u2, u3, u4⟩ : ∃ al cl, lc.v m = .slice al t.u.lst.length cl ∧ Kd.C (Kd.int .u32) w al t.u.lst.length t.u.lst ∧ t.u.lst.length ≤ 1000 ∧ t.u.lst.length ≤ cl := by
       unfold rowT at ht
       split at ht
       ·next g =>
        split at ht
        ·next k t' hl =>
         obtain ⟨q1, q2⟩ := gF ht
         cases q2
         rw [Bool.and_eq_true] at q1
         obtain rfl : k = .u32 := jG (k' := .u32) q1.1
         have q3 : known h.pc (.lt (.l (.ofNat mx)) (.len t)) = some false := by
          have q4 := q1.2
          unfold isF at q4
          split at q4
          ·next e => exact e
          ·cases q4
         have q5 : decide ((Int.ofNat mx : Int) < ((min t.u.lst.length aBv : Nat) : Int)) = false := wQ hrel.pc q3
         have q6 := of_decide_eq_false q5
         have q7 : t.u.lst.length ≤ 1000 := by
          unfold aBv at q6
          have : (Int.ofNat mx : Int) = (mx : Int) := rfl
          omega
         obtain ⟨_, _, ad, c, x1, x2, _, _, x4⟩ := hrel.us _ _ hl
         exact ⟨ad, c, x1, Kd.C_below x2 hrel.bel, q7, x4⟩
        ·cases ht
       ·cases ht
      have hbd : mb.d = !(mt.d == 0) := by
       unfold boolT at hmt
       split at hmt
       ·cases hmt; rfl
       ·cases hmt; rfl
       ·cases hmt; rfl
       ·cases hmt
      have ea : (([.one (.sl wg wo 1 wn), .one lc, .one (.b mb)] : List PV).map (PV.v m)).toArray = #[.slice aw ws.length cw, .slice al t.u.lst.length cl, .bool (!(mt.d == 0))] := by
       show #[(C.sl wg wo 1 wn).v m, lc.v m, Value.bool mb.d] = _
       rw [v1, u1, hbd]
      rw [ea]
      refine (hc ws t.u.lst _ aw al cw cl w l1 v3 u4 k2 l2 u3 v2 u2).mono ?_
      rintro en w' ⟨v, cs', rfl, c1, c2, c3⟩
      have r1 := hrel.grow c3
      have hfr : ∀ j x, look h.heap j = some x → x.2.2.1 = true → m.b j < w.heap.size := by
       intro j x hj _
       obtain ⟨e1, z1, wr1, cs1⟩ := x
       obtain ⟨_, _, _, _, rest, a5, _⟩ := hrel.heap j e1 z1 wr1 cs1 hj
       exact blk_lt a5
      obtain ⟨A1, m1, h1, q, k5, r2, w2, o2, e2, f2⟩ := parK_v (g := G t.u.lst (!(mt.d == 0))) (fun i j => hF _ _ i j) (fun i j => hr _ _ i j) ws 0 h A m _ cs' k2 r1 hfr c2 k4
      obtain ⟨A2, m2, h2, g2, k6, r3, w3, a3, e3, _⟩ := zP (n := ws.length - 1) r2 o2 (by rw [e2]; exact c1) (by omega) f2 k5
      rw [fO] at k6
      exact ⟨_, A2, m2, h2, k6, by rw [e3]; rfl, a3, r3, w2.trans w3⟩
     ·cases k1
    ·cases k1
   ·cases hk
  ·cases hk
 ·cases hk
end
end Xe
namespace Round
open P Num BitsF Fmt
theorem any_in (n : Int) : ∃ m : Nat, IntKind.u32.wrap n = (m : Int) ∧ m < 4294967296 := by
 rw [qV]
 exact ⟨(n % 4294967296).toNat, by omega, by omega⟩
theorem aAs (op : BinOp) (a b : Int) (h : op = .and ∨ op = .or) : ∃ m : Nat, Go.bits op .u32 a b = (m : Int) ∧ m < 4294967296 := by
 rcases h with rfl | rfl
 ·exact any_in _
 ·exact any_in _
theorem num_any (f : Int) (a : Nat) : ∃ x : Nat, dA.f f (a : Int) = some (x : Int) ∧ x < 4294967296 := by
 have e := Int.tmod_eq_emod_of_nonneg (b := 15) (Int.natCast_nonneg a)
 have hp : 0 ≤ Int.tmod (a : Int) 15 ∧ Int.tmod (a : Int) 15 < 15 := by rw [e]; omega
 have fin : ∀ y : Int, ∃ x : Nat, (if (a : Int) / 2147483648 = 1 then (some (eQ f true : Int)).bind (fun t => some (Go.bits .or .u32 (Go.bits .and .u32 y (maskN f : Int)) t)) else some (Go.bits .and .u32 y (maskN f : Int))) = some (x : Int) ∧ x < 4294967296 := by
  intro y
  by_cases c : (a : Int) / 2147483648 = 1
  ·rw [if_pos c, Option.bind_some]
   obtain ⟨m, h1, h2⟩ := aAs .or (Go.bits .and .u32 y (maskN f : Int)) (eQ f true : Int) (.inr rfl)
   exact ⟨m, by rw [h1], h2⟩
  ·rw [if_neg c]
   obtain ⟨m, h1, h2⟩ := aAs .and y (maskN f : Int) (.inl rfl)
   exact ⟨m, by rw [h1], h2⟩
 unfold dA.f
 rw [fU, Option.bind_some]
 dsimp only
 rcases uM f with ⟨h1, h2⟩ | ⟨h1, h2⟩ | ⟨h1, h2⟩
 ·rw [h1, h2, if_pos (by decide), if_pos (by decide), if_neg (by decide), if_pos (show (0 : Int) ≤ wrap64 (((10 : Nat) : Int) - 1) by unfold wrap64; omega), if_neg (by decide), Option.bind_some, if_pos hp.1, if_pos (by exact hp.2), iE, Option.bind_some, kE]
  exact fin _
 ·rw [h1, h2, if_pos (by decide), if_pos (by decide), if_neg (by decide), if_pos (show (0 : Int) ≤ wrap64 (((7 : Nat) : Int) - 1) by unfold wrap64; omega), if_neg (by decide), Option.bind_some, if_pos hp.1, if_pos (by exact hp.2), iE, Option.bind_some, kE]
  exact fin _
 ·rw [h1, h2, if_pos (by decide), if_pos (by decide), if_neg (by decide), if_pos (show (0 : Int) ≤ wrap64 (((23 : Nat) : Int) - 1) by unfold wrap64; omega), if_neg (by decide), Option.bind_some, if_pos hp.1, if_pos (by exact hp.2), iE, Option.bind_some, kE]
  exact fin _
end Round
namespace P
attribute [local go_sem] max2_int min2_int max_two min_two max_three min_three max_four min_four
mutual
def aH.l0 : Nat → Int → Int → Int → List Int → Bool → Int → Int → Int → Int → List Int → Option (Int × Int × Int × List Int)
 |0, _, _, _, _, _, _, _, _, _, _ => none
 |k + 1, x0, x1, x2, x3, x4, x12, x511000, x511001, x511002, x511003 => if x12 < (wrap64 (x0 * x1)) then (if (x3.length : Int) > 0 then (if (x3.length : Int) = 0 then (none) else (if 0 ≤ (Int.tmod x12 (x3.length : Int)) then (if (Int.tmod x12 (x3.length : Int)) < (x3.length : Int) then (aH.j1 k x0 x1 x2 x3 x4 x12 (((rd x3 (Int.tmod x12 (x3.length : Int))) + ((((wrap64 (Int.tdiv x12 (x3.length : Int))) % 4294967296) * 40503) % 4294967296)) % 4294967296) x511000 x511001 x511002 x511003) else (none)) else (none))) else (aH.j1 k x0 x1 x2 x3 x4 x12 ((((x12) % 4294967296) * 2654435761) % 4294967296) x511000 x511001 x511002 x511003)) else (some (x511000, x511001, x511002, x511003))
def aH.j1 : Nat → Int → Int → Int → List Int → Bool → Int → Int → Int → Int → Int → List Int → Option (Int × Int × Int × List Int)
 |0, _, _, _, _, _, _, _, _, _, _, _ => none
 |k + 1, x0, x1, x2, x3, x4, x12, x13, x511000, x511001, x511002, x511003 => if x4 = true then ((bX.f x2 x13).bind fun t512 => (if x511003.length < 35184372088832 then (aH.l0 k x0 x1 x2 x3 x4 (wrap64 (x12 + 1)) x511000 x511001 x511002 (x511003 ++ [t512])) else (none))) else ((dA.f x2 x13).bind fun t516 => (if x511003.length < 35184372088832 then (aH.l0 k x0 x1 x2 x3 x4 (wrap64 (x12 + 1)) x511000 x511001 x511002 (x511003 ++ [t516])) else (none)))
end
def aH.f (k : Nat) (a0 a1 a2 : Int) (l3 : List Int) (a4 : Bool) : Option (Int × Int × Int × List Int) := aH.l0 k a0 a1 a2 l3 a4 0 a0 a1 a2 ([] : List Int)
def aH.T7 : Bool × List (List Nat × List Nat) := (true, [([], []), ([], []), ([], []), ([2], [2]), ([1, 3], [1, 3]), ([0, 4], [0, 4]), ([5], [5]), ([], []), ([], []), ([8], [8]), ([7, 9], [7, 9]), ([10], [10]), ([11], [11]), ([6, 12], [6, 12]), ([13, 0, 1, 2, 3, 4, 5, 6, 7, 8, 9, 10, 11, 12, 13], [13])])
def aH.B7 : List Nat := [0, 0, 0, 4, 14, 31, 63, 0, 0, 256, 896, 1920, 3968, 8191, 16383]
theorem aH.tab7 : rtab .any (opsOf Tryz.f33 7) = aH.T7 := by kernel_rfl
theorem aH.bits7 : waitsOk aH.T7.2 aH.B7 = true := by kernel_rfl
def aH.T9 : Bool × List (List Nat × List Nat) := (true, [([], []), ([0], [0]), ([], []), ([], []), ([2, 3], [2, 3]), ([4], [4]), ([1, 5, 4], [1, 5]), ([0, 1, 2, 3, 4, 5, 6], []), ([7, 6, 6, 0, 1, 2, 3, 4, 5, 6], [6, 7])])
def aH.B9 : List Nat := [0, 1, 0, 0, 12, 28, 63, 127, 255]
theorem aH.tab9 : rtab .any (opsOf Tryz.f33 9) = aH.T9 := by kernel_rfl
theorem aH.bits9 : waitsOk aH.T9.2 aH.B9 = true := by kernel_rfl
def aH.T10 : Bool × List (List Nat × List Nat) := (true, [([], []), ([0], [0]), ([], []), ([], []), ([2, 3], [2, 3]), ([4], [4]), ([1, 5, 4], [1, 5]), ([0, 1, 2, 3, 4, 5, 6], []), ([7, 6, 6, 0, 1, 2, 3, 4, 5, 6], [6, 7])])
def aH.B10 : List Nat := [0, 1, 0, 0, 12, 28, 63, 127, 255]
theorem aH.tab10 : rtab .any (opsOf Tryz.f33 10) = aH.T10 := by kernel_rfl
theorem aH.aBC : waitsOk aH.T10.2 aH.B10 = true := by kernel_rfl
theorem aH.calls (k : Nat) (a0 a1 a2 : Int) (A3 : Option Addr) (c3 : Nat) (l3 : List Int) (a4 : Bool) (r1 r2 r3 : Int) (r4 : List Int) (w : World) (hr3 : Kd.C (Kd.int .u32) w A3 l3.length l3) (hc3 : l3.length ≤ c3) (h : aH.f k a0 a1 a2 l3 a4 = some (r1, r2, r3, r4)) :
  Calls Tryz.prog 33 #[.int .i64 a0, .int .i64 a1, .int .i64 a2, .slice A3 l3.length c3, .bool a4] w fun e w' => ∃ v3_ : Value, e = .returned (.agg #[.int .i64 r1, .int .i64 r2, .int .i64 r3, v3_]) ∧ Kd.R (Kd.int .u32) 27 w' w.heap.size (fun _ => True) v3_ r4 ∧ Below w.heap.size w w' := by
 have hu29 := Tryz.underlying29
 have HR3 := Aside0.mk hr3
 have HC3 := Aside0.mk hc3
 clear hr3 hc3
 have HB := Aside0.mk (Below.refl w.heap.size w)
 have H : (aH.l0 k a0 a1 a2 l3 a4 0 a0 a1 a2 ([] : List Int)) = some (r1, r2, r3, r4) := h
 clear h
 have H' := Aside0.mk H
 clear H
 go_enter Tryz.func33, Tryz.ntmps33
 go_wp2_with (first | ((with_reducible refine gate_dst (N := 10) rfl ?_); refine box_event ?hg (N := 10) ?hd (cs := #[.int .i64 0, .int .i64 0, .int .i64 0, .slice none 0 0]) (t := 29) ?hr ?_; (case hd => rfl); (case hg => rfl); (case hr => first | (go_simp; done) | (go_simp; rfl)); intro gb509 hg w6 hbox hb; have n0_ := Aside0.mk (below_step (bl0 HB.out) hb); have n1_ := Aside0.mk (hbox); have n2_ := Aside0.mk ((by rw [hg]; exact (below_size (bl0 HB.out)) : w.heap.size ≤ gb509)); have n3_ := n2_; clear HB; have HB := n0_; have BK509 := n1_; have GW509 := n2_; have GE509 := n3_; clear n0_ n1_ n2_ n3_; clear hb hbox hg) | ((with_reducible refine gate_dst (N := 11) rfl ?_); refine box_event ?hg (N := 11) ?hd (cs := #[.int .i64 0, .int .i64 0, .int .i64 0, .slice none 0 0]) (t := 29) ?hr ?_; (case hd => rfl); (case hg => rfl); (case hr => first | (go_simp; done) | (go_simp; rfl)); intro gb510 hg w7 hbox hb; have n0_ := Aside0.mk (blk_below (g := gb509) (o := .cells #[.int .i64 0, .int .i64 0, .int .i64 0, .slice none 0 0] 29 (0, 0)) (bv BK509.out) hb); have n1_ := Aside0.mk (below_step (bl1 HB.out GE509.out) hb); have n2_ := Aside0.mk (hbox); have n3_ := Aside0.mk ((by rw [hg]; exact (below_size (bl1 HB.out GE509.out)) : w.heap.size ≤ gb510)); have n4_ := n3_; have n5_ := Aside0.mk ((by rw [hg]; exact Nat.ne_of_lt (blk_lt (g := gb509) (o := .cells #[.int .i64 0, .int .i64 0, .int .i64 0, .slice none 0 0] 29 (0, 0)) (bv BK509.out)) : gb509 ≠ gb510)); have n6_ := Aside0.mk (Ne.symm n5_.out); clear BK509; clear HB; have BK509 := n0_; have HB := n1_; have BK510 := n2_; have GW510 := n3_; have GE510 := n4_; have NB509_510 := n5_; have NB510_509 := n6_; clear n0_ n1_ n2_ n3_ n4_ n5_ n6_; clear hb hbox hg; have hnb8 := NB510_509.out; have hnc8 := NB509_510.out; obtain ⟨hcz9_0, hcz9_1, hcz9_2, hcz9_3⟩ := bc4 BK510.out; obtain ⟨hfz9_0, hfz9_1, hfz9_2, hfz9_3⟩ := bf4 BK510.out))
 go_loopg [12] k (fun kq v12 w' => ∃ (x12_1 : Int) (x511003_1 : List Int) (u511003 : Value), v12 = .int .i64 x12_1 ∧ Aside0 (aH.l0 kq a0 a1 a2 l3 a4 x12_1 a0 a1 a2 x511003_1 = some (r1, r2, r3, r4)) ∧ Aside0 (kq ≤ k) ∧ Aside0 (Kd.R (Kd.int .u32) 27 w' w.heap.size (fun _ => True) u511003 x511003_1) ∧ Aside0 (w'.heap[gb509]? = some (.cells #[.int .i64 0, .int .i64 0, .int .i64 0, (.slice none 0 0)] 29 (0, 0))) ∧ Aside0 (w'.heap[gb510]? = some (.cells #[.int .i64 a0, .int .i64 a1, .int .i64 a2, u511003] 29 (0, 0))) ∧ Aside0 (Below w.heap.size w w'))
 case atStart => exact ⟨(0), (([] : List Int)), (.slice none 0 0), (gr_), H', ⟨Nat.le_refl _⟩, ⟨by first | exact Kd.R_nil _ _ _ _ _ | exact Kd.N_nil _ _ _ _ _ | exact Kd.V_nil _ _ _ _ _ | exact Kd.Q_nil _ _ _ _ _ | exact Kd.S_nil _ _ _ _ _⟩, ⟨by (with_reducible repeat first | apply bd | apply be | apply ba); refine blk_far ?_ NB509_510.out _; (with_reducible repeat first | apply bd | apply be | apply ba); refine blk_far ?_ NB509_510.out _; (with_reducible repeat first | apply bd | apply be | apply ba); refine blk_far ?_ NB509_510.out _; (with_reducible repeat first | apply bd | apply be | apply ba); refine blk_far ?_ NB509_510.out _; (with_reducible repeat first | apply bd | apply be | apply ba); exact BK509.out⟩, ⟨by (with_reducible repeat first | apply bd | apply be | apply ba); refine blk_put (cs := #[.int .i64 a0, .int .i64 a1, .int .i64 a2, .slice none 0 0]) ?_ 3 _ rfl; (with_reducible repeat first | apply bd | apply be | apply ba); refine blk_put (cs := #[.int .i64 a0, .int .i64 a1, .int .i64 0, .slice none 0 0]) ?_ 2 _ rfl; (with_reducible repeat first | apply bd | apply be | apply ba); refine blk_put (cs := #[.int .i64 a0, .int .i64 0, .int .i64 0, .slice none 0 0]) ?_ 1 _ rfl; (with_reducible repeat first | apply bd | apply be | apply ba); refine blk_put (cs := #[.int .i64 0, .int .i64 0, .int .i64 0, .slice none 0 0]) ?_ 0 _ rfl; (with_reducible repeat first | apply bd | apply be | apply ba); exact BK510.out⟩, ⟨bl2 HB.out GE509.out GE510.out⟩⟩
 case round =>
  clear H'
  try clear p2 c3 p6 c8 hcz9_0 hcz9_1 hcz9_2 hcz9_3 hfz9_0 hfz9_1 hfz9_2 hfz9_3
  obtain ⟨x12_1, x511003_1, u511003, rfl, HA, HK1, HO_511003, BK509, BK510, HB⟩ := hrel
  cases gk with
  |zero => exact absurd HA.out (by simp [aH.l0])
  |succ k1 =>
   have H := HA.out
   clear HA
   simp only [aH.l0] at H
   by_cases c10 : x12_1 < (wrap64 (a0 * a1))
   ·rw [if_pos c10] at H
    have c10b0 : decide (x12_1 < (wrap64 (a0 * a1))) = true := decide_eq_true c10
    clear c10
    obtain ⟨ji11, hji11⟩ : ∃ j_ : Int, ((((x12_1) % 4294967296) * 2654435761) % 4294967296) = j_ := ⟨_, rfl⟩
    replace H : (if (l3.length : Int) > 0 then (if (l3.length : Int) = 0 then (none) else (if 0 ≤ (Int.tmod x12_1 (l3.length : Int)) then (if (Int.tmod x12_1 (l3.length : Int)) < (l3.length : Int) then (aH.j1 k1 a0 a1 a2 l3 a4 x12_1 (((rd l3 (Int.tmod x12_1 (l3.length : Int))) + ((((wrap64 (Int.tdiv x12_1 (l3.length : Int))) % 4294967296) * 40503) % 4294967296)) % 4294967296) a0 a1 a2 x511003_1) else (none)) else (none))) else (aH.j1 k1 a0 a1 a2 l3 a4 x12_1 ji11 a0 a1 a2 x511003_1)) = some (r1, r2, r3, r4) := by first | (rw [hji11] at H; exact H) | (simp only [hji11] at H ⊢; exact H)
    have hji11l : 0 ≤ ji11 := by rw [← hji11]; exact Int.emod_nonneg _ (by decide)
    have hji11h : ji11 ≤ 4294967295 := by have := Int.emod_lt_of_pos ((((x12_1) % 4294967296) * 2654435761)) (show (0 : Int) < 4294967296 by decide); omega
    have hji11w : (IntKind.u32.wrap (((x12_1) % 4294967296) * 2654435761)) = ji11 := (oG _).trans hji11
    (try (have hji11_ := hji11; simp only [Int.add_emod_emod, Int.emod_add_emod, Int.sub_emod_emod, Int.emod_sub_emod] at hji11_))
    have HC12 := Aside0.mk H
    clear H
    go_upto_if 30 with (fail)
    go_cut [13] (fun v13 wc => ∃ (kq : Nat) (x13_11 : Int), v13 = .int .u32 x13_11 ∧ Aside0 (aH.j1 kq a0 a1 a2 l3 a4 x12_1 x13_11 a0 a1 a2 x511003_1 = some (r1, r2, r3, r4)) ∧ Aside0 (kq ≤ k1) ∧ Aside0 (Kd.R (Kd.int .u32) 27 wc w.heap.size (fun _ => True) u511003 x511003_1) ∧ Aside0 (wc.heap[gb509]? = some (.cells #[.int .i64 0, .int .i64 0, .int .i64 0, (.slice none 0 0)] 29 (0, 0))) ∧ Aside0 (wc.heap[gb510]? = some (.cells #[.int .i64 a0, .int .i64 a1, .int .i64 a2, u511003] 29 (0, 0))) ∧ Aside0 (Below w.heap.size w wc))
    case first =>
     have H := HC12.out
     clear HC12
     by_cases c13 : (l3.length : Int) > 0
     ·rw [if_pos c13] at H
      have c13b0 : decide (0 < (l3.length : Int)) = true := decide_eq_true c13
      have c13b1 : decide (0 < l3.length) = true := decide_eq_true (by omega)
      clear c13
      (first | rw [c13b0] | rw [c13b1] | (simp only [i64_w, i32_w]; rw [c13b0]) | skip)
      by_cases c14 : (l3.length : Int) = 0
      ·rw [if_pos c14] at H
       exact absurd H (by simp)
      ·rw [if_neg c14] at H
       have c14b0 : ((l3.length : Int) == 0) = false := beq_eq_false_iff_ne.mpr c14
       have c14b1 : ((l3.length : Int) != 0) = true := bne_iff_ne.mpr c14
       have c14b2 : ¬ (l3 = []) := fun h_ => c14 (by rw [h_]; rfl)
       obtain ⟨ji15, hji15⟩ : ∃ j_ : Int, (Int.tmod x12_1 (l3.length : Int)) = j_ := ⟨_, rfl⟩
       replace H : (if 0 ≤ (ji15) then (if (ji15) < (l3.length : Int) then (aH.j1 k1 a0 a1 a2 l3 a4 x12_1 (((rd l3 (ji15)) + ((((wrap64 (Int.tdiv x12_1 (l3.length : Int))) % 4294967296) * 40503) % 4294967296)) % 4294967296) a0 a1 a2 x511003_1) else (none)) else (none)) = some (r1, r2, r3, r4) := by first | (rw [hji15] at H; exact H) | (simp only [hji15] at H ⊢; exact H)
       by_cases c16 : 0 ≤ (ji15)
       ·rw [if_pos c16] at H
        have c16b0 : decide (0 ≤ (ji15)) = true := decide_eq_true c16
        clear c16
        by_cases c17 : (ji15) < (l3.length : Int)
        ·rw [if_pos c17] at H
         have c17b0 : decide ((ji15) < (l3.length : Int)) = true := decide_eq_true c17
         clear c17
         obtain ⟨ji18, hji18⟩ : ∃ j_ : Int, ((((wrap64 (Int.tdiv x12_1 (l3.length : Int))) % 4294967296) * 40503) % 4294967296) = j_ := ⟨_, rfl⟩
         replace H : (aH.j1 k1 a0 a1 a2 l3 a4 x12_1 (((rd l3 (ji15)) + (ji18)) % 4294967296) a0 a1 a2 x511003_1) = some (r1, r2, r3, r4) := by first | (rw [hji18] at H; exact H) | (simp only [hji18] at H ⊢; exact H)
         have hji18l : 0 ≤ ji18 := by rw [← hji18]; exact Int.emod_nonneg _ (by decide)
         have hji18h : ji18 ≤ 4294967295 := by have := Int.emod_lt_of_pos ((((wrap64 (Int.tdiv x12_1 (l3.length : Int))) % 4294967296) * 40503)) (show (0 : Int) < 4294967296 by decide); omega
         have hji18w : (IntKind.u32.wrap (((wrap64 (Int.tdiv x12_1 (l3.length : Int))) % 4294967296) * 40503)) = ji18 := (oG _).trans hji18
         (try (have hji18_ := hji18; simp only [Int.add_emod_emod, Int.emod_add_emod, Int.sub_emod_emod, Int.emod_sub_emod] at hji18_))
         obtain ⟨ji19, hji19⟩ : ∃ j_ : Int, (((rd l3 (ji15)) + (ji18)) % 4294967296) = j_ := ⟨_, rfl⟩
         replace H : (aH.j1 k1 a0 a1 a2 l3 a4 x12_1 ji19 a0 a1 a2 x511003_1) = some (r1, r2, r3, r4) := by first | (rw [hji19] at H; exact H) | (simp only [hji19] at H ⊢; exact H)
         have hji19l : 0 ≤ ji19 := by rw [← hji19]; exact Int.emod_nonneg _ (by decide)
         have hji19h : ji19 ≤ 4294967295 := by have := Int.emod_lt_of_pos (((rd l3 (ji15)) + (ji18))) (show (0 : Int) < 4294967296 by decide); omega
         have hji19w : (IntKind.u32.wrap ((rd l3 (ji15)) + (ji18))) = ji19 := (oG _).trans hji19
         (try (have hji19_ := hji19; simp only [Int.add_emod_emod, Int.emod_add_emod, Int.sub_emod_emod, Int.emod_sub_emod] at hji19_))
         have H' := Aside0.mk H
         clear H
         try go_wp2
         have n0_ := Aside0.mk (Kd.R_drew HO_511003.out)
         have n1_ := Aside0.mk (blk_drew BK509.out)
         have n2_ := Aside0.mk (blk_drew BK510.out)
         have n3_ := Aside0.mk (below_drew1 HB.out)
         clear HO_511003
         clear BK509
         clear BK510
         clear HB
         have HO_511003 := n0_
         have BK509 := n1_
         have BK510 := n2_
         have HB := n3_
         clear n0_ n1_ n2_ n3_
         have p511 : 0 ≤ ((ji15) : Int) := of_decide_eq_true (by first | (with_reducible assumption) | assumption)
         have q511 : (ji15) < (l3.length : Int) := of_decide_eq_true (by first | (with_reducible assumption) | assumption)
         obtain ⟨ad511, e511, hx511_0⟩ := Kd.at_int HR3.out (ji15) p511 q511
         have hw511_0 := hx511_0
         cases e511
         replace hx511_0 := (HB.out.cell (World.block_lt_of_cell? w _ hx511_0)).trans hx511_0
         replace p511 := eq_true p511
         replace q511 := eq_true q511
         refine start_ (n := 15) (S := fun w' => w'.cell? (ad511.add ((ji15)).toNat) = some (.int .u32 (rd l3 (ji15)))) (ds := []) (tf 0 15) kr rfl rfl (((HB.out.cell (World.block_lt_of_cell? w _ hw511_0)).trans hw511_0)) (fun hHeld => ?_); refine with_tabW aH.tab7 aH.bits7 (fun HT_ HW_ => ?_)
         generalize wr.drew = w20 at HO_511003 BK509 BK510 HB hx511_0 hHeld ⊢
         refine pure_ (i := 0) (N := some 31) (v := ?_) (a' := ?_) (tf 1 14) rfl rfl (any_of HT_.out kr) (fun _ _ _ h => h) (Or.inl ⟨by rfl, ?_⟩) ?_ ?_
         rotate_left
         ·intro w'
          go_simp
          with_reducible rfl
         rotate_left
         ·simp only [Act.put, sb, sz, ss, i64_w, i32_w]
          rfl
         refine pure_ (i := 1) (N := some 32) (v := ?_) (a' := ?_) (tf 2 13) rfl rfl (any_of HT_.out kr) (fun _ _ _ h => h) (Or.inl ⟨by rfl, ?_⟩) ?_ ?_
         rotate_left
         ·intro w'
          go_simp
          with_reducible rfl
         rotate_left
         ·simp only [Act.put, sb, sz, ss, i64_w, i32_w]
          rfl
         refine pure_ (i := 2) (N := some 33) (v := ?_) (a' := ?_) (tf 3 12) rfl rfl (any_of HT_.out kr) (fun _ _ _ h => h) (Or.inl ⟨by rfl, ?_⟩) ?_ ?_
         rotate_left
         ·intro w'
          go_simp
          with_reducible rfl
         rotate_left
         ·simp only [Act.put, sb, sz, ss, i64_w, i32_w]
          rfl
         refine pure_ (i := 3) (N := some 34) (v := ?_) (a' := ?_) (tf 4 11) rfl rfl (any_of HT_.out kr) (fun _ _ _ h => h) (Or.inl ⟨by rfl, ?_⟩) ?_ ?_
         rotate_left
         ·intro w'
          go_simp
          with_reducible rfl
         rotate_left
         ·simp only [Act.put, sb, sz, ss, i64_w, i32_w]
          rfl
         refine pure_ (i := 4) (N := some 35) (v := ?_) (a' := ?_) (tf 5 10) rfl rfl (any_of HT_.out kr) (fun _ _ _ h => h) (Or.inl ⟨by rfl, ?_⟩) ?_ ?_
         rotate_left
         ·intro w'
          go_simp
          with_reducible rfl
         rotate_left
         ·simp only [Act.put, sb, sz, ss, i64_w, i32_w]
          rfl
         refine pure_ (i := 5) (N := some 36) (v := ?_) (a' := ?_) (tf 6 9) rfl rfl (any_of HT_.out kr) (fun _ _ _ h => h) (Or.inl ⟨by rfl, ?_⟩) ?_ ?_
         rotate_left
         ·intro w'
          go_simp
          with_reducible rfl
         rotate_left
         ·simp only [Act.put, sb, sz, ss, i64_w, i32_w]
          rfl
         refine pure_ (i := 7) (N := some 38) (v := ?_) (a' := ?_) #[true, true, true, true, true, true, false, true, false, false, false, false, false, false, false] rfl rfl (any_of HT_.out kr) (fun _ _ _ h => h) (Or.inl ⟨by rfl, ?_⟩) ?_ ?_
         rotate_left
         ·intro w'
          go_simp
          with_reducible rfl
         rotate_left
         ·simp only [Act.put, sb, sz, ss, i64_w, i32_w]
          rfl
         refine pure_ (i := 8) (N := some 39) (v := ?_) (a' := ?_) #[true, true, true, true, true, true, false, true, true, false, false, false, false, false, false] rfl rfl (any_of HT_.out kr) (fun _ _ _ h => h) (Or.inl ⟨by rfl, ?_⟩) ?_ ?_
         rotate_left
         ·intro w'
          go_simp
          with_reducible rfl
         rotate_left
         ·simp only [Act.put, sb, sz, ss, i64_w, i32_w]
          rfl
         refine pure_ (i := 9) (N := some 40) (v := ?_) (a' := ?_) #[true, true, true, true, true, true, false, true, true, true, false, false, false, false, false] rfl rfl (any_of HT_.out kr) (fun _ _ _ h => h) (Or.inl ⟨by rfl, ?_⟩) ?_ ?_
         rotate_left
         ·intro w'
          go_simp
          with_reducible rfl
         rotate_left
         ·simp only [Act.put, sb, sz, ss, i64_w, i32_w]
          rfl
         refine pure_ (i := 10) (N := some 41) (v := ?_) (a' := ?_) #[true, true, true, true, true, true, false, true, true, true, true, false, false, false, false] rfl rfl (any_of HT_.out kr) (fun _ _ _ h => h) (Or.inl ⟨by rfl, ?_⟩) ?_ ?_
         rotate_left
         ·intro w'
          go_simp
          with_reducible rfl
         rotate_left
         ·simp only [Act.put, sb, sz, ss, i64_w, i32_w]
          rfl
         refine pure_ (i := 11) (N := some 42) (v := ?_) (a' := ?_) #[true, true, true, true, true, true, false, true, true, true, true, true, false, false, false] rfl rfl (any_of HT_.out kr) (fun _ _ _ h => h) (Or.inl ⟨by rfl, ?_⟩) ?_ ?_
         rotate_left
         ·intro w'
          go_simp
          with_reducible rfl
         rotate_left
         ·simp only [Act.put, sb, sz, ss, i64_w, i32_w]
          rfl
         refine pure_ (i := 12) (N := some 43) (v := ?_) (a' := ?_) #[true, true, true, true, true, true, false, true, true, true, true, true, true, false, false] rfl rfl (any_of HT_.out kr) (fun _ _ _ h => h) (Or.inl ⟨by rfl, ?_⟩) ?_ ?_
         rotate_left
         ·intro w'
          go_simp
          with_reducible rfl
         rotate_left
         ·simp only [Act.put, sb, sz, ss, i64_w, i32_w]
          rfl
         refine take_ (i := 6) (N := some 37) (v := ?_) (a' := ?_) (tf 13 2) rfl rfl (take_ofW HT_.out HW_.out kr) (fun _ _ _ h => h) (Or.inl ⟨by rfl, ?_⟩) hHeld ?_ ?_
         rotate_left
         ·intro w' s0
          go_simp
          with_reducible rfl
         rotate_left
         ·simp only [Act.put, sb, sz, ss, i64_w, i32_w]
          rfl
         refine pure_ (i := 13) (N := some 44) (v := ?_) (a' := ?_) (tf 14 1) rfl rfl (any_of HT_.out kr) (fun _ _ _ h => h) (Or.inl ⟨by rfl, ?_⟩) ?_ ?_
         rotate_left
         ·intro w'
          go_simp
          with_reducible rfl
         rotate_left
         ·simp only [Act.put, sb, sz, ss, i64_w, i32_w]
          rfl
         refine pure_ (i := 14) (N := some 13) (v := ?_) (a' := ?_) (tf 15 0) rfl rfl (any_of HT_.out kr) (fun _ _ _ h => h) (Or.inl ⟨by rfl, ?_⟩) ?_ ?_
         rotate_left
         ·intro w'
          go_simp
          with_reducible rfl
         rotate_left
         ·simp only [Act.put, sb, sz, ss, i64_w, i32_w]
          rfl
         refine done_ (done_of HT_.out kr) ?_
         try go_wp2
         go_meet
         case rel => exact ⟨_, (ji19), (by first | rfl | (rw [← hji19w, ← hji18w]; simp only [oG]; done) | (rw [← hji19w, ← hji18w]; simp only [oG]; rfl) | (rw [← hji19w, ← hji18w]; simp only [oG]; done) | (rw [← hji19w, ← hji18w]; simp only [oG]; rfl) | (simp; done) | (simp only [← hji19] <;> (first | rfl | (simp; done))) | (simp [*]; done) | (congr 1; (try unfold wrap64); omega) | (congr 1; rw [IntKind.wrap_u64]; omega)), H', ⟨by have := HK1.out; first | omega | exact Nat.le_refl _⟩, ⟨by (with_reducible repeat (first | apply Kd.R_alloc | apply Kd.R_drewN | apply Kd.R_drew)); exact HO_511003.out⟩, ⟨by (with_reducible repeat first | apply bd | apply be | apply ba); exact BK509.out⟩, ⟨by (with_reducible repeat first | apply bd | apply be | apply ba); exact BK510.out⟩, ⟨bl2 HB.out GE509.out GE510.out⟩⟩
        ·rw [if_neg c17] at H
         exact absurd H (by simp)
       ·rw [if_neg c16] at H
        exact absurd H (by simp)
     ·rw [if_neg c13] at H
      have c13b0 : decide (0 < (l3.length : Int)) = false := decide_eq_false c13
      have c13b1 : decide (0 < l3.length) = false := decide_eq_false (by omega)
      clear c13
      (first | rw [c13b0] | rw [c13b1] | (simp only [i64_w, i32_w]; rw [c13b0]) | skip)
      have H' := Aside0.mk H
      clear H
      go_wp2
      go_meet
      case rel => exact ⟨_, (ji11), (by first | rfl | (simp; done) | (simp only [← hji11] <;> (first | rfl | (simp; done))) | (simp [*]; done) | (congr 1; (try unfold wrap64); omega) | (congr 1; rw [IntKind.wrap_u64]; omega)), H', ⟨by have := HK1.out; first | omega | exact Nat.le_refl _⟩, ⟨by (with_reducible repeat (first | apply Kd.R_alloc | apply Kd.R_drewN | apply Kd.R_drew)); exact HO_511003.out⟩, ⟨by (with_reducible repeat first | apply bd | apply be | apply ba); exact BK509.out⟩, ⟨by (with_reducible repeat first | apply bd | apply be | apply ba); exact BK510.out⟩, ⟨bl2 HB.out GE509.out GE510.out⟩⟩
    case rest =>
     clear HC12
     try clear c1 p2 c3 p5 q5 hx5 p6 c8 c10 c10b0 c13 c13b0 c13b1 c14 c14b0 c14b1 c14b2 c16 c16b0 c17 c17b0 hcz9_0 hcz9_1 hcz9_2 hcz9_3 hfz9_0 hfz9_1 hfz9_2 hfz9_3 hx511_0 p2 p511 p6 q511
     obtain ⟨kq, x13_11, rfl, HA, HJ11, HO_511003, BK509, BK510, HB⟩ := hcut
     cases kq with
     |zero => exact absurd HA.out (by simp [aH.j1])
     |succ kj11 =>
      have H := HA.out
      clear HA
      simp only [aH.j1] at H
      by_cases c21 : a4 = true
      ·subst c21
       have H1 : ((bX.f a2 x13_11).bind fun t512 => (if x511003_1.length < 35184372088832 then (aH.l0 kj11 a0 a1 a2 l3 true (wrap64 (x12_1 + 1)) a0 a1 a2 (x511003_1 ++ [t512])) else (none))) = some (r1, r2, r3, r4) := by rw [if_pos rfl] at H; exact H
       clear H
       have H := H1
       clear H1
       replace H := bq_ H
       obtain ⟨t512, A220, H⟩ := H
       replace H : (if x511003_1.length < 35184372088832 then (aH.l0 kj11 a0 a1 a2 l3 true (wrap64 (x12_1 + 1)) a0 a1 a2 (x511003_1 ++ [t512])) else (none)) = some (r1, r2, r3, r4) := H
       have A22 := Aside0.mk A220
       clear A220
       by_cases c23 : x511003_1.length < 35184372088832
       ·rw [if_pos c23] at H
        have LMc23 := Aside0.mk c23
        clear c23
        obtain ⟨y513, hy513⟩ : ∃ y_ : List Int, y_ = (x511003_1 ++ [t512]) := ⟨_, rfl⟩
        replace H : (aH.l0 kj11 a0 a1 a2 l3 true (wrap64 (x12_1 + 1)) a0 a1 a2 y513) = some (r1, r2, r3, r4) := by first | (rw [hy513]; with_reducible exact H) | (have H2_ := (Option.bind_some _ _).symm.trans H; rw [hy513]; with_reducible exact H2_) | (have H2_ := (Option.bind_some _ _).symm.trans H; with_reducible exact H2_) | with_reducible exact H | (rw [hy513]; exact H) | exact H
        have Ny513 := Aside0.mk hy513
        clear hy513
        have H' := Aside0.mk H
        clear H
        try go_wp2
        have n0_ := Aside0.mk (Kd.R_drew HO_511003.out)
        have n1_ := Aside0.mk (blk_drew BK509.out)
        have n2_ := Aside0.mk (blk_drew BK510.out)
        have n3_ := Aside0.mk (below_drew1 HB.out)
        clear HO_511003
        clear BK509
        clear BK510
        clear HB
        have HO_511003 := n0_
        have BK509 := n1_
        have BK510 := n2_
        have HB := n3_
        clear n0_ n1_ n2_ n3_
        refine start_ (n := 9) (S := fun w' => w'.cell? ⟨gb510, 0, none⟩ = some (.int .i64 a0) ∧ w'.cell? ⟨gb510, 1, none⟩ = some (.int .i64 a1) ∧ w'.cell? ⟨gb510, 2, none⟩ = some (.int .i64 a2) ∧ w'.cell? ⟨gb510, 3, none⟩ = some (u511003)) (ds := [8]) (tf 0 9) kr rfl rfl ⟨(blk_cell BK510.out 0).trans rfl, (blk_cell BK510.out 1).trans rfl, (blk_cell BK510.out 2).trans rfl, (blk_cell BK510.out 3).trans rfl⟩ (fun hHeld => ?_); refine with_tabW aH.tab9 aH.bits9 (fun HT_ HW_ => ?_)
        generalize wc.drew = w24 at HO_511003 BK509 BK510 HB hHeld ⊢
        refine pure_ (i := 0) (N := some 46) (v := ?_) (a' := ?_) (tf 1 8) rfl rfl (any_of HT_.out kr) (fun _ _ _ h => h) (Or.inl ⟨by rfl, ?_⟩) ?_ ?_
        rotate_left
        ·intro w'
         go_simp
         with_reducible rfl
        rotate_left
        ·simp only [Act.put, sb, sz, ss, i64_w, i32_w]
         rfl
        refine pure_ (i := 2) (N := some 48) (v := ?_) (a' := ?_) #[true, false, true, false, false, false, false, false, false] rfl rfl (any_of HT_.out kr) (fun _ _ _ h => h) (Or.inl ⟨by rfl, ?_⟩) ?_ ?_
        rotate_left
        ·intro w'
         go_simp
         with_reducible rfl
        rotate_left
        ·simp only [Act.put, sb, sz, ss, i64_w, i32_w]
         rfl
        refine pure_ (i := 3) (N := some 49) (v := ?_) (a' := ?_) #[true, false, true, true, false, false, false, false, false] rfl rfl (any_of HT_.out kr) (fun _ _ _ h => h) (Or.inl ⟨by rfl, ?_⟩) ?_ ?_
        rotate_left
        ·intro w'
         go_simp
         with_reducible rfl
        rotate_left
        ·simp only [Act.put, sb, sz, ss, i64_w, i32_w]
         rfl
        refine take_ (i := 1) (N := some 47) (v := ?_) (a' := ?_) (tf 4 5) rfl rfl (take_ofW HT_.out HW_.out kr) (fun _ _ _ h => h) (Or.inl ⟨by rfl, ?_⟩) hHeld ?_ ?_
        rotate_left
        ·rintro w' ⟨s0, s1, s2, s3⟩
         go_simp
         with_reducible rfl
        rotate_left
        ·simp only [Act.put, sb, sz, ss, i64_w, i32_w]
         rfl
        refine one_ (i := 4) (N := some 50) (tf 5 4) rfl rfl (one_of HT_.out kr) (by decide) (fun K hK => ?_)
        refine goes_ Tryz.func84 kr rfl #[.int .i64 a2, .int .u32 x13_11] (by rfl) rfl rfl gl ?_
        with_reducible refine (bX.calls a2 x13_11 t512 _ A22.out).mono ?_
        rintro e w25 ⟨rfl, hb⟩
        refine ⟨_, rfl, ?_⟩
        have n0_ := Aside0.mk (Kd.R_below (by (with_reducible repeat (first | apply Kd.R_alloc | apply Kd.R_drewN | apply Kd.R_drew)); exact HO_511003.out) hb)
        have n1_ := Aside0.mk (blk_below (g := gb509) (o := .cells #[.int .i64 0, .int .i64 0, .int .i64 0, .slice none 0 0] 29 (0, 0)) (bv BK509.out) hb)
        have n2_ := Aside0.mk (blk_below (g := gb510) (o := .cells #[.int .i64 a0, .int .i64 a1, .int .i64 a2, u511003] 29 (0, 0)) (bv BK510.out) hb)
        have n3_ := Aside0.mk (below_step (bl2 HB.out GE509.out GE510.out) hb)
        clear HO_511003
        clear BK509
        clear BK510
        clear HB
        have HO_511003 := n0_
        have BK509 := n1_
        have BK510 := n2_
        have HB := n3_
        clear n0_ n1_ n2_ n3_
        (try clear hb)
        (try clear hb2)
        (try clear hk)
        (try clear hi)
        refine hK.out _ _ ⟨(blk_cell BK510.out 0).trans rfl, (blk_cell BK510.out 1).trans rfl, (blk_cell BK510.out 2).trans rfl, (blk_cell BK510.out 3).trans rfl⟩ (fun hHeld => ?_)
        clear hK K
        refine norm_ (a' := ?_) ?_ ?_
        rotate_left
        ·show Act.put _ (some 50) _ = _
         simp only [Act.put, sb, sz, ss, i64_w, i32_w]
         rfl
        refine one_ (i := 5) (N := some 51) (tf 6 3) rfl rfl (one_of HT_.out kr) (by decide) (fun K hK => ?_)
        refine value_ (w1 := ?_) (v := ?_) (by rfl) rfl ?_ ?_
        rotate_left 2
        ·go_simp
         constructor
         ·rfl
         ·rfl
        refine hK.out _ _ ⟨(blk_cell (blk_alloc BK510.out _) 0).trans rfl, (blk_cell (blk_alloc BK510.out _) 1).trans rfl, (blk_cell (blk_alloc BK510.out _) 2).trans rfl, (blk_cell (blk_alloc BK510.out _) 3).trans rfl⟩ (fun hHeld => ?_)
        clear hK K
        refine norm_ (a' := ?_) ?_ ?_
        rotate_left
        ·show Act.put _ (some 51) _ = _
         simp only [Act.put, sb, sz, ss, i64_w, i32_w]
         rfl
        refine one_ (i := 6) (N := some 52) (tf 7 2) rfl rfl (one_of HT_.out kr) (by decide) (fun K hK => ?_)
        refine Kd.R_append_step (Kd.int .u32) (w0 := w) w.heap.size (by rfl) (.tmp 47) (.tmp 51) 22 27 (.int .u32 0) 4 rfl Tryz.underlying22 aBA rfl (by decide) (by omega) u511003 x511003_1 t512 [.int .u32 t512] (fun _ => True) (fun _ => False) rfl rfl ?aP (fun _ hk => hk.elim) ?aF ?aO ?aB ?aS ?aL ?_
        (case aP => exact rfl)
        (case aB => exact (bl2 HB.out GE509.out GE510.out))
        (case aF => exact (fun _ _ => trivial))
        (case aO => exact (by (with_reducible repeat (first | apply Kd.R_alloc | apply Kd.R_drewN | apply Kd.R_drew)); exact HO_511003.out))
        (case aS => exact (below_size (bl2 HB.out GE509.out GE510.out)))
        (case aL => have := LMc23.out; omega)
        intro v514 w26 ho hb hg hat
        rw [← Ny513.out] at ho
        have n0_ := Aside0.mk (blk_grown (g := gb509) (o := .cells #[.int .i64 0, .int .i64 0, .int .i64 0, .slice none 0 0] 29 (0, 0)) (bv BK509.out) hg (Kd.R_ne HO_511003.out BK509.out (by decide)))
        have n1_ := Aside0.mk (blk_grown (g := gb510) (o := .cells #[.int .i64 a0, .int .i64 a1, .int .i64 a2, u511003] 29 (0, 0)) (bv BK510.out) hg (Kd.R_ne HO_511003.out BK510.out (by decide)))
        have n2_ := Aside0.mk (hb)
        have n3_ := Aside0.mk (ho)
        clear BK509
        clear BK510
        clear HB
        clear HO_511003
        have BK509 := n0_
        have BK510 := n1_
        have HB := n2_
        have HO515 := n3_
        clear n0_ n1_ n2_ n3_
        clear ho hb hg hat
        obtain ⟨Ao27, co27, eo27⟩ := Kd.R_slice HO515.out
        (first | subst eo27 | (injection eo27 with f1_ f2_ f3_; have f4_ := f1_.symm; have f5_ := f3_.symm; clear f1_ f2_ f3_; subst f4_; subst f5_))
        refine hK.out _ _ ⟨(blk_cell BK510.out 0).trans rfl, (blk_cell BK510.out 1).trans rfl, (blk_cell BK510.out 2).trans rfl, (blk_cell BK510.out 3).trans rfl⟩ (fun hHeld => ?_)
        clear hK K
        refine norm_ (a' := ?_) ?_ ?_
        rotate_left
        ·show Act.put _ (some 52) _ = _
         simp only [Act.put, sb, sz, ss, i64_w, i32_w]
         rfl
        refine pure_ (i := 7) (N := some 53) (v := ?_) (a' := ?_) (tf 8 1) rfl rfl (any_of HT_.out kr) (fun _ _ _ h => h) (Or.inl ⟨by rfl, ?_⟩) ?_ ?_
        rotate_left
        ·intro w'
         go_simp
         with_reducible rfl
        rotate_left
        ·simp only [Act.put, sb, sz, ss, i64_w, i32_w]
         rfl
        refine last_ (i := 8) (N := none) (tf 9 0) rfl rfl (one_of HT_.out kr) (by decide) (fun K hK => ?_)
        have hs28 : w26.cell? ⟨gb510, 3, none⟩ = some (u511003) := (blk_cell BK510.out 3).trans rfl
        have hfs28 := blk_frozen BK510.out 3
        have hns28_0 := NB509_510.out
        have hms28_0 := NB510_509.out
        refine skip_ (w1 := ?_) (by rfl) rfl ?_ ?_
        rotate_left
        ·go_simp
         rfl
        refine hK.out _ _ ?_
        clear hK K
        refine done_ (done_of HT_.out kr) ?_
        try go_wp2
        (try subst hji11)
        go_roundg kj11
        case measure => have := HK1.out; have := HJ11.out; omega
        case rel => exact ⟨(wrap64 (x12_1 + 1)), (y513), (.slice Ao27 y513.length co27), (gr_), H', ⟨by have := HK1.out; have := HJ11.out; omega⟩, ⟨by (with_reducible repeat (first | apply Kd.R_alloc | apply Kd.R_drewN | apply Kd.R_drew)); exact Kd.R_mono (Kd.R_far (p := ⟨gb510, 3, none⟩) (Kd.R_types HO515.out BK510.out (by decide)) (fun _ hk => hk.2) (.slice Ao27 y513.length co27)) (fun _ hk => trivial)⟩, ⟨by (with_reducible repeat first | apply bd | apply be | apply ba); refine blk_far ?_ NB509_510.out _; (with_reducible repeat first | apply bd | apply be | apply ba); exact BK509.out⟩, ⟨by (with_reducible repeat first | apply bd | apply be | apply ba); refine blk_put (cs := #[.int .i64 a0, .int .i64 a1, .int .i64 a2, u511003]) ?_ 3 _ rfl; (with_reducible repeat first | apply bd | apply be | apply ba); exact BK510.out⟩, ⟨bl2 HB.out GE509.out GE510.out⟩⟩
       ·rw [if_neg c23] at H
        exact absurd H (by simp)
      ·replace c21 := Bool.eq_false_iff.mpr c21
       subst c21
       have H1 : ((dA.f a2 x13_11).bind fun t516 => (if x511003_1.length < 35184372088832 then (aH.l0 kj11 a0 a1 a2 l3 false (wrap64 (x12_1 + 1)) a0 a1 a2 (x511003_1 ++ [t516])) else (none))) = some (r1, r2, r3, r4) := by rw [if_neg (show ¬ (false = true) by decide)] at H; exact H
       clear H
       have H := H1
       clear H1
       replace H := bq_ H
       obtain ⟨t516, A290, H⟩ := H
       replace H : (if x511003_1.length < 35184372088832 then (aH.l0 kj11 a0 a1 a2 l3 false (wrap64 (x12_1 + 1)) a0 a1 a2 (x511003_1 ++ [t516])) else (none)) = some (r1, r2, r3, r4) := H
       have A29 := Aside0.mk A290
       clear A290
       by_cases c30 : x511003_1.length < 35184372088832
       ·rw [if_pos c30] at H
        have LMc30 := Aside0.mk c30
        clear c30
        obtain ⟨y517, hy517⟩ : ∃ y_ : List Int, y_ = (x511003_1 ++ [t516]) := ⟨_, rfl⟩
        replace H : (aH.l0 kj11 a0 a1 a2 l3 false (wrap64 (x12_1 + 1)) a0 a1 a2 y517) = some (r1, r2, r3, r4) := by first | (rw [hy517]; with_reducible exact H) | (have H2_ := (Option.bind_some _ _).symm.trans H; rw [hy517]; with_reducible exact H2_) | (have H2_ := (Option.bind_some _ _).symm.trans H; with_reducible exact H2_) | with_reducible exact H | (rw [hy517]; exact H) | exact H
        have Ny517 := Aside0.mk hy517
        clear hy517
        have H' := Aside0.mk H
        clear H
        try go_wp2
        have n0_ := Aside0.mk (Kd.R_drew HO_511003.out)
        have n1_ := Aside0.mk (blk_drew BK509.out)
        have n2_ := Aside0.mk (blk_drew BK510.out)
        have n3_ := Aside0.mk (below_drew1 HB.out)
        clear HO_511003
        clear BK509
        clear BK510
        clear HB
        have HO_511003 := n0_
        have BK509 := n1_
        have BK510 := n2_
        have HB := n3_
        clear n0_ n1_ n2_ n3_
        refine start_ (n := 9) (S := fun w' => w'.cell? ⟨gb510, 0, none⟩ = some (.int .i64 a0) ∧ w'.cell? ⟨gb510, 1, none⟩ = some (.int .i64 a1) ∧ w'.cell? ⟨gb510, 2, none⟩ = some (.int .i64 a2) ∧ w'.cell? ⟨gb510, 3, none⟩ = some (u511003)) (ds := [8]) (tf 0 9) kr rfl rfl ⟨(blk_cell BK510.out 0).trans rfl, (blk_cell BK510.out 1).trans rfl, (blk_cell BK510.out 2).trans rfl, (blk_cell BK510.out 3).trans rfl⟩ (fun hHeld => ?_); refine with_tabW aH.tab10 aH.aBC (fun HT_ HW_ => ?_)
        generalize wc.drew = w31 at HO_511003 BK509 BK510 HB hHeld ⊢
        refine pure_ (i := 0) (N := some 54) (v := ?_) (a' := ?_) (tf 1 8) rfl rfl (any_of HT_.out kr) (fun _ _ _ h => h) (Or.inl ⟨by rfl, ?_⟩) ?_ ?_
        rotate_left
        ·intro w'
         go_simp
         with_reducible rfl
        rotate_left
        ·simp only [Act.put, sb, sz, ss, i64_w, i32_w]
         rfl
        refine pure_ (i := 2) (N := some 56) (v := ?_) (a' := ?_) #[true, false, true, false, false, false, false, false, false] rfl rfl (any_of HT_.out kr) (fun _ _ _ h => h) (Or.inl ⟨by rfl, ?_⟩) ?_ ?_
        rotate_left
        ·intro w'
         go_simp
         with_reducible rfl
        rotate_left
        ·simp only [Act.put, sb, sz, ss, i64_w, i32_w]
         rfl
        refine pure_ (i := 3) (N := some 57) (v := ?_) (a' := ?_) #[true, false, true, true, false, false, false, false, false] rfl rfl (any_of HT_.out kr) (fun _ _ _ h => h) (Or.inl ⟨by rfl, ?_⟩) ?_ ?_
        rotate_left
        ·intro w'
         go_simp
         with_reducible rfl
        rotate_left
        ·simp only [Act.put, sb, sz, ss, i64_w, i32_w]
         rfl
        refine take_ (i := 1) (N := some 55) (v := ?_) (a' := ?_) (tf 4 5) rfl rfl (take_ofW HT_.out HW_.out kr) (fun _ _ _ h => h) (Or.inl ⟨by rfl, ?_⟩) hHeld ?_ ?_
        rotate_left
        ·rintro w' ⟨s0, s1, s2, s3⟩
         go_simp
         with_reducible rfl
        rotate_left
        ·simp only [Act.put, sb, sz, ss, i64_w, i32_w]
         rfl
        refine one_ (i := 4) (N := some 58) (tf 5 4) rfl rfl (one_of HT_.out kr) (by decide) (fun K hK => ?_)
        refine goes_ Tryz.func85 kr rfl #[.int .i64 a2, .int .u32 x13_11] (by rfl) rfl rfl gl ?_
        with_reducible refine (dA.calls a2 x13_11 t516 _ A29.out).mono ?_
        rintro e w32 ⟨rfl, hb⟩
        refine ⟨_, rfl, ?_⟩
        have n0_ := Aside0.mk (Kd.R_below (by (with_reducible repeat (first | apply Kd.R_alloc | apply Kd.R_drewN | apply Kd.R_drew)); exact HO_511003.out) hb)
        have n1_ := Aside0.mk (blk_below (g := gb509) (o := .cells #[.int .i64 0, .int .i64 0, .int .i64 0, .slice none 0 0] 29 (0, 0)) (bv BK509.out) hb)
        have n2_ := Aside0.mk (blk_below (g := gb510) (o := .cells #[.int .i64 a0, .int .i64 a1, .int .i64 a2, u511003] 29 (0, 0)) (bv BK510.out) hb)
        have n3_ := Aside0.mk (below_step (bl2 HB.out GE509.out GE510.out) hb)
        clear HO_511003
        clear BK509
        clear BK510
        clear HB
        have HO_511003 := n0_
        have BK509 := n1_
        have BK510 := n2_
        have HB := n3_
        clear n0_ n1_ n2_ n3_
        (try clear hb)
        (try clear hb2)
        (try clear hk)
        (try clear hi)
        refine hK.out _ _ ⟨(blk_cell BK510.out 0).trans rfl, (blk_cell BK510.out 1).trans rfl, (blk_cell BK510.out 2).trans rfl, (blk_cell BK510.out 3).trans rfl⟩ (fun hHeld => ?_)
        clear hK K
        refine norm_ (a' := ?_) ?_ ?_
        rotate_left
        ·show Act.put _ (some 58) _ = _
         simp only [Act.put, sb, sz, ss, i64_w, i32_w]
         rfl
        refine one_ (i := 5) (N := some 59) (tf 6 3) rfl rfl (one_of HT_.out kr) (by decide) (fun K hK => ?_)
        refine value_ (w1 := ?_) (v := ?_) (by rfl) rfl ?_ ?_
        rotate_left 2
        ·go_simp
         constructor
         ·rfl
         ·rfl
        refine hK.out _ _ ⟨(blk_cell (blk_alloc BK510.out _) 0).trans rfl, (blk_cell (blk_alloc BK510.out _) 1).trans rfl, (blk_cell (blk_alloc BK510.out _) 2).trans rfl, (blk_cell (blk_alloc BK510.out _) 3).trans rfl⟩ (fun hHeld => ?_)
        clear hK K
        refine norm_ (a' := ?_) ?_ ?_
        rotate_left
        ·show Act.put _ (some 59) _ = _
         simp only [Act.put, sb, sz, ss, i64_w, i32_w]
         rfl
        refine one_ (i := 6) (N := some 60) (tf 7 2) rfl rfl (one_of HT_.out kr) (by decide) (fun K hK => ?_)
        refine Kd.R_append_step (Kd.int .u32) (w0 := w) w.heap.size (by rfl) (.tmp 55) (.tmp 59) 22 27 (.int .u32 0) 4 rfl Tryz.underlying22 aBA rfl (by decide) (by omega) u511003 x511003_1 t516 [.int .u32 t516] (fun _ => True) (fun _ => False) rfl rfl ?aP (fun _ hk => hk.elim) ?aF ?aO ?aB ?aS ?aL ?_
        (case aP => exact rfl)
        (case aB => exact (bl2 HB.out GE509.out GE510.out))
        (case aF => exact (fun _ _ => trivial))
        (case aO => exact (by (with_reducible repeat (first | apply Kd.R_alloc | apply Kd.R_drewN | apply Kd.R_drew)); exact HO_511003.out))
        (case aS => exact (below_size (bl2 HB.out GE509.out GE510.out)))
        (case aL => have := LMc30.out; omega)
        intro v518 w33 ho hb hg hat
        rw [← Ny517.out] at ho
        have n0_ := Aside0.mk (blk_grown (g := gb509) (o := .cells #[.int .i64 0, .int .i64 0, .int .i64 0, .slice none 0 0] 29 (0, 0)) (bv BK509.out) hg (Kd.R_ne HO_511003.out BK509.out (by decide)))
        have n1_ := Aside0.mk (blk_grown (g := gb510) (o := .cells #[.int .i64 a0, .int .i64 a1, .int .i64 a2, u511003] 29 (0, 0)) (bv BK510.out) hg (Kd.R_ne HO_511003.out BK510.out (by decide)))
        have n2_ := Aside0.mk (hb)
        have n3_ := Aside0.mk (ho)
        clear BK509
        clear BK510
        clear HB
        clear HO_511003
        have BK509 := n0_
        have BK510 := n1_
        have HB := n2_
        have HO519 := n3_
        clear n0_ n1_ n2_ n3_
        clear ho hb hg hat
        obtain ⟨Ao34, co34, eo34⟩ := Kd.R_slice HO519.out
        (first | subst eo34 | (injection eo34 with f1_ f2_ f3_; have f4_ := f1_.symm; have f5_ := f3_.symm; clear f1_ f2_ f3_; subst f4_; subst f5_))
        refine hK.out _ _ ⟨(blk_cell BK510.out 0).trans rfl, (blk_cell BK510.out 1).trans rfl, (blk_cell BK510.out 2).trans rfl, (blk_cell BK510.out 3).trans rfl⟩ (fun hHeld => ?_)
        clear hK K
        refine norm_ (a' := ?_) ?_ ?_
        rotate_left
        ·show Act.put _ (some 60) _ = _
         simp only [Act.put, sb, sz, ss, i64_w, i32_w]
         rfl
        refine pure_ (i := 7) (N := some 61) (v := ?_) (a' := ?_) (tf 8 1) rfl rfl (any_of HT_.out kr) (fun _ _ _ h => h) (Or.inl ⟨by rfl, ?_⟩) ?_ ?_
        rotate_left
        ·intro w'
         go_simp
         with_reducible rfl
        rotate_left
        ·simp only [Act.put, sb, sz, ss, i64_w, i32_w]
         rfl
        refine last_ (i := 8) (N := none) (tf 9 0) rfl rfl (one_of HT_.out kr) (by decide) (fun K hK => ?_)
        have hs35 : w33.cell? ⟨gb510, 3, none⟩ = some (u511003) := (blk_cell BK510.out 3).trans rfl
        have hfs35 := blk_frozen BK510.out 3
        have hns35_0 := NB509_510.out
        have hms35_0 := NB510_509.out
        refine skip_ (w1 := ?_) (by rfl) rfl ?_ ?_
        rotate_left
        ·go_simp
         rfl
        refine hK.out _ _ ?_
        clear hK K
        refine done_ (done_of HT_.out kr) ?_
        try go_wp2
        (try subst hji11)
        go_roundg kj11
        case measure => have := HK1.out; have := HJ11.out; omega
        case rel => exact ⟨(wrap64 (x12_1 + 1)), (y517), (.slice Ao34 y517.length co34), (gr_), H', ⟨by have := HK1.out; have := HJ11.out; omega⟩, ⟨by (with_reducible repeat (first | apply Kd.R_alloc | apply Kd.R_drewN | apply Kd.R_drew)); exact Kd.R_mono (Kd.R_far (p := ⟨gb510, 3, none⟩) (Kd.R_types HO519.out BK510.out (by decide)) (fun _ hk => hk.2) (.slice Ao34 y517.length co34)) (fun _ hk => trivial)⟩, ⟨by (with_reducible repeat first | apply bd | apply be | apply ba); refine blk_far ?_ NB509_510.out _; (with_reducible repeat first | apply bd | apply be | apply ba); exact BK509.out⟩, ⟨by (with_reducible repeat first | apply bd | apply be | apply ba); refine blk_put (cs := #[.int .i64 a0, .int .i64 a1, .int .i64 a2, u511003]) ?_ 3 _ rfl; (with_reducible repeat first | apply bd | apply be | apply ba); exact BK510.out⟩, ⟨bl2 HB.out GE509.out GE510.out⟩⟩
       ·rw [if_neg c30] at H
        exact absurd H (by simp)
   ·rw [if_neg c10] at H
    have c10b0 : decide (x12_1 < (wrap64 (a0 * a1))) = false := decide_eq_false c10
    clear c10
    simp only [Option.some.injEq, Prod.mk.injEq] at H
    obtain ⟨rfl, rfl, rfl, rfl⟩ := H
    have hnb36 := NB510_509.out
    have hnc36 := NB509_510.out
    have hcz37_0 : wr.cell? ⟨gb510, 0, none⟩ = some (.int .i64 a0) := (blk_cell BK510.out 0).trans rfl
    have hcz37_1 : wr.cell? ⟨gb510, 1, none⟩ = some (.int .i64 a1) := (blk_cell BK510.out 1).trans rfl
    have hcz37_2 : wr.cell? ⟨gb510, 2, none⟩ = some (.int .i64 a2) := (blk_cell BK510.out 2).trans rfl
    have hcz37_3 : wr.cell? ⟨gb510, 3, none⟩ = some (u511003) := (blk_cell BK510.out 3).trans rfl
    have hfz37_0 := blk_frozen BK510.out 0
    have hfz37_1 := blk_frozen BK510.out 1
    have hfz37_2 := blk_frozen BK510.out 2
    have hfz37_3 := blk_frozen BK510.out 3
    have hcz38_0 : wr.cell? ⟨gb509, 0, none⟩ = some (.int .i64 0) := (blk_cell BK509.out 0).trans rfl
    have hcz38_1 : wr.cell? ⟨gb509, 1, none⟩ = some (.int .i64 0) := (blk_cell BK509.out 1).trans rfl
    have hcz38_2 : wr.cell? ⟨gb509, 2, none⟩ = some (.int .i64 0) := (blk_cell BK509.out 2).trans rfl
    have hcz38_3 : wr.cell? ⟨gb509, 3, none⟩ = some (.slice none 0 0) := (blk_cell BK509.out 3).trans rfl
    have hfz38_0 := blk_frozen BK509.out 0
    have hfz38_1 := blk_frozen BK509.out 1
    have hfz38_2 := blk_frozen BK509.out 2
    have hfz38_3 := blk_frozen BK509.out 3
    obtain ⟨Ao39, co39, eo39⟩ := Kd.R_slice HO_511003.out
    subst eo39
    go_wp2
    refine bodyPost_ret (results_cell_row rfl _ _ gb509 29 #[.int .i64 a0, .int .i64 a1, .int .i64 a2, .slice Ao39 x511003_1.length co39] (0, 0) _ rfl (by (with_reducible repeat first | apply bd | apply be | apply ba); refine blk_put (cs := #[.int .i64 a0, .int .i64 a1, .int .i64 a2, .slice none 0 0]) ?_ 3 _ rfl; (with_reducible repeat first | apply bd | apply be | apply ba); refine blk_put (cs := #[.int .i64 a0, .int .i64 a1, .int .i64 0, .slice none 0 0]) ?_ 2 _ rfl; (with_reducible repeat first | apply bd | apply be | apply ba); refine blk_put (cs := #[.int .i64 a0, .int .i64 0, .int .i64 0, .slice none 0 0]) ?_ 1 _ rfl; (with_reducible repeat first | apply bd | apply be | apply ba); refine blk_put (cs := #[.int .i64 0, .int .i64 0, .int .i64 0, .slice none 0 0]) ?_ 0 _ rfl; (with_reducible repeat first | apply bd | apply be | apply ba); exact BK509.out) Tryz.underlying29 rfl kr) rfl ?_
    exact ⟨_, by first | rfl | (simp [eG, eO] <;> rfl) | (simp [*, eG, eO] <;> rfl), by (with_reducible repeat (first | apply Kd.R_alloc | apply Kd.R_drewN | apply Kd.R_drew)); exact Kd.R_mono (Kd.R_far (p := ⟨gb509, 3, none⟩) (Kd.R_far (p := ⟨gb509, 2, none⟩) (Kd.R_far (p := ⟨gb509, 1, none⟩) (Kd.R_far (p := ⟨gb509, 0, none⟩) (Kd.R_types HO_511003.out BK509.out (by decide)) (fun _ hk => hk.2) (.int .i64 a0)) (fun _ hk => hk.2) (.int .i64 a1)) (fun _ hk => hk.2) (.int .i64 a2)) (fun _ hk => hk.2) (.slice Ao39 x511003_1.length co39)) (fun _ hk => trivial), bl2 HB.out GE509.out GE510.out⟩
mutual
def bC.l0 : Nat → List Int → List Int → Bool → List (S31) → Int → Option ((List (S31)))
 |0, _, _, _, _, _ => none
 |k + 1, x0, x1, x2, x7, x8 => if (wrap64 (x8 + 1)) < (x0.length : Int) then (bC.l1 k x0 x1 x2 x7 x8 ([] : List Int) 0) else (some x7)
def bC.l1 : Nat → List Int → List Int → Bool → List (S31) → Int → List Int → Int → Option ((List (S31)))
 |0, _, _, _, _, _, _, _ => none
 |k + 1, x0, x1, x2, x7, x8, x9, x10 => if x10 < (x1.length : Int) then (if 0 ≤ x10 then (if x9.length < 35184372088832 then (bC.l1 k x0 x1 x2 x7 x8 (x9 ++ [((rd x1 x10) + ((((x8) % 4294967296) * 77) % 4294967296)) % 4294967296]) (wrap64 (x10 + 1))) else (none)) else (none)) else (if 0 ≤ (wrap64 (x8 + 1)) then (if (wrap64 (x8 + 1)) < (x0.length : Int) then (if 0 ≤ x8 then (if x8 < (x0.length : Int) then ((aH.f k (rd x0 (wrap64 (x8 + 1))) (rd x0 x8) 2 x9 x2).bind fun bt526 => ((aH.f k 1 (rd x0 (wrap64 (x8 + 1))) 2 x9 x2).bind fun bt533 => (if x7.length < 1466015503701 then (bC.l0 k x0 x1 x2 (x7 ++ [(⟨(⟨bt526.1, bt526.2.1, bt526.2.2.1, bt526.2.2.2⟩ : S29), (⟨bt533.1, bt533.2.1, bt533.2.2.1, bt533.2.2.2⟩ : S29)⟩ : S31)]) (wrap64 (x8 + 1))) else (none)))) else (none)) else (none)) else (none)) else (none))
end
def bC.f (k : Nat) (l0 l1 : List Int) (a2 : Bool) : Option ((List (S31))) := bC.l0 k l0 l1 a2 ([] : List (S31)) 0
def bC.T10 : Bool × List (List Nat × List Nat) := (true, [([], []), ([], []), ([], []), ([2], [2]), ([1, 3], [1, 3]), ([4], [4]), ([], []), ([], []), ([6, 7], [6, 7]), ([8], [8]), ([], []), ([], []), ([5, 9, 10, 11], [5, 9, 10, 11]), ([], []), ([], []), ([14], [14]), ([13, 15], [13, 15]), ([16], [16]), ([], []), ([], []), ([17, 18, 19, 12], [17, 18, 19]), ([12, 20], [12, 20]), ([21], [21]), ([0, 22, 20], [0, 22]), ([23, 23, 0, 1, 2, 3, 4, 5, 6, 7, 8, 9, 10, 11, 12, 13, 14, 15, 16, 17, 18, 19, 20, 21, 22, 23], [0, 23])])
def bC.B10 : List Nat := [0, 0, 0, 4, 14, 30, 0, 0, 192, 448, 0, 0, 4094, 0, 0, 16384, 57344, 122880, 0, 0, 1048574, 2097150, 4194302, 8388607, 16777215]
theorem bC.tab10 : rtab .any (opsOf Tryz.f8 10) = bC.T10 := by kernel_rfl
theorem bC.aBC : waitsOk bC.T10.2 bC.B10 = true := by kernel_rfl
theorem bC.calls (k : Nat) (A0 : Option Addr) (c0 : Nat) (l0 : List Int) (A1 : Option Addr) (c1 : Nat) (l1 : List Int) (a2 : Bool) (r : List (S31)) (w : World) (hr0 : Kd.C (Kd.int .i64) w A0 l0.length l0) (hc0 : l0.length ≤ c0) (hr1 : Kd.C (Kd.int .u32) w A1 l1.length l1) (hc1 : l1.length ≤ c1) (h : bC.f k l0 l1 a2 = some r) :
  Calls Tryz.prog 8 #[.slice A0 l0.length c0, .slice A1 l1.length c1, .bool a2] w fun e w' => ∃ v0_ : Value, e = .returned (v0_) ∧ Kd.S k31 31 w' w.heap.size (fun _ => True) v0_ r ∧ Below w.heap.size w w' := by
 have hu31 := Tryz.underlying31
 have HR0 := Aside0.mk hr0
 have HC0 := Aside0.mk hc0
 clear hr0 hc0
 have HR1 := Aside0.mk hr1
 have HC1 := Aside0.mk hc1
 clear hr1 hc1
 have HB := Aside0.mk (Below.refl w.heap.size w)
 have H : (bC.l0 k l0 l1 a2 ([] : List (S31)) 0) = some r := h
 clear h
 have H' := Aside0.mk H
 clear H
 go_enter Tryz.func8, Tryz.ntmps8
 go_wp2
 go_loopg [7, 8] k (fun kq v7 v8 w' => ∃ (x7_1 : List (S31)) (x8_1 : Int), v8 = .int .i64 x8_1 ∧ Aside0 (bC.l0 kq l0 l1 a2 x7_1 x8_1 = some r) ∧ Aside0 (kq ≤ k) ∧ Aside0 (Kd.S k31 31 w' w.heap.size (fun _ => True) v7 x7_1) ∧ Aside0 (Below w.heap.size w w'))
 case atStart => exact ⟨(([] : List (S31))), (0), (gr_), H', ⟨Nat.le_refl _⟩, ⟨by first | exact Kd.S_nil _ _ _ _ _ | exact Kd.N_nil _ _ _ _ _ | exact Kd.V_nil _ _ _ _ _ | exact Kd.Q_nil _ _ _ _ _ | exact Kd.R_nil _ _ _ _ _⟩, ⟨bl0 HB.out⟩⟩
 case round =>
  clear H'
  try clear c1 p2
  obtain ⟨x7_1, x8_1, rfl, HA, HK1, HO_7, HB⟩ := hrel
  cases gk with
  |zero => exact absurd HA.out (by simp [bC.l0])
  |succ k1 =>
   have H := HA.out
   clear HA
   simp only [bC.l0] at H
   by_cases c4 : (wrap64 (x8_1 + 1)) < (l0.length : Int)
   ·rw [if_pos c4] at H
    have c4b0 : decide ((wrap64 (x8_1 + 1)) < (l0.length : Int)) = true := decide_eq_true c4
    clear c4
    have H' := Aside0.mk H
    clear H
    go_wp2
    go_loopg [9, 10] k1 (fun kq v9 v10 w' => ∃ (x9_2 : List Int) (x10_2 : Int), v10 = .int .i64 x10_2 ∧ Aside0 (bC.l1 kq l0 l1 a2 x7_1 x8_1 x9_2 x10_2 = some r) ∧ Aside0 (kq ≤ k1) ∧ Aside0 (Kd.S k31 31 w' w.heap.size (fun k_ => some k_ ≠ (v9 : Value).ownBlock) u7 x7_1) ∧ Aside0 (Kd.R (Kd.int .u32) 27 w' w.heap.size (fun _ => True) v9 x9_2) ∧ Aside0 (Below w.heap.size w w'))
    case atStart => exact ⟨(([] : List Int)), (0), (gr_), H', ⟨Nat.le_refl _⟩, ⟨by (with_reducible repeat (first | apply Kd.S_alloc | apply Kd.S_drewN | apply Kd.S_drew)); exact Kd.S_mono HO_7.out (fun _ hk => (by simp [Value.ownBlock]))⟩, ⟨by first | exact Kd.R_nil _ _ _ _ _ | exact Kd.N_nil _ _ _ _ _ | exact Kd.V_nil _ _ _ _ _ | exact Kd.Q_nil _ _ _ _ _ | exact Kd.S_nil _ _ _ _ _⟩, ⟨bl0 HB.out⟩⟩
    case round =>
     clear H'
     try clear c1 p2 c4 c4b0 p2
     obtain ⟨x9_2, x10_2, rfl, HA, HK2, HO_7, HO_9, HB⟩ := hrel
     cases gk with
     |zero => exact absurd HA.out (by simp [bC.l1])
     |succ k2 =>
      have H := HA.out
      clear HA
      simp only [bC.l1] at H
      by_cases c5 : x10_2 < (l1.length : Int)
      ·rw [if_pos c5] at H
       have c5b0 : decide (x10_2 < (l1.length : Int)) = true := decide_eq_true c5
       clear c5
       by_cases c6 : 0 ≤ x10_2
       ·rw [if_pos c6] at H
        have c6b0 : decide (0 ≤ x10_2) = true := decide_eq_true c6
        clear c6
        obtain ⟨ji7, hji7⟩ : ∃ j_ : Int, ((((x8_1) % 4294967296) * 77) % 4294967296) = j_ := ⟨_, rfl⟩
        replace H : (if x9_2.length < 35184372088832 then (bC.l1 k2 l0 l1 a2 x7_1 x8_1 (x9_2 ++ [((rd l1 x10_2) + (ji7)) % 4294967296]) (wrap64 (x10_2 + 1))) else (none)) = some r := by first | (rw [hji7] at H; exact H) | (simp only [hji7] at H ⊢; exact H)
        have hji7l : 0 ≤ ji7 := by rw [← hji7]; exact Int.emod_nonneg _ (by decide)
        have hji7h : ji7 ≤ 4294967295 := by have := Int.emod_lt_of_pos ((((x8_1) % 4294967296) * 77)) (show (0 : Int) < 4294967296 by decide); omega
        have hji7w : (IntKind.u32.wrap (((x8_1) % 4294967296) * 77)) = ji7 := (oG _).trans hji7
        (try (have hji7_ := hji7; simp only [Int.add_emod_emod, Int.emod_add_emod, Int.sub_emod_emod, Int.emod_sub_emod] at hji7_))
        obtain ⟨ji8, hji8⟩ : ∃ j_ : Int, (((rd l1 x10_2) + (ji7)) % 4294967296) = j_ := ⟨_, rfl⟩
        replace H : (if x9_2.length < 35184372088832 then (bC.l1 k2 l0 l1 a2 x7_1 x8_1 (x9_2 ++ [ji8]) (wrap64 (x10_2 + 1))) else (none)) = some r := by first | (rw [hji8] at H; exact H) | (simp only [hji8] at H ⊢; exact H)
        have hji8l : 0 ≤ ji8 := by rw [← hji8]; exact Int.emod_nonneg _ (by decide)
        have hji8h : ji8 ≤ 4294967295 := by have := Int.emod_lt_of_pos (((rd l1 x10_2) + (ji7))) (show (0 : Int) < 4294967296 by decide); omega
        have hji8w : (IntKind.u32.wrap ((rd l1 x10_2) + (ji7))) = ji8 := (oG _).trans hji8
        (try (have hji8_ := hji8; simp only [Int.add_emod_emod, Int.emod_add_emod, Int.sub_emod_emod, Int.emod_sub_emod] at hji8_))
        by_cases c9 : x9_2.length < 35184372088832
        ·rw [if_pos c9] at H
         have LMc9 := Aside0.mk c9
         clear c9
         obtain ⟨y521, hy521⟩ : ∃ y_ : List Int, y_ = (x9_2 ++ [ji8]) := ⟨_, rfl⟩
         replace H : (bC.l1 k2 l0 l1 a2 x7_1 x8_1 y521 (wrap64 (x10_2 + 1))) = some r := by first | (rw [hy521]; with_reducible exact H) | (have H2_ := (Option.bind_some _ _).symm.trans H; rw [hy521]; with_reducible exact H2_) | (have H2_ := (Option.bind_some _ _).symm.trans H; with_reducible exact H2_) | with_reducible exact H | (rw [hy521]; exact H) | exact H
         have Ny521 := Aside0.mk hy521
         clear hy521
         have H' := Aside0.mk H
         clear H
         have p520 : 0 ≤ (x10_2 : Int) := of_decide_eq_true (by first | (with_reducible assumption) | assumption)
         have q520 : x10_2 < (l1.length : Int) := of_decide_eq_true (by first | (with_reducible assumption) | assumption)
         obtain ⟨ad520, e520, hx520_0⟩ := Kd.at_int HR1.out x10_2 p520 q520
         cases e520
         replace hx520_0 := (HB.out.cell (World.block_lt_of_cell? w _ hx520_0)).trans hx520_0
         replace p520 := eq_true p520
         replace q520 := eq_true q520
         go_wp2_with (first | ((with_reducible refine gate_builtin (b := .append) (xs := #[.tmp 24, .tmp 33]) rfl ?_); at_builtin; refine Kd.R_append (Kd.int .u32) (w0 := w) w.heap.size rfl (.tmp 24) (.tmp 33) 22 27 (.int .u32 0) 4 rfl Tryz.underlying22 aBA rfl (by decide) (by omega) u9 x9_2 ji8 [.int .u32 ji8] (fun _ => True) (fun _ => False) rfl rfl ?aP (fun _ hk => hk.elim) ?aF ?aO ?aB ?aS ?aL ?_; (case aP => exact rfl); (case aB => exact (bl0 HB.out)); (case aF => exact (fun _ _ => trivial)); (case aO => exact (by (with_reducible repeat (first | apply Kd.R_alloc | apply Kd.R_drewN | apply Kd.R_drew)); exact HO_9.out)); (case aS => exact (below_size (bl0 HB.out))); (case aL => have := LMc9.out; omega); intro v522 w10 ho hb hg hat; rw [← Ny521.out] at ho; have n0_ := Aside0.mk (Kd.S_after (ok := (fun _ => True)) (by (with_reducible repeat (first | apply Kd.S_alloc | apply Kd.S_drewN | apply Kd.S_drew)); exact Kd.S_mono HO_7.out (fun _ hk => ⟨trivial, hk⟩)) hg hat); have n1_ := Aside0.mk (hb); have n2_ := Aside0.mk (ho); clear HO_7; clear HB; clear HO_9; have HO_7 := n0_; have HB := n1_; have HO523 := n2_; clear n0_ n1_ n2_; clear ho hb hg hat))
         (try subst hji8)
         (try subst hji7)
         go_roundg k2
         case measure => have := HK1.out; have := HK2.out; omega
         case rel => exact ⟨(y521), (wrap64 (x10_2 + 1)), (gr_), H', ⟨by have := HK1.out; have := HK2.out; omega⟩, ⟨by (with_reducible repeat (first | apply Kd.S_alloc | apply Kd.S_drewN | apply Kd.S_drew)); exact Kd.S_mono HO_7.out (fun _ hk => hk.2)⟩, ⟨by (with_reducible repeat (first | apply Kd.R_alloc | apply Kd.R_drewN | apply Kd.R_drew)); exact HO523.out⟩, ⟨bl0 HB.out⟩⟩
        ·rw [if_neg c9] at H
         exact absurd H (by simp)
       ·rw [if_neg c6] at H
        exact absurd H (by simp)
      ·rw [if_neg c5] at H
       have c5b0 : decide (x10_2 < (l1.length : Int)) = false := decide_eq_false c5
       clear c5
       obtain ⟨ji11, hji11⟩ : ∃ j_ : Int, (wrap64 (x8_1 + 1)) = j_ := ⟨_, rfl⟩
       replace H : (if 0 ≤ (ji11) then (if (ji11) < (l0.length : Int) then (if 0 ≤ x8_1 then (if x8_1 < (l0.length : Int) then ((aH.f k2 (rd l0 (ji11)) (rd l0 x8_1) 2 x9_2 a2).bind fun bt526 => ((aH.f k2 1 (rd l0 (ji11)) 2 x9_2 a2).bind fun bt533 => (if x7_1.length < 1466015503701 then (bC.l0 k2 l0 l1 a2 (x7_1 ++ [(⟨(⟨bt526.1, bt526.2.1, bt526.2.2.1, bt526.2.2.2⟩ : S29), (⟨bt533.1, bt533.2.1, bt533.2.2.1, bt533.2.2.2⟩ : S29)⟩ : S31)]) ji11) else (none)))) else (none)) else (none)) else (none)) else (none)) = some r := by first | (rw [hji11] at H; exact H) | (simp only [hji11] at H ⊢; exact H)
       (try rw [hji11] at c4b0)
       have hji11w : (IntKind.i64.wrap (x8_1 + 1)) = ji11 := (i64_w _).trans hji11
       by_cases c12 : 0 ≤ (ji11)
       ·rw [if_pos c12] at H
        have c12b0 : decide (0 ≤ (ji11)) = true := decide_eq_true c12
        clear c12
        by_cases c13 : (ji11) < (l0.length : Int)
        ·rw [if_pos c13] at H
         have c13b0 : decide ((ji11) < (l0.length : Int)) = true := decide_eq_true c13
         clear c13
         by_cases c14 : 0 ≤ x8_1
         ·rw [if_pos c14] at H
          have c14b0 : decide (0 ≤ x8_1) = true := decide_eq_true c14
          clear c14
          by_cases c15 : x8_1 < (l0.length : Int)
          ·rw [if_pos c15] at H
           have c15b0 : decide (x8_1 < (l0.length : Int)) = true := decide_eq_true c15
           clear c15
           replace H := bq_ H
           obtain ⟨⟨t526, t527, t528, t529⟩, A160, H⟩ := H
           replace H : ((aH.f k2 1 (rd l0 (ji11)) 2 x9_2 a2).bind fun bt533 => (if x7_1.length < 1466015503701 then (bC.l0 k2 l0 l1 a2 (x7_1 ++ [(⟨(⟨t526, t527, t528, t529⟩ : S29), (⟨bt533.1, bt533.2.1, bt533.2.2.1, bt533.2.2.2⟩ : S29)⟩ : S31)]) ji11) else (none))) = some r := H
           have A16 := Aside0.mk A160
           clear A160
           replace H := bq_ H
           obtain ⟨⟨t533, t534, t535, t536⟩, A170, H⟩ := H
           replace H : (if x7_1.length < 1466015503701 then (bC.l0 k2 l0 l1 a2 (x7_1 ++ [(⟨(⟨t526, t527, t528, t529⟩ : S29), (⟨t533, t534, t535, t536⟩ : S29)⟩ : S31)]) ji11) else (none)) = some r := H
           have A17 := Aside0.mk A170
           clear A170
           by_cases c18 : x7_1.length < 1466015503701
           ·rw [if_pos c18] at H
            have LMc18 := Aside0.mk c18
            clear c18
            obtain ⟨y539, hy539⟩ : ∃ y_ : List (S31), y_ = (x7_1 ++ [(⟨(⟨t526, t527, t528, t529⟩ : S29), (⟨t533, t534, t535, t536⟩ : S29)⟩ : S31)]) := ⟨_, rfl⟩
            replace H : (bC.l0 k2 l0 l1 a2 y539 ji11) = some r := by first | (rw [hy539]; with_reducible exact H) | (have H2_ := (Option.bind_some _ _).symm.trans H; rw [hy539]; with_reducible exact H2_) | (have H2_ := (Option.bind_some _ _).symm.trans H; with_reducible exact H2_) | with_reducible exact H | (rw [hy539]; exact H) | exact H
            have Ny539 := Aside0.mk hy539
            clear hy539
            have H' := Aside0.mk H
            clear H
            try go_wp2
            have n0_ := Aside0.mk (Kd.S_drew HO_7.out)
            have n1_ := Aside0.mk (Kd.R_drew HO_9.out)
            have n2_ := Aside0.mk (below_drew1 HB.out)
            clear HO_7
            clear HO_9
            clear HB
            have HO_7 := n0_
            have HO_9 := n1_
            have HB := n2_
            clear n0_ n1_ n2_
            have p524 : 0 ≤ ((ji11) : Int) := of_decide_eq_true (by first | (with_reducible assumption) | assumption)
            have q524 : (ji11) < (l0.length : Int) := of_decide_eq_true (by first | (with_reducible assumption) | assumption)
            obtain ⟨ad524, e524, hx524_0⟩ := Kd.at_int HR0.out (ji11) p524 q524
            have hw524_0 := hx524_0
            cases e524
            replace hx524_0 := (HB.out.cell (World.block_lt_of_cell? w _ hx524_0)).trans hx524_0
            replace p524 := eq_true p524
            replace q524 := eq_true q524
            have p525 : 0 ≤ (x8_1 : Int) := of_decide_eq_true (by first | (with_reducible assumption) | assumption)
            have q525 : x8_1 < (l0.length : Int) := of_decide_eq_true (by first | (with_reducible assumption) | assumption)
            obtain ⟨ad525, e525, hx525_0⟩ := Kd.at_int HR0.out x8_1 p525 q525
            have hw525_0 := hx525_0
            obtain rfl : ad524 = ad525 := (by injection e525)
            replace hx525_0 := (HB.out.cell (World.block_lt_of_cell? w _ hx525_0)).trans hx525_0
            replace p525 := eq_true p525
            replace q525 := eq_true q525
            have p532 : 0 ≤ ((ji11) : Int) := of_decide_eq_true (by first | (with_reducible assumption) | assumption)
            have q532 : (ji11) < (l0.length : Int) := of_decide_eq_true (by first | (with_reducible assumption) | assumption)
            obtain ⟨ad532, e532, hx532_0⟩ := Kd.at_int HR0.out (ji11) p532 q532
            have hw532_0 := hx532_0
            obtain rfl : ad524 = ad532 := (by injection e532)
            replace hx532_0 := (HB.out.cell (World.block_lt_of_cell? w _ hx532_0)).trans hx532_0
            replace p532 := eq_true p532
            replace q532 := eq_true q532
            obtain ⟨Ao20, co20, eo20⟩ := Kd.R_slice HO_9.out
            (first | subst eo20 | (injection eo20 with f1_ f2_ f3_; have f4_ := f1_.symm; have f5_ := f3_.symm; clear f1_ f2_ f3_; subst f4_; subst f5_))
            refine start_ (n := 25) (S := fun w' => w'.cell? (ad524.add ((ji11)).toNat) = some (.int .i64 (rd l0 (ji11))) ∧ w'.cell? (ad524.add (x8_1).toNat) = some (.int .i64 (rd l0 x8_1)) ∧ w'.cell? (ad524.add ((ji11)).toNat) = some (.int .i64 (rd l0 (ji11)))) (ds := []) (tf 0 25) kr rfl rfl ⟨((HB.out.cell (World.block_lt_of_cell? w _ hw524_0)).trans hw524_0), ((HB.out.cell (World.block_lt_of_cell? w _ hw525_0)).trans hw525_0), ((HB.out.cell (World.block_lt_of_cell? w _ hw532_0)).trans hw532_0)⟩ (fun hHeld => ?_); refine with_tabW bC.tab10 bC.aBC (fun HT_ HW_ => ?_)
            generalize wr.drew = w19 at HO_7 HO_9 HB hx524_0 hx525_0 hx532_0 hHeld ⊢
            refine pure_ (i := 0) (N := some 35) (v := ?_) (a' := ?_) (tf 1 24) rfl rfl (any_of HT_.out kr) (fun _ _ _ h => h) (Or.inl ⟨by rfl, ?_⟩) ?_ ?_
            rotate_left
            ·intro w'
             go_simp
             with_reducible rfl
            rotate_left
            ·simp only [Act.put, sb, sz, ss, i64_w, i32_w]
             rfl
            refine pure_ (i := 1) (N := some 36) (v := ?_) (a' := ?_) (tf 2 23) rfl rfl (any_of HT_.out kr) (fun _ _ _ h => h) (Or.inl ⟨by rfl, ?_⟩) ?_ ?_
            rotate_left
            ·intro w'
             go_simp
             with_reducible rfl
            rotate_left
            ·simp only [Act.put, sb, sz, ss, i64_w, i32_w]
             rfl
            refine pure_ (i := 2) (N := some 37) (v := ?_) (a' := ?_) (tf 3 22) rfl rfl (any_of HT_.out kr) (fun _ _ _ h => h) (Or.inl ⟨by rfl, ?_⟩) ?_ ?_
            rotate_left
            ·intro w'
             go_simp
             with_reducible rfl
            rotate_left
            ·simp only [Act.put, sb, sz, ss, i64_w, i32_w]
             rfl
            refine pure_ (i := 3) (N := some 38) (v := ?_) (a' := ?_) (tf 4 21) rfl rfl (any_of HT_.out kr) (fun _ _ _ h => h) (Or.inl ⟨by rfl, ?_⟩) ?_ ?_
            rotate_left
            ·intro w'
             go_simp
             with_reducible rfl
            rotate_left
            ·simp only [Act.put, sb, sz, ss, i64_w, i32_w]
             rfl
            refine pure_ (i := 4) (N := some 39) (v := ?_) (a' := ?_) (tf 5 20) rfl rfl (any_of HT_.out kr) (fun _ _ _ h => h) (Or.inl ⟨by rfl, ?_⟩) ?_ ?_
            rotate_left
            ·intro w'
             go_simp
             with_reducible rfl
            rotate_left
            ·simp only [Act.put, sb, sz, ss, i64_w, i32_w]
             rfl
            refine pure_ (i := 6) (N := some 41) (v := ?_) (a' := ?_) #[true, true, true, true, true, false, true, false, false, false, false, false, false, false, false, false, false, false, false, false, false, false, false, false, false] rfl rfl (any_of HT_.out kr) (fun _ _ _ h => h) (Or.inl ⟨by rfl, ?_⟩) ?_ ?_
            rotate_left
            ·intro w'
             go_simp
             with_reducible rfl
            rotate_left
            ·simp only [Act.put, sb, sz, ss, i64_w, i32_w]
             rfl
            refine pure_ (i := 7) (N := some 42) (v := ?_) (a' := ?_) #[true, true, true, true, true, false, true, true, false, false, false, false, false, false, false, false, false, false, false, false, false, false, false, false, false] rfl rfl (any_of HT_.out kr) (fun _ _ _ h => h) (Or.inl ⟨by rfl, ?_⟩) ?_ ?_
            rotate_left
            ·intro w'
             go_simp
             with_reducible rfl
            rotate_left
            ·simp only [Act.put, sb, sz, ss, i64_w, i32_w]
             rfl
            refine pure_ (i := 8) (N := some 43) (v := ?_) (a' := ?_) #[true, true, true, true, true, false, true, true, true, false, false, false, false, false, false, false, false, false, false, false, false, false, false, false, false] rfl rfl (any_of HT_.out kr) (fun _ _ _ h => h) (Or.inl ⟨by rfl, ?_⟩) ?_ ?_
            rotate_left
            ·intro w'
             go_simp
             with_reducible rfl
            rotate_left
            ·simp only [Act.put, sb, sz, ss, i64_w, i32_w]
             rfl
            refine pure_ (i := 10) (N := some 45) (v := ?_) (a' := ?_) #[true, true, true, true, true, false, true, true, true, false, true, false, false, false, false, false, false, false, false, false, false, false, false, false, false] rfl rfl (any_of HT_.out kr) (fun _ _ _ h => h) (Or.inl ⟨by rfl, ?_⟩) ?_ ?_
            rotate_left
            ·intro w'
             go_simp
             with_reducible rfl
            rotate_left
            ·simp only [Act.put, sb, sz, ss, i64_w, i32_w]
             rfl
            refine pure_ (i := 11) (N := some 46) (v := ?_) (a' := ?_) #[true, true, true, true, true, false, true, true, true, false, true, true, false, false, false, false, false, false, false, false, false, false, false, false, false] rfl rfl (any_of HT_.out kr) (fun _ _ _ h => h) (Or.inl ⟨by rfl, ?_⟩) ?_ ?_
            rotate_left
            ·intro w'
             go_simp
             with_reducible rfl
            rotate_left
            ·simp only [Act.put, sb, sz, ss, i64_w, i32_w]
             rfl
            refine pure_ (i := 13) (N := some 48) (v := ?_) (a' := ?_) #[true, true, true, true, true, false, true, true, true, false, true, true, false, true, false, false, false, false, false, false, false, false, false, false, false] rfl rfl (any_of HT_.out kr) (fun _ _ _ h => h) (Or.inl ⟨by rfl, ?_⟩) ?_ ?_
            rotate_left
            ·intro w'
             go_simp
             with_reducible rfl
            rotate_left
            ·simp only [Act.put, sb, sz, ss, i64_w, i32_w]
             rfl
            refine pure_ (i := 14) (N := some 49) (v := ?_) (a' := ?_) #[true, true, true, true, true, false, true, true, true, false, true, true, false, true, true, false, false, false, false, false, false, false, false, false, false] rfl rfl (any_of HT_.out kr) (fun _ _ _ h => h) (Or.inl ⟨by rfl, ?_⟩) ?_ ?_
            rotate_left
            ·intro w'
             go_simp
             with_reducible rfl
            rotate_left
            ·simp only [Act.put, sb, sz, ss, i64_w, i32_w]
             rfl
            refine pure_ (i := 15) (N := some 50) (v := ?_) (a' := ?_) #[true, true, true, true, true, false, true, true, true, false, true, true, false, true, true, true, false, false, false, false, false, false, false, false, false] rfl rfl (any_of HT_.out kr) (fun _ _ _ h => h) (Or.inl ⟨by rfl, ?_⟩) ?_ ?_
            rotate_left
            ·intro w'
             go_simp
             with_reducible rfl
            rotate_left
            ·simp only [Act.put, sb, sz, ss, i64_w, i32_w]
             rfl
            refine pure_ (i := 16) (N := some 51) (v := ?_) (a' := ?_) #[true, true, true, true, true, false, true, true, true, false, true, true, false, true, true, true, true, false, false, false, false, false, false, false, false] rfl rfl (any_of HT_.out kr) (fun _ _ _ h => h) (Or.inl ⟨by rfl, ?_⟩) ?_ ?_
            rotate_left
            ·intro w'
             go_simp
             with_reducible rfl
            rotate_left
            ·simp only [Act.put, sb, sz, ss, i64_w, i32_w]
             rfl
            refine pure_ (i := 18) (N := some 53) (v := ?_) (a' := ?_) #[true, true, true, true, true, false, true, true, true, false, true, true, false, true, true, true, true, false, true, false, false, false, false, false, false] rfl rfl (any_of HT_.out kr) (fun _ _ _ h => h) (Or.inl ⟨by rfl, ?_⟩) ?_ ?_
            rotate_left
            ·intro w'
             go_simp
             with_reducible rfl
            rotate_left
            ·simp only [Act.put, sb, sz, ss, i64_w, i32_w]
             rfl
            refine pure_ (i := 19) (N := some 54) (v := ?_) (a' := ?_) #[true, true, true, true, true, false, true, true, true, false, true, true, false, true, true, true, true, false, true, true, false, false, false, false, false] rfl rfl (any_of HT_.out kr) (fun _ _ _ h => h) (Or.inl ⟨by rfl, ?_⟩) ?_ ?_
            rotate_left
            ·intro w'
             go_simp
             with_reducible rfl
            rotate_left
            ·simp only [Act.put, sb, sz, ss, i64_w, i32_w]
             rfl
            refine take_ (i := 5) (N := some 40) (v := ?_) (a' := ?_) #[true, true, true, true, true, true, true, true, true, false, true, true, false, true, true, true, true, false, true, true, false, false, false, false, false] rfl rfl (take_ofW HT_.out HW_.out kr) (fun _ _ _ h => h) (Or.inl ⟨by rfl, ?_⟩) hHeld ?_ ?_
            rotate_left
            ·rintro w' ⟨s0, s1, s2⟩
             go_simp
             with_reducible rfl
            rotate_left
            ·simp only [Act.put, sb, sz, ss, i64_w, i32_w]
             rfl
            refine take_ (i := 9) (N := some 44) (v := ?_) (a' := ?_) #[true, true, true, true, true, true, true, true, true, true, true, true, false, true, true, true, true, false, true, true, false, false, false, false, false] rfl rfl (take_ofW HT_.out HW_.out kr) (fun _ _ _ h => h) (Or.inl ⟨by rfl, ?_⟩) hHeld ?_ ?_
            rotate_left
            ·rintro w' ⟨s0, s1, s2⟩
             go_simp
             with_reducible rfl
            rotate_left
            ·simp only [Act.put, sb, sz, ss, i64_w, i32_w]
             rfl
            refine take_ (i := 17) (N := some 52) (v := ?_) (a' := ?_) #[true, true, true, true, true, true, true, true, true, true, true, true, false, true, true, true, true, true, true, true, false, false, false, false, false] rfl rfl (take_ofW HT_.out HW_.out kr) (fun _ _ _ h => h) (Or.inl ⟨by rfl, ?_⟩) hHeld ?_ ?_
            rotate_left
            ·rintro w' ⟨s0, s1, s2⟩
             go_simp
             with_reducible rfl
            rotate_left
            ·simp only [Act.put, sb, sz, ss, i64_w, i32_w]
             rfl
            refine one_ (i := 12) (N := some 47) (tf 20 5) rfl rfl (one_of HT_.out kr) (by decide) (fun K hK => ?_)
            refine goes_ Tryz.func33 kr rfl #[.int .i64 (rd l0 (ji11)), .int .i64 (rd l0 x8_1), .int .i64 2, .slice Ao20 x9_2.length co20, .bool a2] (by rfl) rfl rfl (by (try simp only [List.map_toArray, List.map_cons, List.map_nil]); first | done | (simp only [hji11]; rfl) | rfl | (simp only [List.length_drop, List.length_take]; rfl)) ?_
            with_reducible refine (aH.calls k2 (rd l0 (ji11)) (rd l0 x8_1) 2 _ _ x9_2 a2 t526 t527 t528 t529 _ ?side1 ?side2 A16.out).mono ?_
            (case side1 => repeat (first | exact (Kd.R_reads' HO_9.out).2.2 | (with_reducible refine Kd.C_alloc ?_ _) | (with_reducible refine Kd.C_drewN ?_ _) | (with_reducible refine Kd.C_drew ?_)))
            (case side2 => exact (Kd.R_reads' HO_9.out).2.1)
            rintro e w21 ⟨v530, rfl, ho0, hb⟩
            refine ⟨_, rfl, ?_⟩
            have n0_ := Aside0.mk (Kd.S_elder' (by (with_reducible repeat (first | apply Kd.S_alloc | apply Kd.S_drewN | apply Kd.S_drew)); exact HO_7.out) (Kd.R_base ho0) hb)
            have n1_ := Aside0.mk (Kd.R_elder' (by (with_reducible repeat (first | apply Kd.R_alloc | apply Kd.R_drewN | apply Kd.R_drew)); exact HO_9.out) (Kd.R_base ho0) hb)
            have n2_ := Aside0.mk (Kd.R_lower (Kd.R_new' ho0 (Kd.R_lt (by (with_reducible repeat (first | apply Kd.R_alloc | apply Kd.R_drewN | apply Kd.R_drew)); exact HO_9.out))) (below_size (bl0 HB.out)))
            have n3_ := Aside0.mk (below_step (bl0 HB.out) hb)
            clear HO_7
            clear HO_9
            clear HB
            have HO_7 := n0_
            have HO_9 := n1_
            have HO531 := n2_
            have HB := n3_
            clear n0_ n1_ n2_ n3_
            (try clear hb)
            (try clear hb2)
            (try clear hk)
            (try clear hi)
            (try clear ho0)
            refine hK.out _ _ ⟨((HB.out.cell (World.block_lt_of_cell? w _ hw524_0)).trans hw524_0), ((HB.out.cell (World.block_lt_of_cell? w _ hw525_0)).trans hw525_0), ((HB.out.cell (World.block_lt_of_cell? w _ hw532_0)).trans hw532_0)⟩ (fun hHeld => ?_)
            clear hK K
            refine norm_ (a' := ?_) ?_ ?_
            rotate_left
            ·show Act.put _ (some 47) _ = _
             simp only [Act.put, sb, sz, ss, i64_w, i32_w]
             rfl
            refine one_ (i := 20) (N := some 55) (tf 21 4) rfl rfl (one_of HT_.out kr) (by decide) (fun K hK => ?_)
            refine goes_ Tryz.func33 kr rfl #[.int .i64 1, .int .i64 (rd l0 (ji11)), .int .i64 2, .slice Ao20 x9_2.length co20, .bool a2] (by rfl) rfl rfl (by (try simp only [List.map_toArray, List.map_cons, List.map_nil]); first | done | (simp only [hji11]; rfl) | rfl | (simp only [List.length_drop, List.length_take]; rfl)) ?_
            with_reducible refine (aH.calls k2 1 (rd l0 (ji11)) 2 _ _ x9_2 a2 t533 t534 t535 t536 _ ?side1 ?side2 A17.out).mono ?_
            (case side1 => repeat (first | exact (Kd.R_reads' HO_9.out).2.2 | (with_reducible refine Kd.C_alloc ?_ _) | (with_reducible refine Kd.C_drewN ?_ _) | (with_reducible refine Kd.C_drew ?_)))
            (case side2 => exact (Kd.R_reads' HO_9.out).2.1)
            rintro e w22 ⟨v537, rfl, ho0, hb⟩
            refine ⟨_, rfl, ?_⟩
            have n0_ := Aside0.mk (Kd.S_elder' (by (with_reducible repeat (first | apply Kd.S_alloc | apply Kd.S_drewN | apply Kd.S_drew)); exact HO_7.out) (Kd.R_base ho0) hb)
            have n1_ := Aside0.mk (Kd.R_elder' (by (with_reducible repeat (first | apply Kd.R_alloc | apply Kd.R_drewN | apply Kd.R_drew)); exact HO_9.out) (Kd.R_base ho0) hb)
            have n2_ := Aside0.mk (Kd.R_elder' (by (with_reducible repeat (first | apply Kd.R_alloc | apply Kd.R_drewN | apply Kd.R_drew)); exact HO531.out) (Kd.R_base ho0) hb)
            have n3_ := Aside0.mk (Kd.R_lower (Kd.R_new' (Kd.R_new' ho0 (Kd.R_lt (by (with_reducible repeat (first | apply Kd.R_alloc | apply Kd.R_drewN | apply Kd.R_drew)); exact HO_9.out))) (Kd.R_lt (by (with_reducible repeat (first | apply Kd.R_alloc | apply Kd.R_drewN | apply Kd.R_drew)); exact HO531.out))) (below_size (bl0 HB.out)))
            have n4_ := Aside0.mk (below_step (bl0 HB.out) hb)
            clear HO_7
            clear HO_9
            clear HO531
            clear HB
            have HO_7 := n0_
            have HO_9 := n1_
            have HO531 := n2_
            have HO538 := n3_
            have HB := n4_
            clear n0_ n1_ n2_ n3_ n4_
            (try clear hb)
            (try clear hb2)
            (try clear hk)
            (try clear hi)
            (try clear ho0)
            obtain ⟨Ao23, co23, eo23⟩ := Kd.R_slice HO538.out
            (first | subst eo23 | (injection eo23 with f1_ f2_ f3_; have f4_ := f1_.symm; have f5_ := f3_.symm; clear f1_ f2_ f3_; subst f4_; subst f5_))
            obtain ⟨Ao24, co24, eo24⟩ := Kd.R_slice HO531.out
            (first | subst eo24 | (injection eo24 with f1_ f2_ f3_; have f4_ := f1_.symm; have f5_ := f3_.symm; clear f1_ f2_ f3_; subst f4_; subst f5_))
            refine hK.out _ _ ⟨((HB.out.cell (World.block_lt_of_cell? w _ hw524_0)).trans hw524_0), ((HB.out.cell (World.block_lt_of_cell? w _ hw525_0)).trans hw525_0), ((HB.out.cell (World.block_lt_of_cell? w _ hw532_0)).trans hw532_0)⟩ (fun hHeld => ?_)
            clear hK K
            refine norm_ (a' := ?_) ?_ ?_
            rotate_left
            ·show Act.put _ (some 55) _ = _
             simp only [Act.put, sb, sz, ss, i64_w, i32_w]
             rfl
            refine pure_ (i := 21) (N := some 56) (v := ?_) (a' := ?_) (tf 22 3) rfl rfl (any_of HT_.out kr) (fun _ _ _ h => h) (Or.inl ⟨by rfl, ?_⟩) ?_ ?_
            rotate_left
            ·intro w'
             go_simp
             with_reducible rfl
            rotate_left
            ·simp only [Act.put, sb, sz, ss, i64_w, i32_w]
             rfl
            refine one_ (i := 22) (N := some 57) (tf 23 2) rfl rfl (one_of HT_.out kr) (by decide) (fun K hK => ?_)
            refine value_ (w1 := ?_) (v := ?_) (by rfl) rfl ?_ ?_
            rotate_left 2
            ·go_simp
             constructor
             ·rfl
             ·rfl
            refine hK.out _ _ ⟨(World.cell?_alloc_lt _ _ _ (World.block_lt_of_cell? _ _ (((HB.out.cell (World.block_lt_of_cell? w _ hw524_0)).trans hw524_0)))).trans (((HB.out.cell (World.block_lt_of_cell? w _ hw524_0)).trans hw524_0)), (World.cell?_alloc_lt _ _ _ (World.block_lt_of_cell? _ _ (((HB.out.cell (World.block_lt_of_cell? w _ hw525_0)).trans hw525_0)))).trans (((HB.out.cell (World.block_lt_of_cell? w _ hw525_0)).trans hw525_0)), (World.cell?_alloc_lt _ _ _ (World.block_lt_of_cell? _ _ (((HB.out.cell (World.block_lt_of_cell? w _ hw532_0)).trans hw532_0)))).trans (((HB.out.cell (World.block_lt_of_cell? w _ hw532_0)).trans hw532_0))⟩ (fun hHeld => ?_)
            clear hK K
            refine norm_ (a' := ?_) ?_ ?_
            rotate_left
            ·show Act.put _ (some 57) _ = _
             simp only [Act.put, sb, sz, ss, i64_w, i32_w]
             rfl
            refine one_ (i := 23) (N := some 58) (tf 24 1) rfl rfl (one_of HT_.out kr) (by decide) (fun K hK => ?_)
            refine Kd.S_append_step k31 (w0 := w) w.heap.size (by rfl) (.tmp 35) (.tmp 57) 24 31 (.agg #[(.int .i64 0), (.int .i64 0), (.int .i64 0), (.slice none 0 0), (.int .i64 0), (.int .i64 0), (.int .i64 0), (.slice none 0 0)]) 96 rfl Tryz.underlying24 info31 rfl (by decide) (by omega) u7 x7_1 (⟨(⟨t526, t527, t528, t529⟩ : S29), (⟨t533, t534, t535, t536⟩ : S29)⟩ : S31) [.int .i64 t526, .int .i64 t527, .int .i64 t528, .slice Ao24 t529.length co24, .int .i64 t533, .int .i64 t534, .int .i64 t535, .slice Ao23 t536.length co23] (fun k_ => some k_ ≠ (.slice Ao20 x9_2.length co20 : Value).ownBlock) (fun k_ => some k_ = (.slice Ao24 t529.length co24 : Value).ownBlock ∨ some k_ = (.slice Ao23 t536.length co23 : Value).ownBlock) rfl rfl ?aP (fun k_ hk_ => hk_.elim (fun h_ => ((Kd.R_mono (ok' := fun k_ => ((fun k_ => some k_ ≠ (.slice Ao20 x9_2.length co20 : Value).ownBlock)) k_ ∧ some k_ ≠ (u7 : Value).ownBlock) (Kd.R_apart' (HO531.out) (Kd.S_typed HO_7.out) (by decide)) (fun k_ hk => ⟨hk.1.1.2, hk.2⟩))).1 k_ h_.symm) (fun h_ => ((Kd.R_mono (ok' := fun k_ => ((fun k_ => some k_ ≠ (.slice Ao20 x9_2.length co20 : Value).ownBlock)) k_ ∧ some k_ ≠ (u7 : Value).ownBlock) (Kd.R_apart' (HO538.out) (Kd.S_typed HO_7.out) (by decide)) (fun k_ hk => ⟨hk.1.1.2, hk.2⟩))).1 k_ h_.symm)) ?aF ?aO ?aB ?aS ?aL ?_
            (case aP => exact k31_mkM _ _ _ (⟨(⟨t526, t527, t528, t529⟩ : S29), (⟨t533, t534, t535, t536⟩ : S29)⟩ : S31) (Kd.R_mono (Kd.R_tight rfl (Kd.R_mono (ok' := fun k_ => ((fun k_ => some k_ ≠ (.slice Ao20 x9_2.length co20 : Value).ownBlock)) k_ ∧ some k_ ≠ (u7 : Value).ownBlock) (Kd.R_apart' (HO531.out) (Kd.S_typed HO_7.out) (by decide)) (fun k_ hk => ⟨hk.1.1.2, hk.2⟩))) (fun _ h_ => Or.inl h_)) (Kd.R_mono (Kd.R_tight rfl (Kd.R_mono (ok' := fun k_ => ((fun k_ => some k_ ≠ (.slice Ao20 x9_2.length co20 : Value).ownBlock)) k_ ∧ some k_ ≠ (u7 : Value).ownBlock) (Kd.R_apart' (HO538.out) (Kd.S_typed HO_7.out) (by decide)) (fun k_ hk => ⟨hk.1.1.2, hk.2⟩))) (fun _ h_ => Or.inr (h_))))
            (case aB => exact (bl0 HB.out))
            (case aF => exact (fun k_ hk => Kd.fresh' (Kd.R_lt (by (with_reducible repeat (first | apply Kd.R_alloc | apply Kd.R_drewN | apply Kd.R_drew)); exact HO_9.out)) k_ hk))
            (case aO => exact (by (with_reducible repeat (first | apply Kd.S_alloc | apply Kd.S_drewN | apply Kd.S_drew)); exact Kd.S_mono HO_7.out (fun k_ hk => ⟨hk.1.1, fun e_ => e_.elim (fun h_ => hk.1.2 h_) (fun h_ => hk.2 h_)⟩)))
            (case aS => exact (below_size (bl0 HB.out)))
            (case aL => have := LMc18.out; omega)
            intro v540 w25 ho hb hg hat
            rw [← Ny539.out] at ho
            have n0_ := Aside0.mk (Kd.R_over' (by (with_reducible repeat (first | apply Kd.R_alloc | apply Kd.R_drewN | apply Kd.R_drew)); exact HO_9.out) (Kd.S_typed (by (with_reducible repeat (first | apply Kd.S_alloc | apply Kd.S_drewN | apply Kd.S_drew)); exact HO_7.out)) (by decide) hg)
            have n1_ := Aside0.mk (hb)
            have n2_ := Aside0.mk (ho)
            clear HO_9
            clear HB
            clear HO_7
            clear HO531
            clear HO538
            have HO_9 := n0_
            have HB := n1_
            have HO541 := n2_
            clear n0_ n1_ n2_
            clear ho hb hg hat
            refine hK.out _ _ ⟨((HB.out.cell (World.block_lt_of_cell? w _ hw524_0)).trans hw524_0), ((HB.out.cell (World.block_lt_of_cell? w _ hw525_0)).trans hw525_0), ((HB.out.cell (World.block_lt_of_cell? w _ hw532_0)).trans hw532_0)⟩ (fun hHeld => ?_)
            clear hK K
            refine norm_ (a' := ?_) ?_ ?_
            rotate_left
            ·show Act.put _ (some 58) _ = _
             simp only [Act.put, sb, sz, ss, i64_w, i32_w]
             rfl
            refine pure_ (i := 24) (N := some 7) (v := ?_) (a' := ?_) (tf 25 0) rfl rfl (any_of HT_.out kr) (fun _ _ _ h => h) (Or.inl ⟨by rfl, ?_⟩) ?_ ?_
            rotate_left
            ·intro w'
             go_simp
             with_reducible rfl
            rotate_left
            ·simp only [Act.put, sb, sz, ss, i64_w, i32_w]
             rfl
            refine done_ (done_of HT_.out kr) ?_
            try go_wp2
            go_roundg k2
            case measure => have := HK1.out; have := HK2.out; omega
            case rel => exact ⟨(y539), (ji11), (by first | rfl | (simp; done) | (simp only [← hji11] <;> (first | rfl | (simp; done))) | (simp [*]; done) | (congr 1; (try unfold wrap64); omega) | (congr 1; rw [IntKind.wrap_u64]; omega)), H', ⟨by have := HK1.out; have := HK2.out; omega⟩, ⟨by (with_reducible repeat (first | apply Kd.S_alloc | apply Kd.S_drewN | apply Kd.S_drew)); exact Kd.S_mono HO541.out (fun _ hk => trivial)⟩, ⟨bl0 HB.out⟩⟩
           ·rw [if_neg c18] at H
            exact absurd H (by simp)
          ·rw [if_neg c15] at H
           exact absurd H (by simp)
         ·rw [if_neg c14] at H
          exact absurd H (by simp)
        ·rw [if_neg c13] at H
         exact absurd H (by simp)
       ·rw [if_neg c12] at H
        exact absurd H (by simp)
   ·rw [if_neg c4] at H
    have c4b0 : decide ((wrap64 (x8_1 + 1)) < (l0.length : Int)) = false := decide_eq_false c4
    clear c4
    obtain rfl := Option.some.inj H
    go_wp2
    go_ret
    exact ⟨_, by first | rfl | (simp [eG, eO] <;> rfl) | (simp [*, eG, eO] <;> rfl), by (with_reducible repeat (first | apply Kd.S_alloc | apply Kd.S_drewN | apply Kd.S_drew)); exact HO_7.out, bl0 HB.out⟩
end P
end
end Go.Proofs.YtolpdiifmacdbaaGreat
