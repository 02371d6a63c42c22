import Derived.Test.YtolpdiifmacdbaaGreatQckParF
set_option linter.unusedVariables false
set_option linter.unusedSimpArgs false
set_option maxRecDepth 100000
set_option maxHeartbeats 8000000
namespace Go.Proofs.YtolpdiifmacdbaaGreat
noncomputable section
open Go.RowKit YtolpdiifmacdbaaGreatW.PrintWords YtolpdiifmacdbaaGreatW.PrintLast YtolpdiifmacdbaaGreatW.PrintMore
namespace Round
open P Num BitsF Fmt
end Round
namespace Pure
open P Num BitsF Fmt Round
theorem noughts (f mode : Int) (s t : Bool) : pV f mode (eQ f s) (eQ f t) = lY f mode s t ∧ sumX f mode (eQ f s) (eQ f t) = (false, false, false, false, false) := by
 obtain ⟨z1, z2, z3⟩ := sP f s
 obtain ⟨y1, y2, y3⟩ := sP f t
 have w1 := (kN f _ z1).2
 have w2 := (kN f _ y1).2
 have hr : (tV f (eQ f s) (eQ f t)).2.2 = (0, false) := by
  unfold tV kT; rw [w1, w2, if_pos rfl]
 unfold pV sumX fP gK
 rw [z1, y1, z2, y2, if_pos hr, if_pos hr]
 simp
end Pure
namespace MildN
open P Xe Num BitsF Fmt Round Go.Proofs.YtolpdiifmacdbaaGreat.Pure ParF
theorem f2 : fm 2 = 23 ∧ fe 2 = 8 ∧ gN 2 = 255 ∧ yS 2 = 127 := ⟨rfl, rfl, rfl, rfl⟩
def Mild (x : Nat) : Prop := x = 0 ∨ ∃ e r neg, 100 ≤ e ∧ e ≤ 150 ∧ r < 2 ^ fm 2 ∧ x = e * 2 ^ fm 2 + r + eQ 2 neg
theorem tv_form {k : Int} (hk : IntKind.u32.has k) : ∃ x : Nat, tv true k = (x : Int) ∧ x < 4294967296 ∧ Mild x := by
 obtain ⟨u, rfl⟩ : ∃ u : Nat, k = u := ⟨k.toNat, by have := hk.1; exact (Int.toNat_of_nonneg this).symm⟩
 have hu : (u : Int) ≤ 4294967295 := hk.2
 obtain ⟨m, neg, h1, h2⟩ := mild_f 2 u (by omega)
 have h3 := aCH hk
 rw [h1] at h3
 have h3 := (Option.some.inj h3).symm
 have hl := (tv_u true (u : Int)).2
 rw [h3] at hl
 refine ⟨m + eQ 2 neg, h3, by have : ((m + eQ 2 neg : Nat) : Int) ≤ 4294967295 := hl; omega, ?_⟩
 rcases h2 with ⟨rfl, rfl⟩ | ⟨a, b⟩
 ·left; rfl
 ·right
  obtain ⟨q1, q2, q3, q4⟩ := f2
  rw [q1, q4] at a b
  refine ⟨m / 2 ^ fm 2, m % 2 ^ fm 2, neg, ?_, ?_, Nat.mod_lt _ (Nat.two_pow_pos _), ?_⟩
  ·rw [q1]; omega
  ·rw [q1]; omega
  ·rw [Nat.div_add_mod']
theorem G_form (l : List Int) (i j : Nat) : ∃ x : Nat, G l true i j = (x : Int) ∧ x < 4294967296 ∧ Mild x := tv_form (tk_u _ _)
end MildN
namespace P
attribute [local go_sem] max2_int min2_int max_two min_two max_three min_three max_four min_four
def kL.f (k : Nat) (a0 a1 a2 : Int) : Option (Bool) := (aM.f k a0 a1 a2).bind fun bt435 => (some (decide (bt435.1 < 0)))
theorem kL.calls (k : Nat) (a0 a1 a2 : Int) (r : Bool) (w : World) (h : kL.f k a0 a1 a2 = some r) :
  Calls Tryz.prog 114 #[.int .i64 a0, .int .u32 a1, .int .u32 a2] w fun e w' => e = .returned (.bool r) ∧ Below w.heap.size w w' := by
 have HB := Aside0.mk (Below.refl w.heap.size w)
 have H : ((aM.f k a0 a1 a2).bind fun bt435 => (some (decide (bt435.1 < 0)))) = some r := h
 clear h
 replace H := bq_ H
 obtain ⟨⟨t435, t436⟩, A40, H⟩ := H
 replace H : (some (decide (t435 < 0))) = some r := H
 have A4 := Aside0.mk A40
 clear A40
 obtain rfl := Option.some.inj H
 go_enter Tryz.func114, Tryz.ntmps114
 go_wp2_with (first | ((with_reducible refine gate_callee (f := 165) rfl ?_); refine goesL_ (some 13) rfl rfl Tryz.func165 kr rfl #[.int .i64 a0, .int .u32 a1, .int .u32 a2] rfl gl ?_; (with_reducible refine (aM.calls k a0 a1 a2 t435 t436 _ A4.out).mono ?_); rintro e w5 ⟨rfl, hb⟩; refine ⟨_, rfl, ?_⟩; have n0_ := Aside0.mk (below_step (bl0 HB.out) hb); clear HB; have HB := n0_; clear n0_))
 go_ret
 exact ⟨by first | rfl | (simp [eG, eO] <;> rfl) | (simp [*, eG, eO] <;> rfl), bl0 HB.out⟩
def kF.f (k : Nat) (a0 a1 : Int) : Option (Bool) := (kL.f k 2 a1 a0).bind fun t437 => (some t437)
theorem kF.calls (k : Nat) (a0 a1 : Int) (r : Bool) (w : World) (h : kF.f k a0 a1 = some r) :
  Calls Tryz.prog 67 #[.int .u32 a0, .int .u32 a1] w fun e w' => e = .returned (.bool r) ∧ Below w.heap.size w w' := by
 have HB := Aside0.mk (Below.refl w.heap.size w)
 have H : ((kL.f k 2 a1 a0).bind fun t437 => (some t437)) = some r := h
 clear h
 replace H := bq_ H
 obtain ⟨t437, A30, H⟩ := H
 replace H : (some t437) = some r := H
 have A3 := Aside0.mk A30
 clear A30
 obtain rfl := Option.some.inj H
 go_enter Tryz.func67, Tryz.ntmps67
 go_wp2_with (first | ((with_reducible refine gate_callee (f := 114) rfl ?_); refine goesL_ (some 7) rfl rfl Tryz.func114 kr rfl #[.int .i64 2, .int .u32 a1, .int .u32 a0] rfl gl ?_; (with_reducible refine (kL.calls k 2 a1 a0 t437 _ A3.out).mono ?_); rintro e w4 ⟨rfl, hb⟩; refine ⟨_, rfl, ?_⟩; have n0_ := Aside0.mk (below_step (bl0 HB.out) hb); clear HB; have HB := n0_; clear n0_))
 go_ret
 exact ⟨by first | rfl | (simp [eG, eO] <;> rfl) | (simp [*, eG, eO] <;> rfl), bl0 HB.out⟩
end P
namespace Round
open P Num BitsF Fmt
theorem pkey_f (f : Int) (v : Nat) (hv : v < 4294967296) : gI.f f (v : Int) = some (iI f (iH f v)) := by
 have hb := eP f
 have h31 := eZ (show fe f + fm f ≤ 31 by omega)
 have hm := mag_lt f v
 have hl := aCG f v
 have hn := rM f v
 have hmm : iH f v % 2 ^ (fe f + fm f) = vD f v := by
  rw [hl]
  have h2 := (lK f (vD f v) (dO f v) hm).2.1
  exact h2
 unfold gI.f iI
 rw [zT, Option.bind_some, sI f v hv, Option.bind_some, hn, hmm]
 cases h : dO f v
 ·rw [if_neg (by decide), if_neg (by decide), jR f v hv, hl, h, show eQ f false = 0 from rfl, Nat.add_zero, cZ _ (by omega) (by omega)]
 ·rw [if_pos rfl, if_pos rfl, turn_f f v hv, Option.bind_some]
  unfold turnN
  rw [h, show eQ f (!true) = 0 from rfl, Nat.add_zero, cZ ((vD f v : Nat) : Int) (by omega) (by omega), cZ _ (by omega) (by omega)]
theorem xS (f : Int) (v : Nat) (hv : v < 4294967296) : Ev (fun k => eB.f k f (v : Int)) (fC f v) := by
 refine Ev.congr (fun k => by unfold eB.f; rfl) (Ev.bind (oZ f v hv) (Ev.congr (fun k => ?_) (Ev.now _)))
 unfold fC
 congr 1
 exact decide_eq_decide.mpr (by omega)
theorem aAa (f : Int) (a b : Nat) (ha : a < 4294967296) (hb : b < 4294967296) : Ev (fun k => aM.f k f (a : Int) (b : Int)) (nT f a b) := by
 have j1 : ∀ z : Bool, Ev (fun k => aM.j1 k (iI f (iH f a)) (iI f (iH f b)) z) (if z = true then (0, true) else if iI f (iH f a) < iI f (iH f b) then (-1, true) else if iI f (iH f a) > iI f (iH f b) then (1, true) else (0, true)) := by
  intro z
  refine Ev.step (fun k => by rw [aM.j1]) (Ev.congr (fun k => ?_) (Ev.now _))
  repeat' split
  all_goals rfl
 have j0 : fC f a = false → fC f b = false → Ev (fun k => aM.j0 k f (a : Int) (b : Int) false) (nT f a b) := by
  intro na nb
  have e : nT f a b = if (decide (cO f a = 0) && decide (cO f b = 0)) = true then (0, true) else if iI f (iH f a) < iI f (iH f b) then (-1, true) else if iI f (iH f a) > iI f (iH f b) then (1, true) else (0, true) := by
   unfold nT
   rw [na, nb, if_neg (by decide)]
   simp only [Bool.and_eq_true, decide_eq_true_eq]
  rw [e]
  refine Ev.step (fun k => by rw [aM.j0, if_neg (by decide), pkey_f f a ha, Option.bind_some, pkey_f f b hb, Option.bind_some]) (Ev.bind (nL f a ha) ?_)
  cases hz : decide (cO f a = 0)
  ·exact Ev.congr (fun k => by rw [if_neg (by decide)]) (by rw [Bool.false_and]; exact j1 false)
  ·exact Ev.congr (fun k => by rw [if_pos rfl]) (Ev.bind (nL f b hb) (by rw [Bool.true_and]; exact j1 _))
 have jn : ∀ p q : Int, Ev (fun k => aM.j0 k f p q true) ((0 : Int), false) := fun p q => Ev.step (fun k => by rw [aM.j0, if_pos rfl]) (Ev.now _)
 refine Ev.congr (fun k => by unfold aM.f; rfl) (Ev.bind (xS f a ha) ?_)
 cases na : fC f a
 ·refine Ev.congr (fun k => by rw [if_neg (by decide)]) (Ev.bind (xS f b hb) ?_)
  cases nb : fC f b
  ·exact j0 na nb
  ·have e : nT f a b = (0, false) := by unfold nT; rw [na, nb, if_pos (by decide)]
   rw [e]; exact jn _ _
 ·have e : nT f a b = (0, false) := by unfold nT; rw [na, if_pos (by rw [Bool.true_or])]
  refine Ev.congr (fun k => by rw [if_pos rfl]) ?_
  rw [e]; exact jn _ _
def nW (a b : Nat) : Bool := decide ((nT 2 b a).1 < 0)
theorem aC8 (a b : Nat) (ha : a < 4294967296) (hb : b < 4294967296) : Ev (fun k => kF.f k (a : Int) (b : Int)) (nW a b) := by
 refine Ev.congr (fun k => by unfold kF.f; rfl) (Ev.bind (r := nW a b) ?_ (Ev.now _))
 refine Ev.congr (fun k => by unfold kL.f; rfl) (Ev.bind (aAa 2 b a hb ha) (Ev.now _))
theorem aDr (f : Int) (e r : Nat) (h : e < gN f) (hr : r < 2 ^ fm f) : e * 2 ^ fm f + r < vB f := by
 have := Nat.mul_le_mul_right (2 ^ fm f) (show e + 1 ≤ gN f from h)
 rw [Nat.add_mul] at this
 unfold vB; omega
theorem aA3 (f : Int) (neg : Bool) (e r : Nat) (h0 : 1 ≤ e) (h1 : e < gN f) (hr : r < 2 ^ fm f) :
  dO f (e * 2 ^ fm f + r + eQ f neg) = neg ∧ vD f (e * 2 ^ fm f + r + eQ f neg) = e * 2 ^ fm f + r ∧ e * 2 ^ fm f + r + eQ f neg < 2 ^ (fe f + fm f + 1) ∧ e * 2 ^ fm f + r + eQ f neg < 4294967296 ∧
  mE f (e * 2 ^ fm f + r + eQ f neg) = e ∧ jY f (e * 2 ^ fm f + r + eQ f neg) = r ∧ cO f (e * 2 ^ fm f + r + eQ f neg) = 2 ∧ bT f (e * 2 ^ fm f + r + eQ f neg) = r + 2 ^ fm f ∧
  bN f (e * 2 ^ fm f + r + eQ f neg) = dM f - fm f + ((e - 1 : Nat) : Int) := by
 have hl := aDr f e r h1 hr
 have hi := (wP f).1
 have hb := eP f
 have h32 := nK (show fe f + fm f + 1 ≤ 32 by omega)
 have hp := Nat.two_pow_pos (fm f)
 obtain ⟨p1, p2, p3⟩ := lK f (e * 2 ^ fm f + r) neg (by omega)
 obtain ⟨q1, q2⟩ := pY f (e * 2 ^ fm f + r + eQ f neg)
 rw [p2, Nat.mul_comm, Nat.mul_add_div hp, Nat.div_eq_of_lt hr, Nat.add_zero, Nat.mul_comm] at q1
 rw [p2, Nat.mul_comm, Nat.mul_add_mod, Nat.mod_eq_of_lt hr, Nat.mul_comm] at q2
 refine ⟨p1, p2, p3, by omega, q1.symm, q2.symm, ?_, ?_, ?_⟩
 ·unfold cO; rw [← q1, if_neg (by omega), if_pos h1]
 ·unfold bT; rw [← q1, ← q2, if_neg (by omega)]
 ·unfold bN; rw [← q1]
theorem wC (f mode : Int) (neg : Bool) (e e' r : Nat) (h0 : 1 ≤ e) (h1 : e < gN f) (h0' : 1 ≤ e') (h1' : e' < gN f) (hr : r < 2 ^ fm f) (n : Int) (hn : n = (e' : Int) - e) :
  lC f mode (e * 2 ^ fm f + r + eQ f neg) n = e' * 2 ^ fm f + r + eQ f neg ∧ aAC f mode (e * 2 ^ fm f + r + eQ f neg) n = (false, false, false, false, false) := by
 obtain ⟨p1, p2, p3, p4, p5, p6, p7, p8, p9⟩ := aA3 f neg e r h0 h1 hr
 have ht := gU f
 have hl := aDr f e' r h1' hr
 have hs : 2 ^ (fm f + 1) = 2 * 2 ^ fm f := by rw [Nat.pow_succ, Nat.mul_comm]
 have hk : (e' - 1) * 2 ^ fm f + (r + 2 ^ fm f) = e' * 2 ^ fm f + r := by
  have : e' * 2 ^ fm f = (e' - 1) * 2 ^ fm f + 2 ^ fm f := by rw [← Nat.succ_mul]; congr 1; omega
  omega
 obtain ⟨x1, x2⟩ := qW f mode neg (r + 2 ^ fm f) 0 (e' - 1) (by omega) (.inr (by omega)) (by unfold vB at hl; omega)
 rw [hk] at x1
 rw [Nat.pow_zero, Nat.mul_one, show dM f - (fm f : Int) + ((e' - 1 : Nat) : Int) - ((0 : Nat) : Int) = dM f - fm f + ((e - 1 : Nat) : Int) + mF n by rw [aB6 n (by omega) (by omega)]; omega] at x1 x2
 unfold lC aAC
 rw [p7, p1, p8, p9, if_neg (by decide), if_neg (by decide), if_neg (by decide), if_neg (by decide), x1, x2]
 exact ⟨rfl, rfl⟩
theorem aA9 (f : Int) : cO f 0 = 0 ∧ dO f 0 = false ∧ bT f 0 = 0 ∧ eQ f false = 0 := by
 refine ⟨?_, ?_, ?_, rfl⟩
 ·unfold cO mE jY; simp
 ·unfold dO; simp
 ·unfold bT mE jY; simp
theorem vO (f mode n : Int) : lC f mode 0 n = 0 := by
 obtain ⟨z1, z2, z3, z4⟩ := aA9 f
 unfold lC
 rw [z1, z2, z3, if_neg (by decide), if_neg (by decide), (uV _ _ _ _).1, z4]
end Round
namespace Xe
section
variable [Rho] {w0 : World} {A : Nat → Prop} {m : M} {h : Hp} {w : World}
end
section
variable [Rho] {P : Program} {H : vF}
end
end Xe
namespace P
attribute [local go_sem] max2_int min2_int max_two min_two max_three min_three max_four min_four
def kI.f (k : Nat) (a0 a1 : Int) : Option (Int) := (dV.f k 2 0 a0 a1).bind fun bt819 => (some bt819.1)
theorem kI.calls (k : Nat) (a0 a1 r : Int) (w : World) (h : kI.f k a0 a1 = some r) :
  Calls Tryz.prog 73 #[.int .u32 a0, .int .i64 a1] w fun e w' => e = .returned (.int .u32 r) ∧ Below w.heap.size w w' := by
 have hu62 := Tryz.underlying62
 have HB := Aside0.mk (Below.refl w.heap.size w)
 have H : ((dV.f k 2 0 a0 a1).bind fun bt819 => (some bt819.1)) = some r := h
 clear h
 replace H := bq_ H
 obtain ⟨⟨t819, t820, t821, t822, t823, t824⟩, A30, H⟩ := H
 replace H : (some t819) = some r := H
 have A3 := Aside0.mk A30
 clear A30
 obtain rfl := Option.some.inj H
 go_enter Tryz.func73, Tryz.ntmps73
 go_wp2_with (first | ((with_reducible refine gate_callee (f := 118) rfl ?_); refine goesL_ (some 10) rfl rfl Tryz.func118 kr rfl #[.int .i64 2, .int .i64 0, .int .u32 a0, .int .i64 a1] rfl gl ?_; (with_reducible refine (dV.calls k 2 0 a0 a1 t819 t820 t821 t822 t823 t824 _ A3.out).mono ?_); rintro e w4 ⟨rfl, hb⟩; refine ⟨_, rfl, ?_⟩; have n0_ := Aside0.mk (below_step (bl0 HB.out) hb); clear HB; have HB := n0_; clear n0_) | ((with_reducible refine gate_dst (N := 6) rfl ?_); refine box_event ?hg (N := 6) ?hd (cs := F5) (t := 62) ?hr ?_; (case hd => rfl); (case hg => rfl); (case hr => first | (go_simp; done) | (go_simp; rfl)); intro gb825 hg w5 hbox hb; have n0_ := Aside0.mk (below_step (bl0 HB.out) hb); have n1_ := Aside0.mk (hbox); have n2_ := Aside0.mk ((by rw [hg]; exact (below_size (bl0 HB.out)) : w.heap.size ≤ gb825)); have n3_ := n2_; clear HB; have HB := n0_; have BK825 := n1_; have GW825 := n2_; have GE825 := n3_; clear n0_ n1_ n2_ n3_; clear hb hbox hg; obtain ⟨hcz6_0, hcz6_1, hcz6_2, hcz6_3, hcz6_4⟩ := bc5 BK825.out; obtain ⟨hfz6_0, hfz6_1, hfz6_2, hfz6_3, hfz6_4⟩ := bf5 BK825.out))
 go_ret
 exact ⟨by first | rfl | (simp [eG, eO] <;> rfl) | (simp [*, eG, eO] <;> rfl), bl1 HB.out GE825.out⟩
end P
namespace ClipE
open P Xe Num BitsF Fmt Round Go.Proofs.YtolpdiifmacdbaaGreat.Pure MildN
theorem aCm (a : Nat) (n : Int) (ha : a < 4294967296) : Ev (fun k => kI.f k (a : Int) n) ((lC 2 0 a n : Nat) : Int) :=
 Ev.congr (fun k => by unfold kI.f; rfl) (Ev.bind (scale_ev 2 0 a n ha) (Ev.now _))
theorem wX (a : Nat) (n : Int) : lC 2 0 a n < 4294967296 := by
 unfold lC
 split
 ·exact nP 2
 ·split
  ·have := vQ 2 a
   have e : 2 ^ (fe 2 + fm 2 + 1) = 4294967296 := rfl
   omega
  ·exact uJ ..
theorem aBj {x : Nat} (h : Mild x) {k : Int} (h0 : 0 ≤ k) (h1 : k ≤ 19) : lC 2 0 (lC 2 0 x (-k)) k = x := by
 rcases h with rfl | ⟨e, r, neg, a1, a2, a3, rfl⟩
 ·rw [vO, vO]
 ·have t : gN 2 = 255 := rfl
  have n1 := (wC 2 0 neg e (e - k.toNat) r (by omega) (by omega) (by omega) (by omega) a3 (-k) (by omega)).1
  have n2 := (wC 2 0 neg (e - k.toNat) e r (by omega) (by omega) (by omega) (by omega) a3 k (by omega)).1
  rw [n1, n2]
theorem yJ {a b : Nat} (ha : a ≤ vB 2) (h : b ≤ a) : 0 ≤ (nT 2 a b).1 := by
 obtain ⟨i1, i2⟩ := wP 2
 have pa : iI 2 (iH 2 a) = (a : Int) := vU 2 a false (by omega)
 have pb : iI 2 (iH 2 b) = (b : Int) := vU 2 b false (by omega)
 unfold nT
 rw [pa, pb]
 split
 ·exact Int.le_refl _
 ·split
  ·exact Int.le_refl _
  ·rw [if_neg (by omega)]
   split
   ·decide
   ·exact Int.le_refl _
theorem aC2 (x : Int) (a : Nat) (more : Bool) : gB 2 0 false x a more ≤ vB 2 := by
 rw [pack_cap]
 have := (cap_le 2 0 false (pO 2 0 false x a more)).1
 have e : eQ 2 false = 0 := rfl
 omega
theorem double {s : Nat} (h : s ≤ vB 2) : 0 ≤ (nT 2 (pV 2 0 s s) s).1 := by
 obtain ⟨i1, i2⟩ := wP 2
 have s0 : eQ 2 false = 0 := rfl
 obtain ⟨p1, p2, p3⟩ := lK 2 s false (by omega)
 rw [s0, Nat.add_zero] at p1 p2 p3
 by_cases c : s = vB 2
 ·have hc : cO 2 s = 3 := aBU 2 s (by rw [p2]; exact c)
  have hs : pV 2 0 s s = s := by
   unfold pV
   rw [if_neg (show ¬ (4 ≤ cO 2 s ∨ 4 ≤ cO 2 s) by omega), if_neg (show ¬ (cO 2 s = 3 ∧ cO 2 s = 3 ∧ dO 2 s ≠ dO 2 s) from fun h => h.2.2 rfl), if_pos hc, p1, c]
   rfl
  rw [hs]
  exact yJ h (Nat.le_refl _)
 ·have hf : mE 2 s < gN 2 := (mag_exp 2 s).mpr (by rw [p2]; omega)
  have hfin : cO 2 s < 3 := (o7 2 s).mpr hf
  have hl : iH 2 s = s := low_id 2 s p3
  have hp := (zK 2 0 s (jQ (bT 2 s)) (by rw [hl]; exact hf)).1
  rw [hl, p1] at hp
  have hsum : s ≤ pV 2 0 s s ∧ pV 2 0 s s ≤ vB 2 := by
   unfold pV
   rw [if_neg (show ¬ (4 ≤ cO 2 s ∨ 4 ≤ cO 2 s) by omega), if_neg (show ¬ (cO 2 s = 3 ∧ cO 2 s = 3 ∧ dO 2 s ≠ dO 2 s) from fun h => h.2.2 rfl), if_neg (show ¬ cO 2 s = 3 by omega), if_neg (show ¬ cO 2 s = 3 by omega), p1]
   unfold tV kT
   rw [p1]
   by_cases w : bT 2 s = 0
   ·rw [if_pos w]
    unfold fP
    rw [if_pos (by rw [w])]
    rw [w, Nat.zero_mul] at hp
    have hp2 := (uV 2 0 false (bN 2 s - (jQ 0 : Int))).1
    rw [hp2, s0] at hp
    rw [← hp]
    exact ⟨Nat.zero_le _, Nat.zero_le _⟩
   ·rw [if_neg w, if_neg w, if_neg (by omega)]
    unfold iC fP
    rw [if_pos rfl, Int.sub_self, show (0 : Int).toNat = 0 from rfl, Nat.pow_zero, Nat.div_one, Nat.mod_one]
    have hpos : 0 < bT 2 s * 2 ^ jQ (bT 2 s) := Nat.mul_pos (Nat.pos_of_ne_zero w) (Nat.two_pow_pos _)
    rw [if_neg (fun e => by have := (Prod.mk.inj e).1; omega)]
    refine ⟨?_, aC2 _ _ _⟩
    have hm := aCd 2 0 false (bN 2 s - (jQ (bT 2 s) : Int)) (a := bT 2 s * 2 ^ jQ (bT 2 s)) (b := bT 2 s * 2 ^ jQ (bT 2 s) + bT 2 s * 2 ^ jQ (bT 2 s)) (more := false) (less := decide ((0 : Nat) ≠ 0)) (by omega) (fun h => by omega)
    rw [hp] at hm
    exact hm
  exact yJ hsum.2 hsum.1
theorem pK (a : Nat) : 0 ≤ (nT 2 (pV 2 0 (jP 2 0 a) (jP 2 0 a)) (jP 2 0 a)).1 := by
 have nan : ∀ x, 0 ≤ (nT 2 x (pU 2)).1 := fun x => by
  unfold nT
  rw [if_pos (by rw [show fC 2 (pU 2) = true from rfl, Bool.or_true])]
  exact Int.le_refl _
 unfold jP
 split
 ·exact nan _
 ·split
  ·cases dO 2 a
   ·exact double (s := eQ 2 false) (Nat.zero_le _)
   ·have e := (noughts 2 0 true true).1
    rw [e]
    obtain ⟨z1, _, _⟩ := sP 2 true
    have e2 : lY 2 0 true true = eQ 2 true := rfl
    rw [e2]
    unfold nT
    split
    ·exact Int.le_refl _
    ·rw [if_pos ⟨z1, z1⟩]
     exact Int.le_refl _
  ·split
   ·exact nan _
   ·split
    ·exact double (Nat.le_refl _)
    ·exact double (aC2 _ _ _)
theorem aBb (a : Nat) : nW (jP 2 0 a) (pV 2 0 (jP 2 0 a) (jP 2 0 a)) = false := by
 unfold nW
 exact decide_eq_false (by have := pK a; omega)
def cmpE (i j : Nat) : Fc := fun args h K => match args with
 |[.one (.i .i64 (.l (.ofNat f))), .one (.i .u32 a), .one (.i .u32 b)] => cnd (Nat.beq f 2) (K (.tup [.one (.i .i64 (.o .sub .i64 (.f i (.c a b)) (.l (.ofNat 1)))), .one (.b (.q (.f j (.c a b))))]) h) false
 |_ => false
theorem qQ (a b : Nat) : 0 ≤ (nT 2 a b).1 + 1 ∧ (nT 2 a b).1 + 1 ≤ 2 := by
 unfold nT
 split
 ·decide
 ·split
  ·decide
  ·split
   ·decide
   ·split <;> decide
theorem cmpE_ok [Rho] {P : Program} {f : Nat} {fn : Func} (hf : P.funcs[f]? = some fn) (hb : fn.body.isSome = true) (hn : (fn.name == "runtime.NumGoroutine") = false) {i j : Nat} {n : Int → Nat}
  (h1 : ∀ a b : U, (Rho.f i (.p a b)).int = (nT 2 (n a.int) (n b.int)).1 + 1) (h2 : ∀ a b : U, (Rho.f j (.p a b)).int = if (nT 2 (n a.int) (n b.int)).2 = true then 1 else 0)
  (hc : ∀ a b : Int, IntKind.u32.has a → IntKind.u32.has b → ∀ w, Calls P f #[.int .i64 2, .int .u32 a, .int .u32 b] w fun e w' => e = .returned (.tuple #[.int .i64 (nT 2 (n a) (n b)).1, .bool (nT 2 (n a) (n b)).2]) ∧ Below w.heap.size w w') : mK P f (cmpE i j) := by
 intro vs h K A m w w0 hrel hv hk
 refine ⟨⟨fn, hf, hb, hn⟩, ?_⟩
 unfold cmpE at hk
 split at hk
 ·next q a b =>
  obtain ⟨h3, hk⟩ := btf hk
  obtain rfl := Nat.eq_of_beq_eq_true h3
  have ha : IntKind.u32.has a.d := hv (.one (.i .u32 a)) (by simp)
  have hb2 : IntKind.u32.has b.d := hv (.one (.i .u32 b)) (by simp)
  refine (hc a.d b.d ha hb2 w).mono ?_
  rintro e w' ⟨rfl, hbl⟩
  have hr := qQ (n a.d) (n b.d)
  have e1 : (Tm.o .sub .i64 (.f i (.c a b)) (.l (.ofNat 1))).d = (nT 2 (n a.d) (n b.d)).1 := by
   show iW .i64 ((Rho.f i (.p a.u b.u)).int - 1) = _
   rw [h1]
   show wrap64 ((nT 2 (n a.d) (n b.d)).1 + 1 - 1) = _
   rw [show (nT 2 (n a.d) (n b.d)).1 + 1 - 1 = (nT 2 (n a.d) (n b.d)).1 by omega]
   exact cZ _ (by omega) (by omega)
  have e2 : (BE.q (.f j (.c a b))).d = (nT 2 (n a.d) (n b.d)).2 := by
   show (!((Rho.f j (.p a.u b.u)).int == 0)) = _
   rw [h2]
   show (!((if (nT 2 (n a.d) (n b.d)).2 = true then (1 : Int) else 0) == 0)) = _
   cases (nT 2 (n a.d) (n b.d)).2 <;> rfl
  refine ⟨_, A, m, h, hk, ?_, ?_, hrel.grow hbl, .refl _ _ _ _⟩
  ·show _ = Ending.returned (Value.tuple #[.int .i64 (Tm.o .sub .i64 (.f i (.c a b)) (.l (.ofNat 1))).d, .bool (BE.q (.f j (.c a b))).d])
   rw [e1, e2]
  ·intro u hu
   simp only [List.mem_cons, List.not_mem_nil, or_false] at hu
   rcases hu with rfl | rfl
   ·show IntKind.i64.has _
    exact pF .sub .i64 _ _
   ·trivial
 ·cases hk
end ClipE
namespace P
attribute [local go_sem] max2_int min2_int max_two min_two max_three min_three max_four min_four
def gY.f (k : Nat) (a0 : Int) : Option (Int) := (aV.f k 2 0 a0).bind fun bt722 => (some bt722.1)
theorem gY.calls (k : Nat) (a0 r : Int) (w : World) (h : gY.f k a0 = some r) :
  Calls Tryz.prog 11 #[.int .u32 a0] w fun e w' => e = .returned (.int .u32 r) ∧ Below w.heap.size w w' := by
 have hu62 := Tryz.underlying62
 have HB := Aside0.mk (Below.refl w.heap.size w)
 have H : ((aV.f k 2 0 a0).bind fun bt722 => (some bt722.1)) = some r := h
 clear h
 replace H := bq_ H
 obtain ⟨⟨t722, t723, t724, t725, t726, t727⟩, A20, H⟩ := H
 replace H : (some t722) = some r := H
 have A2 := Aside0.mk A20
 clear A20
 obtain rfl := Option.some.inj H
 go_enter Tryz.func11, Tryz.ntmps11
 go_wp2_with (first | ((with_reducible refine gate_callee (f := 36) rfl ?_); refine goesL_ (some 7) rfl rfl Tryz.func36 kr rfl #[.int .i64 2, .int .i64 0, .int .u32 a0] rfl gl ?_; (with_reducible refine (aV.calls k 2 0 a0 t722 t723 t724 t725 t726 t727 _ A2.out).mono ?_); rintro e w3 ⟨rfl, hb⟩; refine ⟨_, rfl, ?_⟩; have n0_ := Aside0.mk (below_step (bl0 HB.out) hb); clear HB; have HB := n0_; clear n0_) | ((with_reducible refine gate_dst (N := 4) rfl ?_); refine box_event ?hg (N := 4) ?hd (cs := F5) (t := 62) ?hr ?_; (case hd => rfl); (case hg => rfl); (case hr => first | (go_simp; done) | (go_simp; rfl)); intro gb728 hg w4 hbox hb; have n0_ := Aside0.mk (below_step (bl0 HB.out) hb); have n1_ := Aside0.mk (hbox); have n2_ := Aside0.mk ((by rw [hg]; exact (below_size (bl0 HB.out)) : w.heap.size ≤ gb728)); have n3_ := n2_; clear HB; have HB := n0_; have BK728 := n1_; have GW728 := n2_; have GE728 := n3_; clear n0_ n1_ n2_ n3_; clear hb hbox hg; obtain ⟨hcz5_0, hcz5_1, hcz5_2, hcz5_3, hcz5_4⟩ := bc5 BK728.out; obtain ⟨hfz5_0, hfz5_1, hfz5_2, hfz5_3, hfz5_4⟩ := bf5 BK728.out))
 go_ret
 exact ⟨by first | rfl | (simp [eG, eO] <;> rfl) | (simp [*, eG, eO] <;> rfl), bl1 HB.out GE728.out⟩
end P
namespace XwCk
open P Xe Num BitsF Fmt Round
theorem fsqrt_ev (a : Nat) (ha : a < 4294967296) : Ev (fun k => lL.f k (a : Int)) ((jP 2 0 a : Nat) : Int) :=
  Ev.congr (fun k => by unfold lL.f; rfl) (Ev.bind (sqrt_ev 2 0 a ha) (Ev.now _))
theorem aA0 (a : Nat) (ha : a < 4294967296) : Ev (fun k => gY.f k (a : Int)) ((jP 2 0 a : Nat) : Int) :=
  Ev.congr (fun k => by unfold gY.f; rfl) (Ev.bind (zQ 2 0 a ha) (Ev.now _))
theorem yK (a : Nat) : jP 2 0 a < 4294967296 := by
  unfold jP
  split
  · exact nP 2
  · split
    · exact zH 2 _
    · split
      · exact nP 2
      · split
        · exact (inf_all 2 false).2.2
        · unfold aBT; exact uJ ..
def n32 (x : Int) : Nat := (IntKind.u32.wrap x).toNat
theorem jF {x : Int} (h : IntKind.u32.has x) : ((n32 x : Nat) : Int) = x := by
  have := kS h
  unfold n32
  rw [this]
  exact Int.toNat_of_nonneg h.1
theorem mP (x : Int) : n32 x < 4294967296 := by
  have h : IntKind.u32.has (IntKind.u32.wrap x) := nI .u32 x
  have h1 : (0 : Int) ≤ IntKind.u32.wrap x := h.1
  have h2 : IntKind.u32.wrap x ≤ 4294967295 := h.2
  unfold n32
  omega
theorem mO {x : Nat} (h : x < 4294967296) : IntKind.u32.has (x : Int) := by
  show (0 : Int) ≤ x ∧ (x : Int) ≤ 4294967295
  omega
theorem qY {x : Nat} (h : x < 4294967296) : n32 (x : Int) = x := Int.ofNat.inj (jF (mO h))
def F (i : Nat) (u : U) : U := match i, u with
  | 0, .p a (.p b c) => .n ((uK 2 0 (n32 a.int) (n32 b.int) (n32 c.int) : Nat) : Int)
  | 1, .p a b => .n ((mulN 2 0 (n32 a.int) (n32 b.int) : Nat) : Int)
  | 3, .p a b => .n ((divN 2 0 (n32 a.int) (n32 b.int) : Nat) : Int)
  | 4, .p a b => .n ((pV 2 0 (n32 a.int) (n32 b.int) : Nat) : Int)
  | 5, a => .n ((jP 2 0 (n32 a.int) : Nat) : Int)
  | 20, .p l (.p m (.p i j)) => .n (ParF.G l.lst (!(m.int == 0)) i.int.toNat j.int.toNat)
  | 10, .p a b => .n ((lC 2 0 (n32 a.int) b.int : Nat) : Int)
  | 11, .p a b => .n (if nW (n32 a.int) (n32 b.int) = true then 1 else 0)
  | 12, .p a b => .n ((nT 2 (n32 a.int) (n32 b.int)).1 + 1)
  | 13, .p a b => .n (if (nT 2 (n32 a.int) (n32 b.int)).2 = true then 1 else 0)
  | _, _ => .n 0
theorem F_range (i : Nat) (u : U) : 0 ≤ (F i u).int ∧ (F i u).int ≤ 4294967295 := by
  have ok : ∀ n : Nat, n < 4294967296 → (0 : Int) ≤ (n : Int) ∧ (n : Int) ≤ 4294967295 := fun n h => by omega
  unfold F
  split
  · exact ok _ (aBX ..)
  · exact ok _ (mul_32 ..)
  · exact ok _ (div_32 ..)
  · exact ok _ (yF ..)
  · exact ok _ (yK _)
  · exact ParF.tv_u _ _
  · exact ok _ (ClipE.wX ..)
  · exact (by show (0 : Int) ≤ (if _ then 1 else 0) ∧ (if _ then (1 : Int) else 0) ≤ 4294967295; split <;> decide)
  · exact ⟨(ClipE.qQ _ _).1, Int.le_trans (ClipE.qQ _ _).2 (by decide)⟩
  · exact (by show (0 : Int) ≤ (if _ then 1 else 0) ∧ (if _ then (1 : Int) else 0) ≤ 4294967295; split <;> decide)
  · exact ok 0 (by decide)
def frc (n : Nat) : Option Tm := match n with
  | 0 => some (.l (.ofNat 0))
  | m + 1 => some (.l (.ofNat (Nat.succ m)))
theorem aCv [Rho] {n : Nat} {t : Tm} (h : frc n = some t) : t.d = (n : Int) := by
  cases n with
  | zero => cases h; rfl
  | succ n => cases h; rfl
def cl (t : Tm) : Option Tm := match t with
  | .f 0 (.c (.l a) (.c (.l b) (.l c))) => frc (uK 2 0 (n32 a) (n32 b) (n32 c))
  | .f 1 (.c (.l a) (.l b)) => frc (mulN 2 0 (n32 a) (n32 b))
  | .f 3 (.c (.l a) (.l b)) => frc (divN 2 0 (n32 a) (n32 b))
  | .f 4 (.c (.l a) (.l b)) => frc (pV 2 0 (n32 a) (n32 b))
  | .f 5 (.l a) => frc (jP 2 0 (n32 a))
  | _ => none
theorem cl_v [r : Rho] (hr : ∀ i u, r.f i u = F i u) {t t' : Tm} (h : cl t = some t') : t'.d = t.d := by
  unfold cl at h
  split at h
  · next a b c => rw [aCv h]; show _ = (r.f 0 _).int; rw [hr]; rfl
  · next a b => rw [aCv h]; show _ = (r.f 1 _).int; rw [hr]; rfl
  · next a b => rw [aCv h]; show _ = (r.f 3 _).int; rw [hr]; rfl
  · next a b => rw [aCv h]; show _ = (r.f 4 _).int; rw [hr]; rfl
  · next a => rw [aCv h]; show _ = (r.f 5 _).int; rw [hr]; rfl
  · cases h
def simpU (t : Tm) : Option Tm := match t with
  | .f 10 (.c (.f 10 (.c (.f 20 (.c l (.c (.l (.ofNat 1)) (.c i j)))) (.o .neg .i64 (.o .rem .u8 (.v 2) (.l (.ofNat 20))) (.l (.ofNat 0))))) (.o .neg .i64 (.o .neg .i64 (.o .rem .u8 (.v 2) (.l (.ofNat 20))) (.l (.ofNat 0))) (.l (.ofNat 0)))) => some (.f 20 (.c l (.c (.l (.ofNat 1)) (.c i j))))
  | .f 11 (.c (.l a) (.l b)) => cnd (nW (n32 a) (n32 b)) (some (.l (.ofNat 1))) (some (.l (.ofNat 0)))
  | .f 11 (.c (.f 5 x) (.f 4 (.c (.f 5 y) (.f 5 z)))) => cnd (x.beq y && x.beq z) (some (.l (.ofNat 0))) none
  | _ => none
def decU (_ : Facts) (b : BE) : Option Bool := match b with
  | .lt (.o .sub .i64 (.f 12 (.c (.f 4 (.c (.f 5 x) (.f 5 y))) (.f 5 z))) (.l (.ofNat 1))) (.l (.ofNat 0)) => cnd (x.beq y && x.beq z) (some false) none
  | .le (.l (.ofNat 0)) (.o .sub .i64 (.f 12 (.c (.f 4 (.c (.f 5 x) (.f 5 y))) (.f 5 z))) (.l (.ofNat 1))) => cnd (x.beq y && x.beq z) (some true) none
  | .eq (.o .neg .i64 (.o .rem .u8 (.v 2) (.l (.ofNat 20))) _) (.l n) => cnd (decide (n < -1000)) (some false) none
  | _ => none
def simpA (t : Tm) : Option Tm := match simpU t with
  | some u => some u
  | none => cl t
def hrv (i : Nat) : Int × Int := match i with
  | 0 => (0, 255)
  | 1 => (0, 0)
  | 2 => (0, 255)
  | _ => (0, 0)
def hcz (t : Tm) : Bool := match t with
  | .o .rem .u8 (.v 0) (.l 3) => true
  | _ => false
def l8 : vF := { s := simpA, d := decU, rv := hrv, rf := fun _ => (0, 4294967295), cz := hcz }
def en : Ents := [(8, parE 30 20 27 31), (9, op3 l8 0 .u32 .u32 .u32 .u32), (11, op1 l8 5 .u32 .u32), (28, op2 l8 4 .u32 .u32 .u32), (31, ClipE.cmpE 12 13), (40, op1 l8 5 .u32 .u32), (41, op2 l8 3 .u32 .u32 .u32), (47, op2 l8 1 .u32 .u32 .u32), (49, op2 l8 4 .u32 .u32 .u32), (67, ob2 l8 11 .u32 .u32), (73, op2 l8 10 .u32 .i64 .u32), (95, op3 l8 0 .u32 .u32 .u32 .u32)]
def fs : Fns := [(6, Tryz.f6), (10, Tryz.f10), (13, Tryz.f13), (18, Tryz.f18), (25, Tryz.f25), (26, Tryz.f26), (27, Tryz.f27), (29, Tryz.f29), (30, Tryz.f30), (35, Tryz.f35), (38, Tryz.f38), (57, Tryz.f57), (63, Tryz.f63), (64, Tryz.f64), (65, Tryz.f65), (66, Tryz.f66), (68, Tryz.f68), (69, Tryz.f69), (72, Tryz.f72), (74, Tryz.f74), (75, Tryz.f75), (76, Tryz.f76), (99, Tryz.f99), (115, Tryz.f115), (116, Tryz.f116), (117, Tryz.f117), (119, Tryz.f119), (120, Tryz.f120), (149, Tryz.f149)]
theorem fs_ok : fH Tryz.prog fs := fH.cons Tryz.func6 kr (fH.cons Tryz.func10 kr (fH.cons Tryz.func13 kr (fH.cons Tryz.func18 kr (fH.cons Tryz.func25 kr (fH.cons Tryz.func26 kr (fH.cons Tryz.func27 kr (fH.cons Tryz.func29 kr (fH.cons Tryz.func30 kr (fH.cons Tryz.func35 kr (fH.cons Tryz.func38 kr (fH.cons Tryz.func57 kr (fH.cons Tryz.func63 kr (fH.cons Tryz.func64 kr (fH.cons Tryz.func65 kr (fH.cons Tryz.func66 kr (fH.cons Tryz.func68 kr (fH.cons Tryz.func69 kr (fH.cons Tryz.func72 kr (fH.cons Tryz.func74 kr (fH.cons Tryz.func75 kr (fH.cons Tryz.func76 kr (fH.cons Tryz.func99 kr (fH.cons Tryz.func115 kr (fH.cons Tryz.func116 kr (fH.cons Tryz.func117 kr (fH.cons Tryz.func119 kr (fH.cons Tryz.func120 kr (fH.cons Tryz.func149 kr (fH.nil)))))))))))))))))))))))))))))
def fk : Fns := [(7, Tryz.f7), (10, Tryz.f10), (27, Tryz.f27), (32, Tryz.f32), (35, Tryz.f35), (67, Tryz.f67), (68, Tryz.f68), (69, Tryz.f69), (70, Tryz.f70), (80, Tryz.f80), (81, Tryz.f81), (82, Tryz.f82), (83, Tryz.f83), (99, Tryz.f99), (114, Tryz.f114), (115, Tryz.f115), (116, Tryz.f116), (117, Tryz.f117), (123, Tryz.f123), (124, Tryz.f124), (138, Tryz.f138), (146, Tryz.f146), (147, Tryz.f147), (149, Tryz.f149), (165, Tryz.f165), (174, Tryz.f174), (176, Tryz.f176), (177, Tryz.f177)]
theorem fk_ok : fH Tryz.prog fk := fH.cons Tryz.func7 kr (fH.cons Tryz.func10 kr (fH.cons Tryz.func27 kr (fH.cons Tryz.func32 kr (fH.cons Tryz.func35 kr (fH.cons Tryz.func67 kr (fH.cons Tryz.func68 kr (fH.cons Tryz.func69 kr (fH.cons Tryz.func70 kr (fH.cons Tryz.func80 kr (fH.cons Tryz.func81 kr (fH.cons Tryz.func82 kr (fH.cons Tryz.func83 kr (fH.cons Tryz.func99 kr (fH.cons Tryz.func114 kr (fH.cons Tryz.func115 kr (fH.cons Tryz.func116 kr (fH.cons Tryz.func117 kr (fH.cons Tryz.func123 kr (fH.cons Tryz.func124 kr (fH.cons Tryz.func138 kr (fH.cons Tryz.func146 kr (fH.cons Tryz.func147 kr (fH.cons Tryz.func149 kr (fH.cons Tryz.func165 kr (fH.cons Tryz.func174 kr (fH.cons Tryz.func176 kr (fH.cons Tryz.func177 kr (fH.nil))))))))))))))))))))))))))))
theorem aCC : evFn l8 Tryz.prog en fk 1000 40 7 [] ⟨.e, .e, 1, [], 0⟩ (Kt l8) = true := by kernel_rfl
def en1 : Ents := (7, yes0) :: en
def args : List PV := [.one (.i .u8 (.v 0)), .one (.u 0), .one (.i .u8 (.v 2))]
def st (pc : Facts) : Hp := ⟨.e, (.n .e (some (.ro .u32 (.v 1))) .e), 1, pc, 0⟩
theorem run0 : evFn l8 Tryz.prog en1 fs 1000 40 6 args (st [(BE.eq (.o .rem .u8 (.v 0) (.l 3)) (.l 0), true)]) (Kt l8) = true := by kernel_rfl
theorem run1 : evFn l8 Tryz.prog en1 fs 1000 40 6 args (st [(BE.eq (.o .rem .u8 (.v 0) (.l 3)) (.l 1), true)]) (Kt l8) = true := by kernel_rfl
theorem run2 : evFn l8 Tryz.prog en1 fs 1000 40 6 args (st [(BE.eq (.o .rem .u8 (.v 0) (.l 3)) (.l 2), true)]) (Kt l8) = true := by kernel_rfl
theorem ent95 [r : Rho] (hr : ∀ i u, r.f i u = F i u) (hH : l8.Ok) : mK Tryz.prog 95 (op3 l8 0 .u32 .u32 .u32 .u32) := by
  refine op3_ok hH Tryz.func95 kr kr (F := fun x y z => ((uK 2 0 (n32 x) (n32 y) (n32 z) : Nat) : Int)) (fun _ _ _ => by rw [hr]; rfl) (fun _ _ _ _ _ _ => mO (aBX ..)) fun x y z hx hy hz w => ?_
  obtain ⟨k, hk⟩ := (ffma_ev (n32 x) (n32 y) (n32 z) (mP x) (mP y) (mP z)).rounds
  rw [jF hx, jF hy, jF hz] at hk
  exact (mU.calls k x y z _ w hk).mono fun e w' he => he
theorem ent9 [r : Rho] (hr : ∀ i u, r.f i u = F i u) (hH : l8.Ok) : mK Tryz.prog 9 (op3 l8 0 .u32 .u32 .u32 .u32) := by
  refine op3_ok hH Tryz.func9 kr kr (F := fun x y z => ((uK 2 0 (n32 x) (n32 y) (n32 z) : Nat) : Int)) (fun _ _ _ => by rw [hr]; rfl) (fun _ _ _ _ _ _ => mO (aBX ..)) fun x y z hx hy hz w => ?_
  obtain ⟨k, hk⟩ := (aCF (n32 x) (n32 y) (n32 z) (mP x) (mP y) (mP z)).rounds
  rw [jF hx, jF hy, jF hz] at hk
  exact (iD.calls k x y z _ w hk).mono fun e w' he => he
theorem ent40 [r : Rho] (hr : ∀ i u, r.f i u = F i u) (hH : l8.Ok) : mK Tryz.prog 40 (op1 l8 5 .u32 .u32) := by
  refine op1_ok hH Tryz.func40 kr kr (F := fun x => ((jP 2 0 (n32 x) : Nat) : Int)) (fun _ => by rw [hr]; rfl) (fun _ _ => mO (yK _)) fun x hx w => ?_
  obtain ⟨k, hk⟩ := (fsqrt_ev (n32 x) (mP x)).rounds
  rw [jF hx] at hk
  exact (lL.calls k x _ w hk).mono fun e w' he => he
theorem ent11 [r : Rho] (hr : ∀ i u, r.f i u = F i u) (hH : l8.Ok) : mK Tryz.prog 11 (op1 l8 5 .u32 .u32) := by
  refine op1_ok hH Tryz.func11 kr kr (F := fun x => ((jP 2 0 (n32 x) : Nat) : Int)) (fun _ => by rw [hr]; rfl) (fun _ _ => mO (yK _)) fun x hx w => ?_
  obtain ⟨k, hk⟩ := (aA0 (n32 x) (mP x)).rounds
  rw [jF hx] at hk
  exact (gY.calls k x _ w hk).mono fun e w' he => he
theorem ent41 [r : Rho] (hr : ∀ i u, r.f i u = F i u) (hH : l8.Ok) : mK Tryz.prog 41 (op2 l8 3 .u32 .u32 .u32) := by
  refine yB hH Tryz.func41 kr kr (F := fun x y => ((divN 2 0 (n32 x) (n32 y) : Nat) : Int)) (fun _ _ => by rw [hr]; rfl) (fun _ _ _ _ => mO (div_32 ..)) fun x y hx hy w => ?_
  obtain ⟨k, hk⟩ := (fdiv_ev (n32 x) (n32 y) (mP x) (mP y)).rounds
  rw [jF hx, jF hy] at hk
  exact (nE.calls k x y _ w hk).mono fun e w' he => he
theorem ent47 [r : Rho] (hr : ∀ i u, r.f i u = F i u) (hH : l8.Ok) : mK Tryz.prog 47 (op2 l8 1 .u32 .u32 .u32) := by
  refine yB hH Tryz.func47 kr kr (F := fun x y => ((mulN 2 0 (n32 x) (n32 y) : Nat) : Int)) (fun _ _ => by rw [hr]; rfl) (fun _ _ _ _ => mO (mul_32 ..)) fun x y hx hy w => ?_
  obtain ⟨k, hk⟩ := (fmul_ev (n32 x) (n32 y) (mP x) (mP y)).rounds
  rw [jF hx, jF hy] at hk
  exact (nD.calls k x y _ w hk).mono fun e w' he => he
theorem ent49 [r : Rho] (hr : ∀ i u, r.f i u = F i u) (hH : l8.Ok) : mK Tryz.prog 49 (op2 l8 4 .u32 .u32 .u32) := by
  refine yB hH Tryz.func49 kr kr (F := fun x y => ((pV 2 0 (n32 x) (n32 y) : Nat) : Int)) (fun _ _ => by rw [hr]; rfl) (fun _ _ _ _ => mO (yF ..)) fun x y hx hy w => ?_
  obtain ⟨k, hk⟩ := (fadd_ev (n32 x) (n32 y) (mP x) (mP y)).rounds
  rw [jF hx, jF hy] at hk
  exact (mZ.calls k x y _ w hk).mono fun e w' he => he
theorem ent28 [r : Rho] (hr : ∀ i u, r.f i u = F i u) (hH : l8.Ok) : mK Tryz.prog 28 (op2 l8 4 .u32 .u32 .u32) := by
  refine yB hH Tryz.func28 kr kr (F := fun x y => ((pV 2 0 (n32 x) (n32 y) : Nat) : Int)) (fun _ _ => by rw [hr]; rfl) (fun _ _ _ _ => mO (yF ..)) fun x y hx hy w => ?_
  obtain ⟨k, hk⟩ := (aCs (n32 x) (n32 y) (mP x) (mP y)).rounds
  rw [jF hx, jF hy] at hk
  exact (iF.calls k x y _ w hk).mono fun e w' he => he
theorem ent8 [r : Rho] (hr : ∀ i u, r.f i u = F i u) : mK Tryz.prog 8 (parE 30 20 27 31) :=
  parE_ok Tryz.func8 kr kr (by decide) (fun _ _ _ _ => by rw [hr]; rfl) (fun _ _ _ _ => ParF.tv_u _ _) ParF.aB3
theorem ent73 [r : Rho] (hr : ∀ i u, r.f i u = F i u) (hH : l8.Ok) : mK Tryz.prog 73 (op2 l8 10 .u32 .i64 .u32) := by
  refine yB hH Tryz.func73 kr kr (F := fun x y => ((lC 2 0 (n32 x) y : Nat) : Int)) (fun _ _ => by rw [hr]; rfl) (fun _ _ _ _ => mO (ClipE.wX ..)) fun x y hx hy w => ?_
  obtain ⟨k, hk⟩ := (ClipE.aCm (n32 x) y (mP x)).rounds
  rw [jF hx] at hk
  exact (kI.calls k x y _ w hk).mono fun e w' he => he
theorem ent67 [r : Rho] (hr : ∀ i u, r.f i u = F i u) (hH : l8.Ok) : mK Tryz.prog 67 (ob2 l8 11 .u32 .u32) := by
  refine ob2_ok hH Tryz.func67 kr kr (F := fun x y => nW (n32 x) (n32 y)) (fun _ _ => by rw [hr]; rfl) fun x y hx hy w => ?_
  obtain ⟨k, hk⟩ := (aC8 (n32 x) (n32 y) (mP x) (mP y)).rounds
  rw [jF hx, jF hy] at hk
  exact (kF.calls k x y _ w hk).mono fun e w' he => ⟨he.1, by first | exact he.2 | exact he.2.below⟩
theorem ent31 [r : Rho] (hr : ∀ i u, r.f i u = F i u) (hH : l8.Ok) : mK Tryz.prog 31 (ClipE.cmpE 12 13) := by
  refine ClipE.cmpE_ok Tryz.func31 kr kr (n := n32) (fun _ _ => by rw [hr]; rfl) (fun _ _ => by rw [hr]; rfl) fun a b ha hb w => ?_
  obtain ⟨k, hk⟩ := (aBg 2 (n32 a) (n32 b) (mP a) (mP b)).rounds
  rw [jF ha, jF hb] at hk
  exact (aN.calls k 2 a b _ _ w hk).mono fun e w' he => he
theorem aCr [r : Rho] (hr : ∀ i u, r.f i u = F i u) (hH : l8.Ok) : iU Tryz.prog en := by
  unfold en
  exact iU.cons (ent8 hr) (iU.cons (ent9 hr hH) (iU.cons (ent11 hr hH) (iU.cons (ent28 hr hH) (iU.cons (ent31 hr hH) (iU.cons (ent40 hr hH) (iU.cons (ent41 hr hH) (iU.cons (ent47 hr hH) (iU.cons (ent49 hr hH) (iU.cons (ent67 hr hH) (iU.cons (ent73 hr hH) (iU.cons (ent95 hr hH) (iU.nil))))))))))))
abbrev rho (a0 : Int) (len1 : Nat) (z1 : List Int) (a2 : Int) : Rho := ⟨fun i => match i with
  | 0 => .n a0
  | 1 => .s (z1.take len1)
  | 2 => .n a2
  | _ => .n 0, F⟩
theorem simpU_v [r : Rho] (hr : ∀ i u, r.f i u = F i u) (hl : ∀ i, (hrv i).1 ≤ (r.v i).int ∧ (r.v i).int ≤ (hrv i).2) {t t' : Tm} (h : simpU t = some t') : t'.d = t.d := by
  unfold simpU at h
  have e11 : ∀ a b : U, (r.f 11 (.p a b)).int = if nW (n32 a.int) (n32 b.int) = true then 1 else 0 := fun a b => by rw [hr]; rfl
  split at h
  · next l i j =>
    cases h
    have e : ∀ a b : U, (r.f 10 (.p a b)).int = ((lC 2 0 (n32 a.int) b.int : Nat) : Int) := fun a b => by rw [hr]; rfl
    have e2 : ∀ l i j : U, (r.f 20 (.p l (.p (.n 1) (.p i j)))).int = ParF.G l.lst true i.int.toNat j.int.toNat := fun l i j => by rw [hr]; rfl
    have hv := hl 2
    have hb : (0 : Int) ≤ (r.v 2).int ∧ (r.v 2).int ≤ 255 := hv
    have hk : (0 : Int) ≤ TO.run .rem .u8 (r.v 2).int 20 ∧ TO.run .rem .u8 (r.v 2).int 20 ≤ 19 := by
      show (0 : Int) ≤ iW .u8 (Int.tmod (r.v 2).int 20) ∧ iW .u8 (Int.tmod (r.v 2).int 20) ≤ 19
      have e3 : Int.tmod (r.v 2).int 20 = (r.v 2).int % 20 := Int.tmod_eq_emod_of_nonneg hb.1
      rw [e3]
      show (0 : Int) ≤ (r.v 2).int % 20 % 256 ∧ (r.v 2).int % 20 % 256 ≤ 19
      omega
    obtain ⟨x, h1, h2, h3⟩ := MildN.G_form l.u.lst i.u.int.toNat j.u.int.toNat
    have neg1 : TO.run .neg .i64 (TO.run .rem .u8 (r.v 2).int 20) 0 = -(TO.run .rem .u8 (r.v 2).int 20) := by
      show wrap64 (-(TO.run .rem .u8 (r.v 2).int 20)) = _
      exact cZ _ (by omega) (by omega)
    have neg2 : TO.run .neg .i64 (TO.run .neg .i64 (TO.run .rem .u8 (r.v 2).int 20) 0) 0 = TO.run .rem .u8 (r.v 2).int 20 := by
      rw [neg1]
      show wrap64 (- -(TO.run .rem .u8 (r.v 2).int 20)) = _
      rw [Int.neg_neg]
      exact cZ _ (by omega) (by omega)
    show (r.f 20 (.p l.u (.p (.n 1) (.p i.u j.u)))).int = (r.f 10 (.p (r.f 10 (.p (r.f 20 (.p l.u (.p (.n 1) (.p i.u j.u)))) (.n (TO.run .neg .i64 (TO.run .rem .u8 (r.v 2).int 20) 0)))) (.n (TO.run .neg .i64 (TO.run .neg .i64 (TO.run .rem .u8 (r.v 2).int 20) 0) 0)))).int
    rw [e, e, e2, h1, qY h2, qY (ClipE.wX ..)]
    show (x : Int) = ((lC 2 0 (lC 2 0 x (TO.run .neg .i64 (TO.run .rem .u8 (r.v 2).int 20) 0)) (TO.run .neg .i64 (TO.run .neg .i64 (TO.run .rem .u8 (r.v 2).int 20) 0) 0) : Nat) : Int)
    rw [neg2, neg1, ClipE.aBj h3 hk.1 hk.2]
  · next a b =>
    have e3 : (Tm.f 11 (.c (.l a) (.l b))).d = if nW (n32 a) (n32 b) = true then 1 else 0 := e11 _ _
    rw [e3]
    cases hc : nW (n32 a) (n32 b)
    · rw [hc] at h; cases h; rfl
    · rw [hc] at h; cases h; rfl
  · next x y z =>
    obtain ⟨h1, h2⟩ := gF h
    cases h2
    rw [Bool.and_eq_true] at h1
    obtain rfl := Tm.mM h1.1
    obtain rfl := Tm.mM h1.2
    have e5 : ∀ a : U, (r.f 5 a).int = ((jP 2 0 (n32 a.int) : Nat) : Int) := fun a => by rw [hr]; rfl
    have e4 : ∀ a b : U, (r.f 4 (.p a b)).int = ((pV 2 0 (n32 a.int) (n32 b.int) : Nat) : Int) := fun a b => by rw [hr]; rfl
    have e3 : (Tm.f 11 (.c (.f 5 x) (.f 4 (.c (.f 5 x) (.f 5 x))))).d = if nW (n32 (r.f 5 x.u).int) (n32 (r.f 4 (.p (r.f 5 x.u) (r.f 5 x.u))).int) = true then 1 else 0 := e11 _ _
    rw [e3, e4, e5, qY (yK _), qY (yF ..), ClipE.aBb]
    rfl
  · cases h
theorem decU_v [r : Rho] (hr : ∀ i u, r.f i u = F i u) (hl : ∀ i, (hrv i).1 ≤ (r.v i).int ∧ (r.v i).int ≤ (hrv i).2) {pc : Facts} (_ : nQ pc) {b : BE} {v : Bool} (h : decU pc b = some v) : b.d = v := by
  have key : ∀ x : Tm, (Tm.o .sub .i64 (.f 12 (.c (.f 4 (.c (.f 5 x) (.f 5 x))) (.f 5 x))) (.l (.ofNat 1))).d = (nT 2 (pV 2 0 (jP 2 0 (n32 x.d)) (jP 2 0 (n32 x.d))) (jP 2 0 (n32 x.d))).1 := fun x => by
    have e5 : ∀ a : U, (r.f 5 a).int = ((jP 2 0 (n32 a.int) : Nat) : Int) := fun a => by rw [hr]; rfl
    have e4 : ∀ a b : U, (r.f 4 (.p a b)).int = ((pV 2 0 (n32 a.int) (n32 b.int) : Nat) : Int) := fun a b => by rw [hr]; rfl
    have e12 : ∀ a b : U, (r.f 12 (.p a b)).int = (nT 2 (n32 a.int) (n32 b.int)).1 + 1 := fun a b => by rw [hr]; rfl
    show iW .i64 ((r.f 12 (.p (r.f 4 (.p (r.f 5 x.u) (r.f 5 x.u))) (r.f 5 x.u))).int - 1) = _
    rw [e12, e4, e5, qY (yK _), qY (yF ..)]
    have hr9 := ClipE.qQ (pV 2 0 (jP 2 0 (n32 x.d)) (jP 2 0 (n32 x.d))) (jP 2 0 (n32 x.d))
    show wrap64 ((nT 2 (pV 2 0 (jP 2 0 (n32 x.d)) (jP 2 0 (n32 x.d))) (jP 2 0 (n32 x.d))).1 + 1 - 1) = _
    rw [cZ _ (by omega) (by omega)]
    omega
  unfold decU at h
  split at h
  · next x y z =>
    obtain ⟨h1, h2⟩ := gF h
    cases h2
    rw [Bool.and_eq_true] at h1
    obtain rfl := Tm.mM h1.1
    obtain rfl := Tm.mM h1.2
    have := ClipE.pK (n32 x.d)
    show decide ((Tm.o .sub .i64 (.f 12 (.c (.f 4 (.c (.f 5 x) (.f 5 x))) (.f 5 x))) (.l (.ofNat 1))).d < 0) = false
    rw [key]
    exact decide_eq_false (by omega)
  · next x y z =>
    obtain ⟨h1, h2⟩ := gF h
    cases h2
    rw [Bool.and_eq_true] at h1
    obtain rfl := Tm.mM h1.1
    obtain rfl := Tm.mM h1.2
    have := ClipE.pK (n32 x.d)
    show decide (0 ≤ (Tm.o .sub .i64 (.f 12 (.c (.f 4 (.c (.f 5 x) (.f 5 x))) (.f 5 x))) (.l (.ofNat 1))).d) = true
    rw [key]
    exact decide_eq_true this
  · next q n =>
    obtain ⟨h1, h2⟩ := gF h
    cases h2
    have hn := of_decide_eq_true h1
    have hv := hl 2
    have hb : (0 : Int) ≤ (r.v 2).int ∧ (r.v 2).int ≤ 255 := hv
    have hk : (0 : Int) ≤ TO.run .rem .u8 (r.v 2).int 20 ∧ TO.run .rem .u8 (r.v 2).int 20 ≤ 255 := by
      have := pF .rem .u8 (r.v 2).int 20
      exact this
    have e : (Tm.o .neg .i64 (.o .rem .u8 (.v 2) (.l (.ofNat 20))) q).d = -(TO.run .rem .u8 (r.v 2).int 20) := by
      show wrap64 (-(TO.run .rem .u8 (r.v 2).int 20)) = _
      exact cZ _ (by omega) (by omega)
    show ((Tm.o .neg .i64 (.o .rem .u8 (.v 2) (.l (.ofNat 20))) q).d == n) = false
    rw [e]
    exact beq_eq_false_iff_ne.mpr (by omega)
  · cases h
theorem hook_ok (a0 : Int) (len1 : Nat) (z1 : List Int) (a2 : Int) (h0 : IntKind.u8.has a0) (h2 : IntKind.u8.has a2) : letI := rho a0 len1 z1 a2; l8.Ok := by
  letI := rho a0 len1 z1 a2
  have hlv : ∀ i, (hrv i).1 ≤ (Rho.v i).int ∧ (Rho.v i).int ≤ (hrv i).2 := by
    intro i
    match i with
    | 0 => exact h0
    | 1 => exact ⟨Int.le_refl _, Int.le_refl _⟩
    | 2 => exact h2
    | n + 3 => exact ⟨Int.le_refl _, Int.le_refl _⟩
  refine ⟨fun t t' h => ?_, fun pc b r hp h => ?_, hlv, fun i x => F_range i _⟩
  · change simpA t = some t' at h
    unfold simpA at h
    split at h
    · next e => cases h; exact simpU_v (fun _ _ => rfl) hlv e
    · exact cl_v (fun _ _ => rfl) h
  · exact decU_v (fun _ _ => rfl) hlv hp h
theorem wQ [r : Rho] (hr : ∀ i u, r.f i u = F i u) (hH : l8.Ok) (w : World) : Calls Tryz.prog 7 #[] w fun e w' => e = .returned (.bool true) ∧ Below w.heap.size w w' := by
  have hv : ∀ v ∈ ([] : List PV), v.ok (fun _ => False) := fun v hv => by cases hv
  have hc := law_v hH (aCr hr hH) fk_ok (start_pc w [] (fun p hp => by cases hp)) hv aCC
  have e : (([] : List PV).map (PV.v m00)).toArray = #[] := rfl
  rw [e] at hc
  exact hc
theorem rem_u8_3 : ∀ n : Nat, n < 256 → TO.run .rem .u8 (n : Int) 3 = 0 ∨ TO.run .rem .u8 (n : Int) 3 = 1 ∨ TO.run .rem .u8 (n : Int) 3 = 2 := by decide +kernel
theorem walk (a0 : Int) (a1 : Option Addr) (len1 cap1 : Nat) (z1 : List Int) (a2 : Int) (W : World) (w0 : (Lit.int .u8 a0).wf = true) (w1 : yH .u32 W a1 len1 cap1 z1) (w2 : (Lit.int .u8 a2).wf = true) :
    Calls Tryz.prog 6 #[.int .u8 a0, .slice a1 len1 cap1, .int .u8 a2] W fun e W' => e = .returned (.bool true) ∧ Below W.heap.size W W' := by
  letI := rho a0 len1 z1 a2
  have h0 := aAq.1 w0
  have h2 := aAq.1 w2
  have hH : l8.Ok := hook_ok a0 len1 z1 a2 h0 h2
  have hen : iU Tryz.prog en1 := iU.cons (yes0_ok Tryz.func7 kr kr fun w => wQ (fun _ _ => rfl) hH w) (aCr (fun _ _ => rfl) hH)
  have hv : ∀ v ∈ args, v.ok (fun j => j = 0) := by
    intro v hv
    simp only [args, List.mem_cons, List.not_mem_nil, or_false] at hv
    rcases hv with rfl | rfl | rfl
    · exact h0
    · exact rfl
    · exact h2
  have e : (args.map (PV.v (m1 a1 len1 cap1))).toArray = #[.int .u8 a0, .slice a1 len1 cap1, .int .u8 a2] := by
    simp only [args, List.map]
    show #[Value.int .u8 a0, Value.slice a1 len1 cap1, Value.int .u8 a2] = _
    rfl
  have fin : ∀ pc : Facts, nQ pc → evFn l8 Tryz.prog en1 fs 1000 40 6 args (st pc) (Kt l8) = true → Calls Tryz.prog 6 #[.int .u8 a0, .slice a1 len1 cap1, .int .u8 a2] W fun e W' => e = .returned (.bool true) ∧ Below W.heap.size W W' := by
    intro pc hpc hrun
    have hc := law_v hH hen fs_ok (aDj W pc hpc w1 rfl) hv hrun
    rw [e] at hc
    exact hc
  obtain ⟨i0, hi0, he0⟩ : ∃ i : Int, (i = 0 ∨ i = 1 ∨ i = 2) ∧ TO.run .rem .u8 a0 3 = i := by
    have b0 : (0 : Int) ≤ a0 := h0.1
    have b1 : a0 ≤ 255 := h0.2
    obtain ⟨n, hn⟩ : ∃ n : Nat, a0 = n := ⟨(a0).toNat, by omega⟩
    rw [hn]
    exact ⟨_, rem_u8_3 n (by omega), rfl⟩
  refine fin [(BE.eq (.o .rem .u8 (.v 0) (.l 3)) (.l i0), true)] (fun p hp => ?_) ?_
  · simp only [List.mem_cons, List.not_mem_nil, or_false] at hp
    rcases hp with rfl
    · show decide (TO.run .rem .u8 a0 3 = i0) = true
      exact decide_eq_true he0
  · clear fin hv e hen hH
    rcases hi0 with h_ | h_ | h_
    · subst h_
      exact run0
    · subst h_
      exact run1
    · subst h_
      exact run2
end XwCk
end
end Go.Proofs.YtolpdiifmacdbaaGreat
