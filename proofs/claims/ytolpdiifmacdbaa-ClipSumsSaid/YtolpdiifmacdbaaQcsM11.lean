import Derived.Test.YtolpdiifmacdbaaQcsM8
import Derived.Test.YtolpdiifmacdbaaQcsM7
import Derived.Test.YtolpdiifmacdbaaQcsParF
import Derived.Test.YtolpdiifmacdbaaQcsM4
import Derived.Test.YtolpdiifmacdbaaQcsM3
import Derived.Test.YtolpdiifmacdbaaQcsM10
/- Numbers of few bits, at any exponent of the normal ones: plain numbers alone. -/
set_option linter.unusedVariables false
set_option linter.unusedSimpArgs false
set_option maxRecDepth 100000
namespace Go.Proofs.Ytolpdiifmacdbaa.Round
open Go.RowKit Go.Proofs.Ytolpdiifmacdbaa.P Go.Proofs.Ytolpdiifmacdbaa.Num Go.Proofs.Ytolpdiifmacdbaa.BitsF Go.Proofs.Ytolpdiifmacdbaa.Fmt Go.Proofs.YtolpdiifmacdbaaW.PrintWords Go.Proofs.YtolpdiifmacdbaaW.PrintLast Go.Proofs.YtolpdiifmacdbaaW.PrintMore

theorem xB (f mode : Int) (neg : Bool) (e r : Nat) (h0 : 1 ≤ e) (h1 : e < fC f) (hr : r < 2 ^ fm f) : j4 f mode neg (bW f - fm f + ((e - 1 : Nat) : Int)) (r + 2 ^ fm f) false = e * 2 ^ fm f + r + cK f neg ∧ vB f mode neg (bW f - fm f + ((e - 1 : Nat) : Int)) (r + 2 ^ fm f) false = (false, false, false) := by
 have hs : 2 ^ (fm f + 1) = 2 * 2 ^ fm f := by rw [Nat.pow_succ, Nat.mul_comm]
 have hk : (e - 1) * 2 ^ fm f + (r + 2 ^ fm f) = e * 2 ^ fm f + r := by
  have : e * 2 ^ fm f = (e - 1) * 2 ^ fm f + 2 ^ fm f := by rw [← Nat.succ_mul]; congr 1; omega
  omega
 obtain ⟨x1, x2⟩ := vI f mode neg (r + 2 ^ fm f) 0 (e - 1) (by omega) (.inr (by omega)) (by rw [hk]; exact oQ f e r h1 hr)
 rw [hk] at x1
 rw [Nat.pow_zero, Nat.mul_one, show bW f - (fm f : Int) + ((e - 1 : Nat) : Int) - ((0 : Nat) : Int) = bW f - fm f + ((e - 1 : Nat) : Int) by omega] at x1 x2
 exact ⟨x1, x2⟩
end Go.Proofs.Ytolpdiifmacdbaa.Round

/- SumNoughts: which sign a sum has that is nought, in each mode, of each format; a nought makes no difference to a number near one. -/

namespace Go.Proofs.Ytolpdiifmacdbaa.Pure
open Go.RowKit Go.Proofs.Ytolpdiifmacdbaa.P Go.Proofs.Ytolpdiifmacdbaa.Num Go.Proofs.Ytolpdiifmacdbaa.BitsF Go.Proofs.Ytolpdiifmacdbaa.Fmt Go.Proofs.Ytolpdiifmacdbaa.Round Go.Proofs.YtolpdiifmacdbaaW.PrintWords Go.Proofs.YtolpdiifmacdbaaW.PrintLast Go.Proofs.YtolpdiifmacdbaaW.PrintMore

theorem noughts (f mode : Int) (s t : Bool) : pR f mode (cK f s) (cK f t) = jC f mode s t ∧ sumX f mode (cK f s) (cK f t) = (false, false, false, false, false) := by
 obtain ⟨z1, z2, z3⟩ := mG f s
 obtain ⟨y1, y2, y3⟩ := mG f t
 have w1 := (pI f _ z1).2
 have w2 := (pI f _ y1).2
 have hr : (kW f (cK f s) (cK f t)).2.2 = (0, false) := by
  unfold kW fT; rw [w1, w2, if_pos rfl]
 unfold pR sumX dR dW
 rw [z1, y1, z2, y2, if_pos hr, if_pos hr]
 simp
theorem sM (f mode : Int) (e r : Nat) (neg s : Bool) (h1 : 1 ≤ e) (h2 : e < fC f) (hr : r < 2 ^ fm f) : pR f mode (e * 2 ^ fm f + r + cK f neg) (cK f s) = e * 2 ^ fm f + r + cK f neg ∧ sumX f mode (e * 2 ^ fm f + r + cK f neg) (cK f s) = (false, false, false, false, false) := by
 obtain ⟨z1, z2, z3⟩ := mG f s
 have w1 := (pI f _ z1).2
 obtain ⟨a1, a2, a3, a4, a5, a6, a7, a8, a9⟩ := norm_all f neg e r h1 h2 hr
 have hp := Nat.two_pow_pos (fm f)
 obtain ⟨q1, q2⟩ := xB f mode neg e r h1 h2 hr
 have hpair : kW f (e * 2 ^ fm f + r + cK f neg) (cK f s) = (neg, bW f - fm f + ((e - 1 : Nat) : Int), r + 2 ^ fm f, false) := by
  unfold kW fT
  rw [a1, a8, a9, w1, if_neg (show ¬ r + 2 ^ fm f = 0 by omega), if_pos rfl]
 have hne : ¬ (r + 2 ^ fm f, false) = (0, false) := fun e => by have := (Prod.mk.inj e).1; omega
 unfold pR sumX
 rw [hpair, a7, z1, if_neg (show ¬ (4 ≤ 2 ∨ 4 ≤ 0) by decide), if_neg (show ¬ (4 ≤ 2 ∨ 4 ≤ 0) by decide), if_neg (show ¬ (2 = 3 ∧ 0 = 3 ∧ bZ f (e * 2 ^ fm f + r + cK f neg) ≠ bZ f (cK f s)) from fun h => absurd h.1 (by decide)), if_neg (show ¬ (2 = 3 ∧ 0 = 3 ∧ bZ f (e * 2 ^ fm f + r + cK f neg) ≠ bZ f (cK f s)) from fun h => absurd h.1 (by decide)), if_neg (show ¬ 2 = 3 by decide), if_neg (show ¬ 0 = 3 by decide), if_neg (show ¬ (2 = 3 ∨ 0 = 3) by decide)]
 unfold dR dW
 rw [if_neg hne, if_neg hne]
 dsimp only
 rw [q1, q2]
 exact ⟨rfl, rfl⟩
end Go.Proofs.Ytolpdiifmacdbaa.Pure

/- Mild numbers: noughts make no difference to them. -/
namespace Go.Proofs.Ytolpdiifmacdbaa.MildN
open Go.RowKit Go.Proofs.Ytolpdiifmacdbaa.P Go.Proofs.Ytolpdiifmacdbaa.Xe Go.Proofs.Ytolpdiifmacdbaa.Num Go.Proofs.Ytolpdiifmacdbaa.BitsF Go.Proofs.Ytolpdiifmacdbaa.Fmt Go.Proofs.Ytolpdiifmacdbaa.Round Go.Proofs.Ytolpdiifmacdbaa.Pure Go.Proofs.Ytolpdiifmacdbaa.ParF Go.Proofs.YtolpdiifmacdbaaW.PrintWords Go.Proofs.YtolpdiifmacdbaaW.PrintLast Go.Proofs.YtolpdiifmacdbaaW.PrintMore
theorem f2 : fm 2 = 23 ∧ fe 2 = 8 ∧ fC 2 = 255 ∧ rH 2 = 127 := ⟨rfl, rfl, rfl, rfl⟩
def Mild (x : Nat) : Prop := x = 0 ∨ ∃ e r neg, 1 ≤ e ∧ e < fC 2 ∧ r < 2 ^ fm 2 ∧ x = e * 2 ^ fm 2 + r + cK 2 neg
theorem tv_form {k : Int} (hk : IntKind.u32.has k) : ∃ x : Nat, tv true k = (x : Int) ∧ x < 4294967296 ∧ Mild x := by
 obtain ⟨u, rfl⟩ : ∃ u : Nat, k = u := ⟨k.toNat, by have := hk.1; exact (Int.toNat_of_nonneg this).symm⟩
 have hu : (u : Int) ≤ 4294967295 := hk.2
 obtain ⟨m, neg, h1, h2⟩ := mild_f 2 u (by omega)
 have h3 := yE hk
 rw [h1] at h3
 have h3 := (Option.some.inj h3).symm
 have hl := (tv_u true (u : Int)).2
 rw [h3] at hl
 refine ⟨m + cK 2 neg, h3, by have : ((m + cK 2 neg : Nat) : Int) ≤ 4294967295 := hl; omega, ?_⟩
 rcases h2 with ⟨rfl, rfl⟩ | ⟨a, b⟩
 ·left; rfl
 ·right
  obtain ⟨q1, q2, q3, q4⟩ := f2
  rw [q1, q4] at a b
  refine ⟨m / 2 ^ fm 2, m % 2 ^ fm 2, neg, ?_, ?_, Nat.mod_lt _ (Nat.two_pow_pos _), ?_⟩
  ·rw [q1]; omega
  ·rw [q1, q3]; omega
  ·rw [Nat.div_add_mod']
theorem sum_keep {x : Nat} (h : Mild x) : pR 2 0 x 0 = x := by
 rcases h with rfl | ⟨e, r, neg, h1, h2, h3, rfl⟩
 ·exact (noughts 2 0 false false).1
 ·exact (sM 2 0 e r neg false h1 h2 h3).1
theorem G_form (l : List Int) (i j : Nat) : ∃ x : Nat, G l true i j = (x : Int) ∧ x < 4294967296 ∧ Mild x := tv_form (tk_u _ _)
end Go.Proofs.Ytolpdiifmacdbaa.MildN

/- ClipSums's whole walk, by the closed reckoner. -/
namespace Go.Proofs.Ytolpdiifmacdbaa.XwCs
open Go.RowKit Go.Proofs.Ytolpdiifmacdbaa.P Go.Proofs.Ytolpdiifmacdbaa.Xe Go.Proofs.Ytolpdiifmacdbaa.Num Go.Proofs.Ytolpdiifmacdbaa.BitsF Go.Proofs.Ytolpdiifmacdbaa.Fmt Go.Proofs.Ytolpdiifmacdbaa.Round Go.Proofs.YtolpdiifmacdbaaW.PrintWords Go.Proofs.YtolpdiifmacdbaaW.PrintLast Go.Proofs.YtolpdiifmacdbaaW.PrintMore
theorem fsqrt_ev (a : Nat) (ha : a < 4294967296) : Ev (fun k => gP.f k (a : Int)) ((qK 2 0 a : Nat) : Int) :=
  Ev.congr (fun k => by unfold gP.f; rfl) (Ev.bind (sqrt_ev 2 0 a ha) (Ev.now _))
theorem sqrt_l (a : Nat) : qK 2 0 a < 4294967296 := by
  unfold qK
  split
  · exact jL 2
  · split
    · exact tF 2 _
    · split
      · exact jL 2
      · split
        · exact (inf_all 2 false).2.2
        · unfold sideN; exact pG ..
def n32 (x : Int) : Nat := (IntKind.u32.wrap x).toNat
theorem jG {x : Int} (h : IntKind.u32.has x) : ((n32 x : Nat) : Int) = x := by
  have := fQ h
  unfold n32
  rw [this]
  exact Int.toNat_of_nonneg h.1
theorem nW (x : Int) : n32 x < 4294967296 := by
  have h : IntKind.u32.has (IntKind.u32.wrap x) := iT .u32 x
  have h1 : (0 : Int) ≤ IntKind.u32.wrap x := h.1
  have h2 : IntKind.u32.wrap x ≤ 4294967295 := h.2
  unfold n32
  omega
theorem lL {x : Nat} (h : x < 4294967296) : IntKind.u32.has (x : Int) := by
  show (0 : Int) ≤ x ∧ (x : Int) ≤ 4294967295
  omega
theorem n32_nat {x : Nat} (h : x < 4294967296) : n32 (x : Int) = x := Int.ofNat.inj (jG (lL h))
noncomputable def F (i : Nat) (u : U) : U := match i, u with
  | 0, .p a (.p b c) => .n ((tQ 2 0 (n32 a.int) (n32 b.int) (n32 c.int) : Nat) : Int)
  | 1, .p a b => .n ((mulN 2 0 (n32 a.int) (n32 b.int) : Nat) : Int)
  | 3, .p a b => .n ((divN 2 0 (n32 a.int) (n32 b.int) : Nat) : Int)
  | 4, .p a b => .n ((pR 2 0 (n32 a.int) (n32 b.int) : Nat) : Int)
  | 5, a => .n ((qK 2 0 (n32 a.int) : Nat) : Int)
  | 20, .p l (.p m (.p i j)) => .n (ParF.G l.lst (!(m.int == 0)) i.int.toNat j.int.toNat)
  | _, _ => .n 0
theorem F_range (i : Nat) (u : U) : 0 ≤ (F i u).int ∧ (F i u).int ≤ 4294967295 := by
  have ok : ∀ n : Nat, n < 4294967296 → (0 : Int) ≤ (n : Int) ∧ (n : Int) ≤ 4294967295 := fun n h => by omega
  unfold F
  split
  · exact ok _ (fma_32 ..)
  · exact ok _ (mul_32 ..)
  · exact ok _ (div_32 ..)
  · exact ok _ (sum_32 ..)
  · exact ok _ (sqrt_l _)
  · exact ParF.tv_u _ _
  · exact ok 0 (by decide)
def frc (n : Nat) : Option Tm := match n with
  | 0 => some (.l (.ofNat 0))
  | m + 1 => some (.l (.ofNat (Nat.succ m)))
theorem xE [Rho] {n : Nat} {t : Tm} (h : frc n = some t) : t.d = (n : Int) := by
  cases n with
  | zero => cases h; rfl
  | succ n => cases h; rfl
def cl (t : Tm) : Option Tm := match t with
  | .f 0 (.c (.l a) (.c (.l b) (.l c))) => frc (tQ 2 0 (n32 a) (n32 b) (n32 c))
  | .f 1 (.c (.l a) (.l b)) => frc (mulN 2 0 (n32 a) (n32 b))
  | .f 3 (.c (.l a) (.l b)) => frc (divN 2 0 (n32 a) (n32 b))
  | .f 4 (.c (.l a) (.l b)) => frc (pR 2 0 (n32 a) (n32 b))
  | .f 5 (.l a) => frc (qK 2 0 (n32 a))
  | _ => none
theorem cl_v [r : Rho] (hr : ∀ i u, r.f i u = F i u) {t t' : Tm} (h : cl t = some t') : t'.d = t.d := by
  unfold cl at h
  split at h
  · next a b c => rw [xE h]; show _ = (r.f 0 _).int; rw [hr]; rfl
  · next a b => rw [xE h]; show _ = (r.f 1 _).int; rw [hr]; rfl
  · next a b => rw [xE h]; show _ = (r.f 3 _).int; rw [hr]; rfl
  · next a b => rw [xE h]; show _ = (r.f 4 _).int; rw [hr]; rfl
  · next a => rw [xE h]; show _ = (r.f 5 _).int; rw [hr]; rfl
  · cases h
def simpU (t : Tm) : Option Tm := match t with
  | .f 4 (.c (.f 20 (.c l (.c (.l (.ofNat 1)) (.c i j)))) (.l (.ofNat 0))) => some (.f 20 (.c l (.c (.l (.ofNat 1)) (.c i j))))
  | _ => none
def decU (_ : Facts) (b : BE) : Option Bool := match b with
  | .eq (.f 4 (.c a b)) (.f 4 (.c c d)) => cnd (a.beq d && b.beq c) (some true) none
  | _ => none
def simpA (t : Tm) : Option Tm := match simpU t with
  | some u => some u
  | none => cl t
def hrv (i : Nat) : Int × Int := match i with
  | 0 => (0, 255)
  | 1 => (0, 0)
  | 2 => (0, 0)
  | _ => (0, 0)
def hcz (t : Tm) : Bool := match t with
  | .o .rem .u8 (.v 0) (.l 3) => true
  | _ => false
def mE : pO := { s := simpA, d := decU, rv := hrv, rf := fun _ => (0, 4294967295), cz := hcz }
noncomputable def en : Ents := [(7, parE 30 20 35 34), (44, op2 mE 3 .u32 .u32 .u32), (46, op2 mE 1 .u32 .u32 .u32), (54, op2 mE 4 .u32 .u32 .u32), (55, op1 mE 5 .u32 .u32), (72, op3 mE 0 .u32 .u32 .u32 .u32)]
noncomputable def fs : Fns := [(4, Try.f4), (9, Try.f9), (13, Try.f13), (15, Try.f15), (20, Try.f20), (21, Try.f21), (22, Try.f22), (27, Try.f27), (31, Try.f31), (32, Try.f32), (37, Try.f37), (39, Try.f39), (52, Try.f52), (53, Try.f53)]
theorem fs_ok : dJ Try.prog fs := dJ.cons Try.func4 (by kernel_rfl) (dJ.cons Try.func9 (by kernel_rfl) (dJ.cons Try.func13 (by kernel_rfl) (dJ.cons Try.func15 (by kernel_rfl) (dJ.cons Try.func20 (by kernel_rfl) (dJ.cons Try.func21 (by kernel_rfl) (dJ.cons Try.func22 (by kernel_rfl) (dJ.cons Try.func27 (by kernel_rfl) (dJ.cons Try.func31 (by kernel_rfl) (dJ.cons Try.func32 (by kernel_rfl) (dJ.cons Try.func37 (by kernel_rfl) (dJ.cons Try.func39 (by kernel_rfl) (dJ.cons Try.func52 (by kernel_rfl) (dJ.cons Try.func53 (by kernel_rfl) (dJ.nil))))))))))))))
noncomputable def fk : Fns := [(14, Try.f14), (20, Try.f20), (28, Try.f28), (29, Try.f29), (30, Try.f30), (41, Try.f41), (42, Try.f42), (43, Try.f43), (45, Try.f45), (47, Try.f47), (48, Try.f48), (49, Try.f49), (50, Try.f50), (51, Try.f51), (66, Try.f66), (67, Try.f67), (68, Try.f68), (69, Try.f69), (73, Try.f73), (74, Try.f74), (82, Try.f82), (83, Try.f83), (85, Try.f85), (86, Try.f86), (100, Try.f100), (112, Try.f112), (113, Try.f113), (119, Try.f119)]
theorem fk_ok : dJ Try.prog fk := dJ.cons Try.func14 (by kernel_rfl) (dJ.cons Try.func20 (by kernel_rfl) (dJ.cons Try.func28 (by kernel_rfl) (dJ.cons Try.func29 (by kernel_rfl) (dJ.cons Try.func30 (by kernel_rfl) (dJ.cons Try.func41 (by kernel_rfl) (dJ.cons Try.func42 (by kernel_rfl) (dJ.cons Try.func43 (by kernel_rfl) (dJ.cons Try.func45 (by kernel_rfl) (dJ.cons Try.func47 (by kernel_rfl) (dJ.cons Try.func48 (by kernel_rfl) (dJ.cons Try.func49 (by kernel_rfl) (dJ.cons Try.func50 (by kernel_rfl) (dJ.cons Try.func51 (by kernel_rfl) (dJ.cons Try.func66 (by kernel_rfl) (dJ.cons Try.func67 (by kernel_rfl) (dJ.cons Try.func68 (by kernel_rfl) (dJ.cons Try.func69 (by kernel_rfl) (dJ.cons Try.func73 (by kernel_rfl) (dJ.cons Try.func74 (by kernel_rfl) (dJ.cons Try.func82 (by kernel_rfl) (dJ.cons Try.func83 (by kernel_rfl) (dJ.cons Try.func85 (by kernel_rfl) (dJ.cons Try.func86 (by kernel_rfl) (dJ.cons Try.func100 (by kernel_rfl) (dJ.cons Try.func112 (by kernel_rfl) (dJ.cons Try.func113 (by kernel_rfl) (dJ.cons Try.func119 (by kernel_rfl) (dJ.nil))))))))))))))))))))))))))))
theorem yF : evFn mE Try.prog en fk 1000 40 14 [] ⟨.e, .e, 1, [], 0⟩ (Kt mE) = true := by kernel_rfl
noncomputable def en1 : Ents := (14, yes0) :: en
def args : List PV := [.one (.i .u8 (.v 0)), .one (.u 0), .one (.u 1)]
noncomputable def st (pc : Facts) : Hp := ⟨.e, (.n (.n .e (some (.ro .u32 (.v 2))) .e) (some (.ro .u32 (.v 1))) .e), 2, pc, 0⟩
theorem run0 : evFn mE Try.prog en1 fs 1000 40 4 args (st []) (Kt mE) = true := by kernel_rfl
theorem ent54 [r : Rho] (hr : ∀ i u, r.f i u = F i u) (hH : mE.Ok) : kZ Try.prog 54 (op2 mE 4 .u32 .u32 .u32) := by
  refine wZ hH Try.func54 (by kernel_rfl) (by kernel_rfl) (F := fun x y => ((pR 2 0 (n32 x) (n32 y) : Nat) : Int)) (fun _ _ => by rw [hr]; rfl) (fun _ _ _ _ => lL (sum_32 ..)) fun x y hx hy w => ?_
  obtain ⟨k, hk⟩ := (fadd_ev (n32 x) (n32 y) (nW x) (nW y)).rounds
  rw [jG hx, jG hy] at hk
  exact (iG.calls k x y _ w hk).mono fun e w' he => he
theorem ent72 [r : Rho] (hr : ∀ i u, r.f i u = F i u) (hH : mE.Ok) : kZ Try.prog 72 (op3 mE 0 .u32 .u32 .u32 .u32) := by
  refine op3_ok hH Try.func72 (by kernel_rfl) (by kernel_rfl) (F := fun x y z => ((tQ 2 0 (n32 x) (n32 y) (n32 z) : Nat) : Int)) (fun _ _ _ => by rw [hr]; rfl) (fun _ _ _ _ _ _ => lL (fma_32 ..)) fun x y z hx hy hz w => ?_
  obtain ⟨k, hk⟩ := (ffma_ev (n32 x) (n32 y) (n32 z) (nW x) (nW y) (nW z)).rounds
  rw [jG hx, jG hy, jG hz] at hk
  exact (iN.calls k x y z _ w hk).mono fun e w' he => he
theorem ent55 [r : Rho] (hr : ∀ i u, r.f i u = F i u) (hH : mE.Ok) : kZ Try.prog 55 (op1 mE 5 .u32 .u32) := by
  refine op1_ok hH Try.func55 (by kernel_rfl) (by kernel_rfl) (F := fun x => ((qK 2 0 (n32 x) : Nat) : Int)) (fun _ => by rw [hr]; rfl) (fun _ _ => lL (sqrt_l _)) fun x hx w => ?_
  obtain ⟨k, hk⟩ := (fsqrt_ev (n32 x) (nW x)).rounds
  rw [jG hx] at hk
  exact (gP.calls k x _ w hk).mono fun e w' he => he
theorem ent44 [r : Rho] (hr : ∀ i u, r.f i u = F i u) (hH : mE.Ok) : kZ Try.prog 44 (op2 mE 3 .u32 .u32 .u32) := by
  refine wZ hH Try.func44 (by kernel_rfl) (by kernel_rfl) (F := fun x y => ((divN 2 0 (n32 x) (n32 y) : Nat) : Int)) (fun _ _ => by rw [hr]; rfl) (fun _ _ _ _ => lL (div_32 ..)) fun x y hx hy w => ?_
  obtain ⟨k, hk⟩ := (fdiv_ev (n32 x) (n32 y) (nW x) (nW y)).rounds
  rw [jG hx, jG hy] at hk
  exact (iF.calls k x y _ w hk).mono fun e w' he => he
theorem ent46 [r : Rho] (hr : ∀ i u, r.f i u = F i u) (hH : mE.Ok) : kZ Try.prog 46 (op2 mE 1 .u32 .u32 .u32) := by
  refine wZ hH Try.func46 (by kernel_rfl) (by kernel_rfl) (F := fun x y => ((mulN 2 0 (n32 x) (n32 y) : Nat) : Int)) (fun _ _ => by rw [hr]; rfl) (fun _ _ _ _ => lL (mul_32 ..)) fun x y hx hy w => ?_
  obtain ⟨k, hk⟩ := (fmul_ev (n32 x) (n32 y) (nW x) (nW y)).rounds
  rw [jG hx, jG hy] at hk
  exact (iM.calls k x y _ w hk).mono fun e w' he => he
theorem ent7 [r : Rho] (hr : ∀ i u, r.f i u = F i u) : kZ Try.prog 7 (parE 30 20 35 34) :=
  parE_ok Try.func7 (by kernel_rfl) (by kernel_rfl) (by decide) (fun _ _ _ _ => by rw [hr]; rfl) (fun _ _ _ _ => ParF.tv_u _ _) ParF.xW
theorem wI [r : Rho] (hr : ∀ i u, r.f i u = F i u) (hH : mE.Ok) : gB Try.prog en := by
  unfold en
  exact gB.cons (ent7 hr) (gB.cons (ent44 hr hH) (gB.cons (ent46 hr hH) (gB.cons (ent54 hr hH) (gB.cons (ent55 hr hH) (gB.cons (ent72 hr hH) (gB.nil))))))
noncomputable abbrev rho (a0 : Int) (len1 : Nat) (z1 : List Int) (len2 : Nat) (z2 : List Int) : Rho := ⟨fun i => match i with
  | 0 => .n a0
  | 1 => .s (z1.take len1)
  | 2 => .s (z2.take len2)
  | _ => .n 0, F⟩
theorem simpU_v [r : Rho] (hr : ∀ i u, r.f i u = F i u) {t t' : Tm} (h : simpU t = some t') : t'.d = t.d := by
  unfold simpU at h
  split at h
  · next l i j =>
    cases h
    have e : ∀ a : U, (r.f 4 (.p a (.n 0))).int = ((pR 2 0 (n32 a.int) (n32 0) : Nat) : Int) := fun a => by rw [hr]; rfl
    have e2 : ∀ l i j : U, (r.f 20 (.p l (.p (.n 1) (.p i j)))).int = ParF.G l.lst true i.int.toNat j.int.toNat := fun l i j => by rw [hr]; rfl
    show (r.f 20 (.p l.u (.p (.n 1) (.p i.u j.u)))).int = (r.f 4 (.p (r.f 20 (.p l.u (.p (.n 1) (.p i.u j.u)))) (.n 0))).int
    rw [e, e2]
    obtain ⟨x, h1, h2, h3⟩ := MildN.G_form l.u.lst i.u.int.toNat j.u.int.toNat
    rw [h1, n32_nat h2]
    show (x : Int) = ((pR 2 0 x 0 : Nat) : Int)
    rw [MildN.sum_keep h3]
  · cases h
theorem decU_v [r : Rho] (hr : ∀ i u, r.f i u = F i u) {pc : Facts} (_ : iY pc) {b : BE} {v : Bool} (h : decU pc b = some v) : b.d = v := by
  unfold decU at h
  split at h
  · next a b c d =>
    obtain ⟨h1, h2⟩ := dO h
    cases h2
    rw [Bool.and_eq_true] at h1
    obtain rfl := Tm.jM h1.1
    obtain rfl := Tm.jM h1.2
    have e : ∀ a b : U, (r.f 4 (.p a b)).int = ((pR 2 0 (n32 a.int) (n32 b.int) : Nat) : Int) := fun a b => by rw [hr]; rfl
    show ((r.f 4 (.p a.u b.u)).int == (r.f 4 (.p b.u a.u)).int) = true
    rw [e, e, (sum_turn 2 0 (n32 a.u.int) (n32 b.u.int)).1]
    simp
  · cases h
theorem hook_ok (a0 : Int) (len1 : Nat) (z1 : List Int) (len2 : Nat) (z2 : List Int) (h0 : IntKind.u8.has a0) : letI := rho a0 len1 z1 len2 z2; mE.Ok := by
  letI := rho a0 len1 z1 len2 z2
  refine ⟨fun t t' h => ?_, fun pc b r hp h => ?_, fun i => ?_, fun i x => F_range i _⟩
  · change simpA t = some t' at h
    unfold simpA at h
    split at h
    · next e => cases h; exact simpU_v (fun _ _ => rfl) e
    · exact cl_v (fun _ _ => rfl) h
  · exact decU_v (fun _ _ => rfl) hp h
  · match i with
    | 0 => exact h0
    | 1 => exact ⟨Int.le_refl _, Int.le_refl _⟩
    | 2 => exact ⟨Int.le_refl _, Int.le_refl _⟩
    | n + 3 => exact ⟨Int.le_refl _, Int.le_refl _⟩
theorem pX [r : Rho] (hr : ∀ i u, r.f i u = F i u) (hH : mE.Ok) (w : World) : Calls Try.prog 14 #[] w fun e w' => e = .returned (.bool true) ∧ Below w.heap.size w w' := by
  have hv : ∀ v ∈ ([] : List PV), v.ok (fun _ => False) := fun v hv => by cases hv
  have hc := law_v hH (wI hr hH) fk_ok (start_pc w [] (fun p hp => by cases hp)) hv yF
  have e : (([] : List PV).map (PV.v m00)).toArray = #[] := rfl
  rw [e] at hc
  exact hc
theorem walk (a0 : Int) (a1 : Option Addr) (len1 cap1 : Nat) (z1 : List Int) (a2 : Option Addr) (len2 cap2 : Nat) (z2 : List Int) (W : World) (w0 : (Lit.int .u8 a0).wf = true) (w1 : lY .u32 W a1 len1 cap1 z1) (w2 : lY .u32 W a2 len2 cap2 z2) :
    Calls Try.prog 4 #[.int .u8 a0, .slice a1 len1 cap1, .slice a2 len2 cap2] W fun e W' => e = .returned (.bool true) ∧ Below W.heap.size W W' := by
  letI := rho a0 len1 z1 len2 z2
  have h0 := wG.1 w0
  have hH : mE.Ok := hook_ok a0 len1 z1 len2 z2 h0
  have hen : gB Try.prog en1 := gB.cons (yes0_ok Try.func14 (by kernel_rfl) (by kernel_rfl) fun w => pX (fun _ _ => rfl) hH w) (wI (fun _ _ => rfl) hH)
  have hv : ∀ v ∈ args, v.ok (fun j => j = 0 ∨ j = 1) := by
    intro v hv
    simp only [args, List.mem_cons, List.not_mem_nil, or_false] at hv
    rcases hv with rfl | rfl | rfl
    · exact h0
    · exact .inl rfl
    · exact .inr rfl
  have e : (args.map (PV.v (m2 a1 len1 cap1 a2 len2 cap2))).toArray = #[.int .u8 a0, .slice a1 len1 cap1, .slice a2 len2 cap2] := by
    simp only [args, List.map]
    show #[Value.int .u8 a0, Value.slice a1 len1 cap1, Value.slice a2 len2 cap2] = _
    rfl
  have fin : ∀ pc : Facts, iY pc → evFn mE Try.prog en1 fs 1000 40 4 args (st pc) (Kt mE) = true → Calls Try.prog 4 #[.int .u8 a0, .slice a1 len1 cap1, .slice a2 len2 cap2] W fun e W' => e = .returned (.bool true) ∧ Below W.heap.size W W' := by
    intro pc hpc hrun
    have hc := law_v hH hen fs_ok (yY W pc hpc w1 w2 rfl rfl) hv hrun
    rw [e] at hc
    exact hc
  exact fin [] (fun p hp => by cases hp) run0
end Go.Proofs.Ytolpdiifmacdbaa.XwCs
