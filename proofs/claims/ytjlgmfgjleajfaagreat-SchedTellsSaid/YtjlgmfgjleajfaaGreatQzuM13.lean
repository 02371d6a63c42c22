import Derived.Test.YtjlgmfgjleajfaaGreatQzuPartsN
import Derived.Test.YtjlgmfgjleajfaaGreatQzuM11
import Derived.Test.YtjlgmfgjleajfaaGreatQzuM8
import Derived.Test.YtjlgmfgjleajfaaGreatQzuM4
import Derived.Test.YtjlgmfgjleajfaaGreatProg
import Derived.Test.YtjlgmfgjleajfaaGreatQzuM6
import Derived.Test.YtjlgmfgjleajfaaGreatQzuM5
import Derived.Test.YtjlgmfgjleajfaaGreatQzuM7
import Derived.Test.YtjlgmfgjleajfaaGreatQzuM10
import Derived.Test.YtjlgmfgjleajfaaGreatQzuZ
import Derived.Test.YtjlgmfgjleajfaaGreatQzuM12
/- Bounds of single numbers: sums, products, quotients of what is bounded: plain numbers alone. -/
set_option linter.unusedVariables false
set_option linter.unusedSimpArgs false
set_option maxRecDepth 100000
set_option maxHeartbeats 8000000
namespace Go.Proofs.YtjlgmfgjleajfaaGreat.Round
open Go.RowKit Go.Proofs.YtjlgmfgjleajfaaGreat.P Go.Proofs.YtjlgmfgjleajfaaGreat.Num Go.Proofs.YtjlgmfgjleajfaaGreat.BitsF Go.Proofs.YtjlgmfgjleajfaaGreat.Fmt Go.Proofs.YtjlgmfgjleajfaaGreatW.PrintWords Go.Proofs.YtjlgmfgjleajfaaGreatW.PrintLast Go.Proofs.YtjlgmfgjleajfaaGreatW.PrintMore

def Bd (v e : Nat) : Prop := bK 2 v < 3 ∧ bH 2 v * 2 ^ (bA 2 v + 149).toNat ≤ 2 ^ (e + 149)
theorem fm_2 : fm 2 = 23 := rfl
theorem vK : dQ 2 = -126 := by decide
theorem bd_key (mode : Int) (neg : Bool) (x : Int) (a : Nat) (more : Bool) (e : Nat) (he : e ≤ 100) (h : oI 2 mode neg x a more ≤ (e + 127) * 8388608) : Bd (gD 2 mode neg x a more) e := by
 have ho : jK 2 (oI 2 mode neg x a more) = false := by
  unfold jK
  rw [decide_eq_false_iff_not, show iT 2 = 255 from rfl, show (2 : Nat) ^ fm 2 = 8388608 from rfl]; omega
 have hp : gD 2 mode neg x a more = oI 2 mode neg x a more + fO 2 neg := by unfold gD; rw [ho, if_neg (by decide)]
 rw [hp]
 generalize oI 2 mode neg x a more = K at *
 have hK : K < 2 ^ (fe 2 + fm 2) := by rw [show (2 : Nat) ^ (fe 2 + fm 2) = 2147483648 from rfl]; omega
 obtain ⟨s1, s2, s3⟩ := qL 2 K neg hK
 have hm := nK 2 (K + fO 2 neg)
 have ha := xI 2 (K + fO 2 neg)
 rw [s2] at ha
 have hexp : mF 2 (K + fO 2 neg) = K / 8388608 := by rw [← hm.1, s2]; rfl
 refine ⟨(qN 2 _).mpr (by rw [hexp, show iT 2 = 255 from rfl]; omega), ?_⟩
 have hl : (bA 2 (K + fO 2 neg) + 149).toNat = mF 2 (K + fO 2 neg) - 1 := by unfold bA; rw [vK, fm_2]; omega
 rw [hl, ← ha]
 refine Nat.le_trans (aAd 2 h) (Nat.le_of_eq ?_)
 have hk := amt_key 2 (e + 126) 8388608 (by rw [fm_2]; decide) (.inr (by rw [fm_2]; decide))
 rw [show (2 : Nat) ^ fm 2 = 8388608 from rfl, show (e + 126) * 8388608 + 8388608 = (e + 127) * 8388608 by omega] at hk
 rw [hk, show (8388608 : Nat) = 2 ^ 23 by decide, ← Nat.pow_add]; congr 1; omega
theorem yY (mode : Int) (neg : Bool) (j W e : Nat) (he : e ≤ 100) (hj : 23 ≤ j) (h : W ≤ 2 ^ (e + j)) : Bd (gD 2 mode neg (-(j : Int)) W false) e := by
 refine bd_key mode neg _ W false e he (Nat.le_trans (vJ 2 mode neg _ h (fun _ x => x)) (Nat.le_of_eq ?_))
 have hx := xQ 2 mode neg 8388608 (e + j - 23) (e + 126) (by rw [fm_2]; decide) (.inr (by rw [fm_2]; decide))
 rw [vK, fm_2, show (-126 : Int) - (23 : Nat) + ((e + 126 : Nat) : Int) - ((e + j - 23 : Nat) : Int) = -(j : Int) by omega, show 8388608 * 2 ^ (e + j - 23) = 2 ^ (e + j) by rw [show (8388608 : Nat) = 2 ^ 23 by decide, ← Nat.pow_add]; congr 1; omega, show (e + 126) * 2 ^ 23 + 8388608 = (e + 127) * 8388608 by omega] at hx
 exact hx
theorem aBA (b : Bool) (e : Nat) : Bd (fO 2 b) e := by
 obtain ⟨z1, z2, z3⟩ := zP 2 b
 refine ⟨by omega, ?_⟩
 rw [(l6 2 _ z1).2, Nat.zero_mul]; exact Nat.zero_le _
theorem zI {v e : Nat} (h : Bd v e) : bH 2 v * 2 ^ (bA 2 v + 298).toNat ≤ 2 ^ (e + 298) := by
 have hl := fM 2 v h.1
 have := Nat.mul_le_mul_right (2 ^ 149) h.2
 rw [Nat.mul_assoc, ← Nat.pow_add, ← Nat.pow_add, show (bA 2 v + 149).toNat + 149 = (bA 2 v + 298).toNat by omega, show e + 149 + 149 = e + 298 by omega] at this
 exact this
theorem uW (mode : Int) (n1 : Bool) (e1 : Int) (s1 : Nat) (n2 : Bool) (e2 : Int) (s2 : Nat) (l1 : -298 ≤ e1) (l2 : -298 ≤ e2) (h1 : s1 < 1152921504606846976) (h2 : s2 < 1152921504606846976) (E : Nat) (hE : E ≤ 99)
  (b1 : s1 * 2 ^ (e1 + 298).toNat ≤ 2 ^ (E + 298)) (b2 : s2 * 2 ^ (e2 + 298).toNat ≤ 2 ^ (E + 298)) : Bd (gG 2 mode n1 n2 (lC n1 e1 s1 n2 e2 s2)) (E + 1) := by
 rw [(oF 2 mode n1 e1 s1 n2 e2 s2 l1 l2 h1 h2).1]
 generalize s1 * 2 ^ (e1 + 298).toNat = X at *
 generalize s2 * 2 ^ (e2 + 298).toNat = Y at *
 have hw : (jD n1 X n2 Y).2 ≤ X + Y := by
  unfold jD
  split
  ·exact Nat.le_refl _
  ·split
   ·exact Nat.le_trans (Nat.sub_le _ _) (Nat.le_add_left _ _)
   ·exact Nat.le_trans (Nat.sub_le _ _) (Nat.le_add_right _ _)
 have hs : X + Y ≤ 2 ^ (E + 1 + 298) := by
  rw [show E + 1 + 298 = E + 298 + 1 by omega, Nat.pow_succ, Nat.mul_two]
  exact Nat.add_le_add b1 b2
 split
 ·unfold l9
  split <;> exact aBA _ _
 ·exact yY mode _ 298 _ (E + 1) (by omega) (by decide) (Nat.le_trans hw hs)
theorem bd_sum (mode : Int) {a b e : Nat} (ha : Bd a e) (hb : Bd b e) (he : e ≤ 99) : Bd (rV 2 mode a b) (e + 1) := by
 have ca := ha.1
 have cb := hb.1
 have e1 : rV 2 mode a b = gG 2 mode (dE 2 a) (dE 2 b) (vW 2 a b) := by
  unfold rV
  rw [if_neg (show ¬ (4 ≤ bK 2 a ∨ 4 ≤ bK 2 b) by omega), if_neg (show ¬ (bK 2 a = 3 ∧ bK 2 b = 3 ∧ dE 2 a ≠ dE 2 b) from fun h => by omega), if_neg (show ¬ bK 2 a = 3 by omega), if_neg (show ¬ bK 2 b = 3 by omega)]
 rw [e1]
 have la := (fM 2 a ca).1
 have lb := (fM 2 b cb).1
 exact uW mode _ _ _ _ _ _ (by omega) (by omega) (jN 2 a) (jN 2 b) e he (zI ha) (zI hb)
theorem bd_sub (mode : Int) {a b e : Nat} (ha : Bd a e) (hb : Bd b e) (he : e ≤ 99) : Bd (uL 2 mode a b) (e + 1) := by
 have ca := ha.1
 have cb := hb.1
 have tp := nZ 2 b
 unfold uL
 rw [if_neg (show ¬ (4 ≤ bK 2 a ∨ 4 ≤ bK 2 b) by omega)]
 exact bd_sum mode ha ⟨by rw [tp.2.1]; exact cb, by rw [tp.2.2.1, tp.2.2.2.1]; exact hb.2⟩ he
theorem aCb {a b e1 e2 : Nat} (ha : Bd a e1) (hb : Bd b e2) : bH 2 a * bH 2 b * 2 ^ (bA 2 a + bA 2 b + 298).toNat ≤ 2 ^ (e1 + e2 + 298) := by
 have la := (fM 2 a ha.1).1
 have lb := (fM 2 b hb.1).1
 have := Nat.mul_le_mul ha.2 hb.2
 rw [Nat.mul_mul_mul_comm, ← Nat.pow_add, ← Nat.pow_add, show (bA 2 a + 149).toNat + (bA 2 b + 149).toNat = (bA 2 a + bA 2 b + 298).toNat by omega, show e1 + 149 + (e2 + 149) = e1 + e2 + 298 by omega] at this
 exact this
theorem aCu (mode : Int) {a b e1 e2 : Nat} (ha : Bd a e1) (hb : Bd b e2) (he : e1 + e2 ≤ 99) : Bd (mulN 2 mode a b) (e1 + e2) := by
 have ca := ha.1
 have cb := hb.1
 have la := (fM 2 a ha.1).1
 have lb := (fM 2 b hb.1).1
 have ht : ¬ kF 2 a b = true := by unfold kF; rw [decide_eq_true_iff]; omega
 have e : mulN 2 mode a b = gD 2 mode (dE 2 a != dE 2 b) (bA 2 a + bA 2 b) (bH 2 a * bH 2 b) false := by
  unfold mulN
  rw [if_neg (show ¬ (4 ≤ bK 2 a ∨ 4 ≤ bK 2 b) by omega), if_neg ht, if_neg (show ¬ (bK 2 a = 3 ∨ bK 2 b = 3) by omega)]
 have p := (lM 2 mode (dE 2 a != dE 2 b) (-298) (bH 2 a * bH 2 b) (bA 2 a + bA 2 b + 298).toNat).1
 rw [show (-298 : Int) + ((bA 2 a + bA 2 b + 298).toNat : Int) = bA 2 a + bA 2 b by omega] at p
 rw [e, ← p]
 exact yY mode _ 298 _ (e1 + e2) (by omega) (by decide) (aCb ha hb)
theorem aCm (mode : Int) {a b c e1 e2 E : Nat} (ha : Bd a e1) (hb : Bd b e2) (hc : Bd c E) (h : e1 + e2 ≤ E) (he : E ≤ 99) : Bd (qO 2 mode a b c) (E + 1) := by
 have ca := ha.1
 have cb := hb.1
 have la := (fM 2 a ha.1).1
 have lb := (fM 2 b hb.1).1
 have lc := (fM 2 c hc.1).1
 rw [(aBa 2 mode a b c ca cb hc.1).1]
 exact uW mode _ _ _ _ _ _ (by omega) (by omega) (zN 2 a b) (jN 2 c) E he (Nat.le_trans (aCb ha hb) (Nat.pow_le_pow_right (by decide) (by omega))) (zI hc)
theorem bd_int (mode : Int) (neg : Bool) (n : Nat) (h : n ≤ 2 ^ 63) : Bd (gD 2 mode neg 0 n false) 63 := by
 obtain ⟨j, hj⟩ : ∃ j : Nat, j = 30 := ⟨_, rfl⟩
 have p := (lM 2 mode neg (-(j : Int)) n j).1
 rw [show -(j : Int) + (j : Int) = 0 by omega] at p
 rw [← p]
 refine yY mode neg j _ 63 (by decide) (by omega) ?_
 rw [Nat.pow_add]
 exact Nat.mul_le_mul_right _ h
theorem bd_ratio (mode : Int) {a b : Nat} (ca : bK 2 a < 3) (cb : bK 2 b < 3) (a0 : bK 2 a ≠ 0) (b0 : bK 2 b ≠ 0) (h : bH 2 a * 2 ^ (bA 2 a + 149).toNat ≤ bH 2 b * 2 ^ (bA 2 b + 149).toNat) : Bd (xB 2 mode a b) 1 := by
 have la := fM 2 a ca
 have lb := fM 2 b cb
 have wa := mJ 2 a a0 ca
 have wb := mJ 2 b b0 cb
 have wb24 := vZ 2 b
 obtain ⟨k1, k2, k3, k4, k5⟩ := oQ 2 a wa
 unfold xB
 generalize kW 2 a = L at *
 generalize bH 2 a = A at *
 generalize bH 2 b = B at *
 obtain ⟨p, hp⟩ : ∃ p : Nat, bA 2 a + 149 = (p : Int) := ⟨(bA 2 a + 149).toNat, by omega⟩
 obtain ⟨q, hq⟩ : ∃ q : Nat, bA 2 b + 149 = (q : Int) := ⟨(bA 2 b + 149).toNat, by omega⟩
 rw [hp, hq, Int.toNat_natCast, Int.toNat_natCast] at h
 have hB : 0 < B := Nat.pos_of_ne_zero wb
 have hQ : A * 2 ^ L / B * B ≤ A * 2 ^ L := Nat.div_mul_le_self _ _
 have hQ1 : 137438953472 ≤ A * 2 ^ L / B := by
  rw [Nat.le_div_iff_mul_le hB]
  exact Nat.le_trans (Nat.mul_le_mul_left _ (Nat.le_of_lt wb24)) (Nat.le_trans (by decide) k4)
 generalize decide (A * 2 ^ L % B ≠ 0) = more
 generalize A * 2 ^ L / B = Q at *
 have h1 : Q * 2 ^ p ≤ 2 ^ (q + L) := by
  have h2 := Nat.mul_le_mul_right (2 ^ p) hQ
  have h3 := Nat.mul_le_mul_right (2 ^ L) h
  have h4 : Q * 2 ^ p * B ≤ 2 ^ (q + L) * B := by
   rw [Nat.mul_right_comm Q, Nat.pow_add, Nat.mul_comm (2 ^ q * 2 ^ L), ← Nat.mul_assoc]
   refine Nat.le_trans h2 ?_
   rw [Nat.mul_right_comm A]; exact h3
  exact Nat.le_of_mul_le_mul_right h4 hB
 have hd : p + 37 ≤ q + L := by
  have h5 : 2 ^ (37 + p) ≤ 2 ^ (q + L) := by
   rw [Nat.pow_add]
   exact Nat.le_trans (Nat.mul_le_mul_right _ (show 2 ^ 37 ≤ Q from hQ1)) h1
  have := (Nat.pow_le_pow_iff_right (show 1 < 2 by decide)).mp h5
  omega
 obtain ⟨d, hd'⟩ : ∃ d, q + L = p + d := ⟨q + L - p, by omega⟩
 have hQd : Q ≤ 2 ^ d := by
  rw [hd', Nat.pow_add, Nat.mul_comm (2 ^ p)] at h1
  exact Nat.le_of_mul_le_mul_right h1 (Nat.two_pow_pos p)
 have hx : bA 2 a - bA 2 b - (L : Int) = -(d : Int) := by omega
 rw [hx]
 refine bd_key mode _ _ Q more 1 (by decide) ?_
 have hs : Q + 1 ≤ 2 ^ (1 + d) := by
  have := Nat.two_pow_pos d
  rw [Nat.add_comm 1 d, Nat.pow_succ, Nat.mul_two]; omega
 have hm := vJ 2 mode (dE 2 a != dE 2 b) (-(d : Int)) (a := Q) (b := 2 ^ (1 + d)) (more := more) (less := false) (Nat.le_of_lt hs) (fun e _ => absurd e (Nat.ne_of_lt hs))
 refine Nat.le_trans hm (Nat.le_of_eq ?_)
 have hk := xQ 2 mode (dE 2 a != dE 2 b) 8388608 (1 + d - 23) (1 + 126) (by rw [fm_2]; decide) (.inr (by rw [fm_2]; decide))
 rw [vK, fm_2, show (-126 : Int) - (23 : Nat) + ((1 + 126 : Nat) : Int) - ((1 + d - 23 : Nat) : Int) = -(d : Int) by omega, show 8388608 * 2 ^ (1 + d - 23) = 2 ^ (1 + d) by rw [show (8388608 : Nat) = 2 ^ 23 by decide, ← Nat.pow_add]; congr 1; omega] at hk
 exact hk
end Go.Proofs.YtjlgmfgjleajfaaGreat.Round

/- Entries of functions. -/
namespace Go.Proofs.YtjlgmfgjleajfaaGreat.L
open Go.RowKit Go.Proofs.YtjlgmfgjleajfaaGreat.P Go.Proofs.YtjlgmfgjleajfaaGreat.Ek Go.Proofs.YtjlgmfgjleajfaaGreatW.PrintWords Go.Proofs.YtjlgmfgjleajfaaGreatW.PrintLast Go.Proofs.YtjlgmfgjleajfaaGreatW.PrintMore
noncomputable def aY.c : Fc := mkFcA [.s (hI .i64), .sl .u32] [hI .u32, .agg [.b, .b, .b, .b, .b], hB] (T := Int × Bool × Bool × Bool × Bool × Bool × Bool) (fun y => ((y.1, ()), (y.2.1, y.2.2.1, y.2.2.2.1, y.2.2.2.2.1, y.2.2.2.2.2.1, ()), (y.2.2.2.2.2.2, ()), ())) fun n x => aY.f n x.1.1 x.2.1
theorem aY.ok : iP Tryz.prog 32 aY.c := yS Tryz.func32 (by kernel_rfl) (by kernel_rfl) (by decide) (fun _ => dP (by decide) _) fun n x y h m w vs ha => by obtain ⟨q0, e0, ha⟩ := ha; subst e0; obtain ⟨A1, c1, q1, e1, R1, D1, ha⟩ := ha; subst e1; subst ha; exact (aY.calls n x.1.1 A1 c1 x.2.1 y.1 y.2.1 y.2.2.1 y.2.2.2.1 y.2.2.2.2.1 y.2.2.2.2.2.1 y.2.2.2.2.2.2 w R1 D1 h).mono fun e w' he => ⟨he.1, he.2⟩
noncomputable def dS.c : Fc := jC [hI .i64, hI .u32] [hB] (T := Bool) (fun y => ((y, ()), ())) fun n x => dS.f x.1.1 x.2.1.1
theorem dS.ok : iP Tryz.prog 33 dS.c := fF Tryz.func33 (by kernel_rfl) (by kernel_rfl) (by decide) (fun _ => dP (by decide) _) fun n x y h m w => (dS.calls x.1.1 x.2.1.1 y w h).mono fun e w' he => ⟨he.1, he.2.below⟩
noncomputable def aT.c : Fc := jC [hI .i64, hI .u32] [hI .i64] (T := Int) (fun y => ((y, ()), ())) fun n x => aT.f n x.1.1 x.2.1.1
theorem aT.ok : iP Tryz.prog 34 aT.c := fF Tryz.func34 (by kernel_rfl) (by kernel_rfl) (by decide) (fun _ => dP (by decide) _) fun n x y h m w => (aT.calls n x.1.1 x.2.1.1 y w h).mono fun e w' he => ⟨he.1, he.2.below⟩
noncomputable def gL.c : Fc := jC [hI .i64] [hI .u32, .agg [.b, .b, .b, .b, .b]] (T := Int × Bool × Bool × Bool × Bool × Bool) (fun y => ((y.1, ()), (y.2.1, y.2.2.1, y.2.2.2.1, y.2.2.2.2.1, y.2.2.2.2.2, ()), ())) fun n x => gL.f x.1.1
theorem gL.ok : iP Tryz.prog 35 gL.c := fF Tryz.func35 (by kernel_rfl) (by kernel_rfl) (by decide) (fun _ => dP (by decide) _) fun n x y h m w => (gL.calls x.1.1 y.1 y.2.1 y.2.2.1 y.2.2.2.1 y.2.2.2.2.1 y.2.2.2.2.2 w h).mono fun e w' he => ⟨he.1, he.2⟩
noncomputable def gP.c : Fc := jC [hI .i64, hI .u32] [.agg [.b, .i .i64, .i .u64, .b]] (T := Bool × Int × Int × Bool) (fun y => ((y.1, y.2.1, y.2.2.1, y.2.2.2, ()), ())) fun n x => gP.f x.1.1 x.2.1.1
theorem gP.ok : iP Tryz.prog 38 gP.c := fF Tryz.func38 (by kernel_rfl) (by kernel_rfl) (by decide) (fun _ => dP (by decide) _) fun n x y h m w => (gP.calls x.1.1 x.2.1.1 y.1 y.2.1 y.2.2.1 y.2.2.2 w h).mono fun e w' he => ⟨he.1, he.2⟩
noncomputable def bE.cls : Cls := [(32, aY.c), (33, dS.c), (34, aT.c), (35, gL.c), (36, dR.c), (37, eF.c), (38, gP.c), (39, bits_Len.c), (40, aV.c), (41, aB.c)]
theorem bE.iI : dB Tryz.prog bE.cls := dB.cons aY.ok (dB.cons dS.ok (dB.cons aT.ok (dB.cons gL.ok (dB.cons dR.ok (dB.cons eF.ok (dB.cons gP.ok (dB.cons bits_Len.ok (dB.cons aV.ok (dB.cons aB.ok (dB.nil))))))))))
noncomputable def bE.K (v : SV) : Option (Int × Bool × Bool × Bool × Bool × Bool) := (lI [hI .u32, .agg [.b, .b, .b, .b, .b]] v).map (fun z => (z.1.1, z.2.1.1, z.2.1.2.1, z.2.1.2.2.1, z.2.1.2.2.2.1, z.2.1.2.2.2.2.1))
noncomputable def bE.cuts : List Nat := [7, 11]
noncomputable def bE.f (k : Nat) (a0 a1 : Int) (a2 a3 : Int) : Option (Int × Bool × Bool × Bool × Bool × Bool) := evF Tryz.prog bE.cls Tryz.f19 bE.cuts k [.one (.i .i64 (.x a0)), .one (.i .i64 (.x a1)), .one (.i .u32 (.x a2)), .one (.i .u32 (.x a3))] bE.K
noncomputable def bE.c : Fc := jC [hI .i64, hI .i64, hI .u32, hI .u32] [hI .u32, .agg [.b, .b, .b, .b, .b]] (T := Int × Bool × Bool × Bool × Bool × Bool) (fun y => ((y.1, ()), (y.2.1, y.2.2.1, y.2.2.2.1, y.2.2.2.2.1, y.2.2.2.2.2, ()), ())) fun n x => bE.f n x.1.1 x.2.1.1 x.2.2.1.1 x.2.2.2.1.1
theorem bE.ok : iP Tryz.prog 19 bE.c := uD bE.iI Tryz.func19 (by kernel_rfl) (by kernel_rfl) (by decide) (fun _ => rfl) (fun _ _ => rfl)
noncomputable def dK.c : Fc := jC [hI .i64, hI .u32, hI .u32] [hB] (T := Bool) (fun y => ((y, ()), ())) fun n x => dK.f n x.1.1 x.2.1.1 x.2.2.1.1
theorem dK.ok : iP Tryz.prog 65 dK.c := fF Tryz.func65 (by kernel_rfl) (by kernel_rfl) (by decide) (fun _ => dP (by decide) _) fun n x y h m w => (dK.calls n x.1.1 x.2.1.1 x.2.2.1.1 y w h).mono fun e w' he => ⟨he.1, he.2.below⟩
noncomputable def aJ.c : Fc := jC [hI .i64, hI .u32] [hB] (T := Bool) (fun y => ((y, ()), ())) fun n x => aJ.f n x.1.1 x.2.1.1
theorem aJ.ok : iP Tryz.prog 66 aJ.c := fF Tryz.func66 (by kernel_rfl) (by kernel_rfl) (by decide) (fun _ => dP (by decide) _) fun n x y h m w => (aJ.calls n x.1.1 x.2.1.1 y w h).mono fun e w' he => ⟨he.1, he.2.below⟩
noncomputable def eQ.c : Fc := jC [hI .i64, hI .u32, hI .u32] [.agg [.b, .i .i64, .i .u64, .b]] (T := Bool × Int × Int × Bool) (fun y => ((y.1, y.2.1, y.2.2.1, y.2.2.2, ()), ())) fun n x => eQ.f x.1.1 x.2.1.1 x.2.2.1.1
theorem eQ.ok : iP Tryz.prog 67 eQ.c := fF Tryz.func67 (by kernel_rfl) (by kernel_rfl) (by decide) (fun _ => dP (by decide) _) fun n x y h m w => (eQ.calls x.1.1 x.2.1.1 x.2.2.1.1 y.1 y.2.1 y.2.2.1 y.2.2.2 w h).mono fun e w' he => ⟨he.1, he.2⟩
noncomputable def cZ.cls : Cls := [(32, aY.c), (65, dK.c), (35, gL.c), (33, dS.c), (66, aJ.c), (36, dR.c), (67, eQ.c), (41, aB.c)]
theorem cZ.iI : dB Tryz.prog cZ.cls := dB.cons aY.ok (dB.cons dK.ok (dB.cons gL.ok (dB.cons dS.ok (dB.cons aJ.ok (dB.cons dR.ok (dB.cons eQ.ok (dB.cons aB.ok (dB.nil))))))))
noncomputable def cZ.K (v : SV) : Option (Int × Bool × Bool × Bool × Bool × Bool) := (lI [hI .u32, .agg [.b, .b, .b, .b, .b]] v).map (fun z => (z.1.1, z.2.1.1, z.2.1.2.1, z.2.1.2.2.1, z.2.1.2.2.2.1, z.2.1.2.2.2.2.1))
noncomputable def cZ.cuts : List Nat := [8]
noncomputable def cZ.f (k : Nat) (a0 a1 : Int) (a2 a3 : Int) : Option (Int × Bool × Bool × Bool × Bool × Bool) := evF Tryz.prog cZ.cls Tryz.f31 cZ.cuts k [.one (.i .i64 (.x a0)), .one (.i .i64 (.x a1)), .one (.i .u32 (.x a2)), .one (.i .u32 (.x a3))] cZ.K
noncomputable def cZ.c : Fc := jC [hI .i64, hI .i64, hI .u32, hI .u32] [hI .u32, .agg [.b, .b, .b, .b, .b]] (T := Int × Bool × Bool × Bool × Bool × Bool) (fun y => ((y.1, ()), (y.2.1, y.2.2.1, y.2.2.2.1, y.2.2.2.2.1, y.2.2.2.2.2, ()), ())) fun n x => cZ.f n x.1.1 x.2.1.1 x.2.2.1.1 x.2.2.2.1.1
theorem cZ.ok : iP Tryz.prog 31 cZ.c := uD cZ.iI Tryz.func31 (by kernel_rfl) (by kernel_rfl) (by decide) (fun _ => rfl) (fun _ _ => rfl)
noncomputable def aU.c : Fc := jC [hI .i64, hB, hB, hB, hB] [hI .u32, .agg [.b, .b, .b, .b, .b]] (T := Int × Bool × Bool × Bool × Bool × Bool) (fun y => ((y.1, ()), (y.2.1, y.2.2.1, y.2.2.2.1, y.2.2.2.2.1, y.2.2.2.2.2, ()), ())) fun n x => aU.f n x.1.1 x.2.1.1 x.2.2.1.1 x.2.2.2.1.1 x.2.2.2.2.1.1
theorem aU.ok : iP Tryz.prog 81 aU.c := fF Tryz.func81 (by kernel_rfl) (by kernel_rfl) (by decide) (fun _ => dP (by decide) _) fun n x y h m w => (aU.calls n x.1.1 x.2.1.1 x.2.2.1.1 x.2.2.2.1.1 x.2.2.2.2.1.1 y.1 y.2.1 y.2.2.1 y.2.2.2.1 y.2.2.2.2.1 y.2.2.2.2.2 w h).mono fun e w' he => ⟨he.1, he.2⟩
noncomputable def fT.c : Fc := jC [hI .i64, hI .i64, hB, hB] [hI .u32] (T := Int) (fun y => ((y, ()), ())) fun n x => fT.f x.1.1 x.2.1.1 x.2.2.1.1 x.2.2.2.1.1
theorem fT.ok : iP Tryz.prog 83 fT.c := fF Tryz.func83 (by kernel_rfl) (by kernel_rfl) (by decide) (fun _ => dP (by decide) _) fun n x y h m w => (fT.calls x.1.1 x.2.1.1 x.2.2.1.1 x.2.2.2.1.1 y w h).mono fun e w' he => ⟨he.1, he.2.below⟩
noncomputable def bP.cls : Cls := [(32, aY.c), (66, aJ.c), (33, dS.c), (81, aU.c), (38, gP.c), (82, aH.c), (83, fT.c), (41, aB.c)]
theorem bP.iI : dB Tryz.prog bP.cls := dB.cons aY.ok (dB.cons aJ.ok (dB.cons dS.ok (dB.cons aU.ok (dB.cons gP.ok (dB.cons aH.ok (dB.cons fT.ok (dB.cons aB.ok (dB.nil))))))))
noncomputable def bP.K (v : SV) : Option (Int × Bool × Bool × Bool × Bool × Bool) := (lI [hI .u32, .agg [.b, .b, .b, .b, .b]] v).map (fun z => (z.1.1, z.2.1.1, z.2.1.2.1, z.2.1.2.2.1, z.2.1.2.2.2.1, z.2.1.2.2.2.2.1))
noncomputable def bP.cuts : List Nat := [6, 10]
noncomputable def bP.f (k : Nat) (a0 a1 : Int) (a2 a3 : Int) : Option (Int × Bool × Bool × Bool × Bool × Bool) := evF Tryz.prog bP.cls Tryz.f43 bP.cuts k [.one (.i .i64 (.x a0)), .one (.i .i64 (.x a1)), .one (.i .u32 (.x a2)), .one (.i .u32 (.x a3))] bP.K
noncomputable def bP.c : Fc := jC [hI .i64, hI .i64, hI .u32, hI .u32] [hI .u32, .agg [.b, .b, .b, .b, .b]] (T := Int × Bool × Bool × Bool × Bool × Bool) (fun y => ((y.1, ()), (y.2.1, y.2.2.1, y.2.2.2.1, y.2.2.2.2.1, y.2.2.2.2.2, ()), ())) fun n x => bP.f n x.1.1 x.2.1.1 x.2.2.1.1 x.2.2.2.1.1
theorem bP.ok : iP Tryz.prog 43 bP.c := uD bP.iI Tryz.func43 (by kernel_rfl) (by kernel_rfl) (by decide) (fun _ => rfl) (fun _ _ => rfl)
noncomputable def aX.cls : Cls := [(65, dK.c), (32, aY.c), (35, gL.c), (33, dS.c), (66, aJ.c), (81, aU.c), (67, eQ.c), (38, gP.c), (82, aH.c), (83, fT.c), (41, aB.c)]
theorem aX.iI : dB Tryz.prog aX.cls := dB.cons dK.ok (dB.cons aY.ok (dB.cons gL.ok (dB.cons dS.ok (dB.cons aJ.ok (dB.cons aU.ok (dB.cons eQ.ok (dB.cons gP.ok (dB.cons aH.ok (dB.cons fT.ok (dB.cons aB.ok (dB.nil)))))))))))
noncomputable def aX.K (v : SV) : Option (Int × Bool × Bool × Bool × Bool × Bool) := (lI [hI .u32, .agg [.b, .b, .b, .b, .b]] v).map (fun z => (z.1.1, z.2.1.1, z.2.1.2.1, z.2.1.2.2.1, z.2.1.2.2.2.1, z.2.1.2.2.2.2.1))
noncomputable def aX.cuts : List Nat := [10, 11, 15]
noncomputable def aX.f (k : Nat) (a0 a1 : Int) (a2 a3 a4 : Int) : Option (Int × Bool × Bool × Bool × Bool × Bool) := evF Tryz.prog aX.cls Tryz.f104 aX.cuts k [.one (.i .i64 (.x a0)), .one (.i .i64 (.x a1)), .one (.i .u32 (.x a2)), .one (.i .u32 (.x a3)), .one (.i .u32 (.x a4))] aX.K
noncomputable def aX.c : Fc := jC [hI .i64, hI .i64, hI .u32, hI .u32, hI .u32] [hI .u32, .agg [.b, .b, .b, .b, .b]] (T := Int × Bool × Bool × Bool × Bool × Bool) (fun y => ((y.1, ()), (y.2.1, y.2.2.1, y.2.2.2.1, y.2.2.2.2.1, y.2.2.2.2.2, ()), ())) fun n x => aX.f n x.1.1 x.2.1.1 x.2.2.1.1 x.2.2.2.1.1 x.2.2.2.2.1.1
theorem aX.ok : iP Tryz.prog 104 aX.c := uD aX.iI Tryz.func104 (by kernel_rfl) (by kernel_rfl) (by decide) (fun _ => rfl) (fun _ _ => rfl)
/- Functions' trees, printed by a tool of mine out of the reckoner; Lean's kernel checks each. -/
set_option maxRecDepth 100000
noncomputable def bE.j7 (n0 : Nat) (x0 : Bool) (x1 x2 : Int) (x3 : Bool) (x4 x5 : Int) (x6 x7 : Int) (x8 x9 : Bool) (x10 x11 x12 : Bool) := jV Tryz.prog bE.cls Tryz.f19 bE.cuts [1, 1, 1, 1, 0, 0, 1] [n0] n0 ⟨[(46, (.pv (.one (.b (.q x0))))), (15, (.pv (.one (.i .i64 (.x x1))))), (14, (.pv (.one (.i .i64 (.x x2))))), (13, (.pv (.one (.b (.q x3))))), (9, (.pv (.one (.p 0 0)))), (3, (.pv (.one (.i .u32 (.x x4))))), (2, (.pv (.one (.i .u32 (.x x5))))), (1, (.pv (.one (.i .i64 (.x x6))))), (0, (.pv (.one (.i .i64 (.x x7)))))], [(0, (42, [(.c (.b (.q x8))), (.c (.b (.q x9))), (.c (.b (.q x10))), (.c (.b (.q x11))), (.c (.b (.q x12)))]))], 1⟩ bE.K
noncomputable def bE.j11 (n0 : Nat) (x0 : Bool) (x1 : Int) (x2 : Bool) (x3 x4 : Int) (x5 x6 : Int) (x7 x8 : Bool) (x9 x10 x11 : Bool) := jV Tryz.prog bE.cls Tryz.f19 bE.cuts [1, 1, 1, 1, 0, 0, 1, 1, 1, 1, 1] [n0] n0 ⟨[(69, (.pv (.one (.b (.q x0))))), (15, (.pv (.one (.i .i64 (.x x1))))), (13, (.pv (.one (.b (.q x2))))), (9, (.pv (.one (.p 0 0)))), (3, (.pv (.one (.i .u32 (.x x3))))), (2, (.pv (.one (.i .u32 (.x x4))))), (1, (.pv (.one (.i .i64 (.x x5))))), (0, (.pv (.one (.i .i64 (.x x6)))))], [(0, (42, [(.c (.b (.q x7))), (.c (.b (.q x8))), (.c (.b (.q x9))), (.c (.b (.q x10))), (.c (.b (.q x11)))]))], 1⟩ bE.K
theorem bE.eq (n0 : Nat) (a0 a1 : Int) (a2 a3 : Int) : bE.f n0 a0 a1 a2 a3 = ((aY.f n0 a0 [a2, a3]).bind fun t0 => (if t0.2.2.2.2.2.2 = true then (some ((t0.1, t0.2.1, t0.2.2.1, t0.2.2.2.1, t0.2.2.2.2.1, t0.2.2.2.2.2.1))) else ((dS.f a0 a2).bind fun t1 => ((dS.f a0 a3).bind fun t2 => ((aT.f n0 a0 a2).bind fun t3 => ((aT.f n0 a0 a3).bind fun t4 => (if t3 = t4 then (if t3 = 0 then (bE.j7 n0 (true) (t4) (t3) (!(t1 == t2)) (a3) (a2) (a1) (a0) (false) (false) (false) (false) (false)) else (bE.j7 n0 (Decidable.rec (fun h => false) (fun h => true) (Int.instDecidableEq t3 3)) (t4) (t3) (!(t1 == t2)) (a3) (a2) (a1) (a0) (false) (false) (false) (false) (false))) else (bE.j7 n0 (false) (t4) (t3) (!(t1 == t2)) (a3) (a2) (a1) (a0) (false) (false) (false) (false) (false))))))))) := by kernel_rfl
theorem bE.j7_eq (n0 : Nat) (x0 : Bool) (x1 x2 : Int) (x3 : Bool) (x4 x5 : Int) (x6 x7 : Int) (x8 x9 : Bool) (x10 x11 x12 : Bool) : bE.j7 n0 x0 x1 x2 x3 x4 x5 x6 x7 x8 x9 x10 x11 x12 = (if x0 = true then ((gL.f x7).bind fun t0 => (some ((t0.1, t0.2.1, t0.2.2.1, t0.2.2.2.1, t0.2.2.2.2.1, t0.2.2.2.2.2)))) else (if x2 = 3 then ((dR.f x7 x3).bind fun t0 => (some ((t0, false, false, false, false, false)))) else (if x1 = 3 then (bE.j11 n0 (true) (x1) (x3) (x4) (x5) (x6) (x7) (x8) (x9) (x10) (x11) (x12)) else (bE.j11 n0 (Decidable.rec (fun h => false) (fun h => true) (Int.instDecidableEq x2 0)) (x1) (x3) (x4) (x5) (x6) (x7) (x8) (x9) (x10) (x11) (x12))))) := by kernel_rfl
theorem bE.wM (n0 : Nat) (x0 : Bool) (x1 : Int) (x2 : Bool) (x3 x4 : Int) (x5 x6 : Int) (x7 x8 : Bool) (x9 x10 x11 : Bool) : bE.j11 n0 x0 x1 x2 x3 x4 x5 x6 x7 x8 x9 x10 x11 = (if x0 = true then ((eF.f x6 x2).bind fun t0 => (some ((t0, false, false, false, false, false)))) else (if x1 = 0 then ((dR.f x6 x2).bind fun t0 => (some ((t0, false, true, false, false, false)))) else ((gP.f x6 x4).bind fun t0 => ((gP.f x6 x3).bind fun t1 => ((bits_Len.f n0 t0.2.2.1).bind fun t2 => ((aV.f n0 t0.2.2.1 (wrap64 (-wrap64 (62 - t2)))).bind fun t3 => (if t1.2.2.1 = 0 then none else (if t1.2.2.1 = 0 then none else ((aB.f n0 x6 x5 x2 (wrap64 (wrap64 (t0.2.1 - wrap64 (62 - t2)) - t1.2.1)) (IntKind.wrap IntKind.u64 (Int.tdiv t3.1 t1.2.2.1)) !Int.tmod t3.1 t1.2.2.1 == 0).bind fun t4 => (some ((t4.1, t4.2.1, t4.2.2.1, t4.2.2.2.1, t4.2.2.2.2.1, t4.2.2.2.2.2)))))))))))) := by kernel_rfl
noncomputable def cZ.j8 (n0 : Nat) (x0 x1 : Bool) (x2 x3 : Int) (x4 x5 : Int) (x6 x7 : Bool) (x8 x9 x10 : Bool) := jV Tryz.prog cZ.cls Tryz.f31 cZ.cuts [1, 1, 1, 1, 0, 1] [n0] n0 ⟨[(49, (.pv (.one (.b (.q x0))))), (13, (.pv (.one (.b (.q x1))))), (9, (.pv (.one (.p 0 0)))), (3, (.pv (.one (.i .u32 (.x x2))))), (2, (.pv (.one (.i .u32 (.x x3))))), (1, (.pv (.one (.i .i64 (.x x4))))), (0, (.pv (.one (.i .i64 (.x x5)))))], [(0, (42, [(.c (.b (.q x6))), (.c (.b (.q x7))), (.c (.b (.q x8))), (.c (.b (.q x9))), (.c (.b (.q x10)))]))], 1⟩ cZ.K
theorem cZ.eq (n0 : Nat) (a0 a1 : Int) (a2 a3 : Int) : cZ.f n0 a0 a1 a2 a3 = ((aY.f n0 a0 [a2, a3]).bind fun t0 => (if t0.2.2.2.2.2.2 = true then (some ((t0.1, t0.2.1, t0.2.2.1, t0.2.2.2.1, t0.2.2.2.2.1, t0.2.2.2.2.2.1))) else ((dK.f n0 a0 a2 a3).bind fun t1 => (if t1 = true then ((gL.f a0).bind fun t2 => (some ((t2.1, t2.2.1, t2.2.2.1, t2.2.2.2.1, t2.2.2.2.2.1, t2.2.2.2.2.2)))) else ((dS.f a0 a2).bind fun t2 => ((dS.f a0 a3).bind fun t3 => ((aJ.f n0 a0 a2).bind fun t4 => (if t4 = true then (cZ.j8 n0 (true) (!(t2 == t3)) (a3) (a2) (a1) (a0) (false) (false) (false) (false) (false)) else ((aJ.f n0 a0 a3).bind fun t5 => (cZ.j8 n0 (t5) (!(t2 == t3)) (a3) (a2) (a1) (a0) (false) (false) (false) (false) (false))))))))))) := by kernel_rfl
theorem cZ.aCg (n0 : Nat) (x0 x1 : Bool) (x2 x3 : Int) (x4 x5 : Int) (x6 x7 : Bool) (x8 x9 x10 : Bool) : cZ.j8 n0 x0 x1 x2 x3 x4 x5 x6 x7 x8 x9 x10 = (if x0 = true then ((dR.f x5 x1).bind fun t0 => (some ((t0, false, false, false, false, false)))) else ((eQ.f x5 x3 x2).bind fun t0 => ((aB.f n0 x5 x4 x1 t0.2.1 t0.2.2.1 false).bind fun t1 => (some ((t1.1, t1.2.1, t1.2.2.1, t1.2.2.2.1, t1.2.2.2.2.1, t1.2.2.2.2.2)))))) := by kernel_rfl
noncomputable def bP.j6 (n0 : Nat) (x0 x1 x2 : Bool) (x3 x4 : Int) (x5 x6 : Int) (x7 x8 : Bool) (x9 x10 x11 : Bool) := jV Tryz.prog bP.cls Tryz.f43 bP.cuts [1, 1, 1, 0, 1] [n0] n0 ⟨[(39, (.pv (.one (.b (.q x0))))), (14, (.pv (.one (.b (.q x1))))), (13, (.pv (.one (.b (.q x2))))), (9, (.pv (.one (.p 0 0)))), (3, (.pv (.one (.i .u32 (.x x3))))), (2, (.pv (.one (.i .u32 (.x x4))))), (1, (.pv (.one (.i .i64 (.x x5))))), (0, (.pv (.one (.i .i64 (.x x6)))))], [(0, (42, [(.c (.b (.q x7))), (.c (.b (.q x8))), (.c (.b (.q x9))), (.c (.b (.q x10))), (.c (.b (.q x11)))]))], 1⟩ bP.K
noncomputable def bP.j10 (n0 : Nat) (x0 : Bool) (x1 x2 : Int) (x3 : Bool) (x4 x5 : Int) (x6 x7 : Bool) (x8 x9 : Int) (x10 x11 : Bool) (x12 x13 : Int) (x14 x15 : Bool) (x16 x17 : Bool) (x18 x19 : Bool) := jV Tryz.prog bP.cls Tryz.f43 bP.cuts [1, 1, 1, 1, 1, 1, 0, 1] [n0] n0 ⟨[(68, (.pv (.one (.b (.q x0))))), (17, (.pv (.one (.p 3 0)))), (16, (.pv (.one (.p 2 0)))), (15, (.pv (.one (.p 1 0)))), (9, (.pv (.one (.p 0 0)))), (1, (.pv (.one (.i .i64 (.x x1))))), (0, (.pv (.one (.i .i64 (.x x2)))))], [(3, (55, [(.c (.b (.q x3))), (.c (.i .i64 (.x x4))), (.c (.i .u64 (.x x5))), (.c (.b (.q x6)))])), (2, (55, [(.c (.b (.q x7))), (.c (.i .i64 (.x x8))), (.c (.i .u64 (.x x9))), (.c (.b (.q x10)))])), (1, (55, [(.c (.b (.q x11))), (.c (.i .i64 (.x x12))), (.c (.i .u64 (.x x13))), (.c (.b (.q x14)))])), (0, (42, [(.c (.b (.q x15))), (.c (.b (.q x16))), (.c (.b (.q x17))), (.c (.b (.q x18))), (.c (.b (.q x19)))]))], 4⟩ bP.K
theorem bP.eq (n0 : Nat) (a0 a1 : Int) (a2 a3 : Int) : bP.f n0 a0 a1 a2 a3 = ((aY.f n0 a0 [a2, a3]).bind fun t0 => (if t0.2.2.2.2.2.2 = true then (some ((t0.1, t0.2.1, t0.2.2.1, t0.2.2.2.1, t0.2.2.2.2.1, t0.2.2.2.2.2.1))) else ((aJ.f n0 a0 a2).bind fun t1 => ((aJ.f n0 a0 a3).bind fun t2 => (if t1 = true then (bP.j6 n0 (true) (t2) (t1) (a3) (a2) (a1) (a0) (false) (false) (false) (false) (false)) else (bP.j6 n0 (t2) (t2) (t1) (a3) (a2) (a1) (a0) (false) (false) (false) (false) (false))))))) := by kernel_rfl
theorem bP.yC (n0 : Nat) (x0 x1 x2 : Bool) (x3 x4 : Int) (x5 x6 : Int) (x7 x8 : Bool) (x9 x10 x11 : Bool) : bP.j6 n0 x0 x1 x2 x3 x4 x5 x6 x7 x8 x9 x10 x11 = (if x0 = true then ((dS.f x6 x4).bind fun t0 => ((dS.f x6 x3).bind fun t1 => ((aU.f n0 x6 t0 t1 x2 x1).bind fun t2 => (some ((t2.1, t2.2.1, t2.2.2.1, t2.2.2.2.1, t2.2.2.2.2.1, t2.2.2.2.2.2)))))) else ((gP.f x6 x4).bind fun t0 => ((gP.f x6 x3).bind fun t1 => ((YtjlgmfgjleajfaaGreat.L.aH.f n0 t0.1 t0.2.1 t0.2.2.1 t0.2.2.2 t1.1 t1.2.1 t1.2.2.1 t1.2.2.2).bind fun t2 => (if t2.2.2.1 = 0 then (bP.j10 n0 (!t2.2.2.2) (x5) (x6) (t2.1) t2.2.1 t2.2.2.1 (t2.2.2.2) (t1.1) t1.2.1 t1.2.2.1 (t1.2.2.2) (t0.1) t0.2.1 t0.2.2.1 (t0.2.2.2) (x7) (x8) (x9) (x10) (x11)) else (bP.j10 n0 (false) (x5) (x6) (t2.1) t2.2.1 t2.2.2.1 (t2.2.2.2) (t1.1) t1.2.1 t1.2.2.1 (t1.2.2.2) (t0.1) t0.2.1 t0.2.2.1 (t0.2.2.2) (x7) (x8) (x9) (x10) (x11))))))) := by kernel_rfl
theorem bP.wX (n0 : Nat) (x0 : Bool) (x1 x2 : Int) (x3 : Bool) (x4 x5 : Int) (x6 x7 : Bool) (x8 x9 : Int) (x10 x11 : Bool) (x12 x13 : Int) (x14 x15 : Bool) (x16 x17 : Bool) (x18 x19 : Bool) : bP.j10 n0 x0 x1 x2 x3 x4 x5 x6 x7 x8 x9 x10 x11 x12 x13 x14 x15 x16 x17 x18 x19 = (if x0 = true then ((fT.f x2 x1 x11 x7).bind fun t0 => (some ((t0, false, false, false, false, false)))) else ((aB.f n0 x2 x1 x3 x4 x5 x6).bind fun t0 => (some ((t0.1, t0.2.1, t0.2.2.1, t0.2.2.2.1, t0.2.2.2.2.1, t0.2.2.2.2.2))))) := by kernel_rfl
noncomputable def aX.j10 (n0 : Nat) (x0 x1 x2 : Bool) (x3 x4 : Int) (x5 x6 x7 : Int) (x8 x9 : Bool) (x10 x11 x12 : Bool) := jV Tryz.prog aX.cls Tryz.f104 aX.cuts [1, 1, 1, 1, 1, 1] [n0] n0 ⟨[(18, (.pv (.one (.b (.q x0))))), (17, (.pv (.one (.b (.q x1))))), (16, (.pv (.one (.b (.q x2))))), (11, (.pv (.one (.p 0 0)))), (4, (.pv (.one (.i .u32 (.x x3))))), (3, (.pv (.one (.i .u32 (.x x4))))), (2, (.pv (.one (.i .u32 (.x x5))))), (1, (.pv (.one (.i .i64 (.x x6))))), (0, (.pv (.one (.i .i64 (.x x7)))))], [(0, (42, [(.c (.b (.q x8))), (.c (.b (.q x9))), (.c (.b (.q x10))), (.c (.b (.q x11))), (.c (.b (.q x12)))]))], 1⟩ aX.K
noncomputable def aX.j11 (n0 : Nat) (x0 x1 : Bool) (x2 x3 : Bool) (x4 x5 : Int) (x6 x7 x8 : Int) (x9 x10 : Bool) (x11 x12 x13 : Bool) := jV Tryz.prog aX.cls Tryz.f104 aX.cuts [1, 1, 1, 1, 1, 1, 0, 1] [n0] n0 ⟨[(71, (.pv (.one (.b (.q x0))))), (18, (.pv (.one (.b (.q x1))))), (17, (.pv (.one (.b (.q x2))))), (16, (.pv (.one (.b (.q x3))))), (11, (.pv (.one (.p 0 0)))), (4, (.pv (.one (.i .u32 (.x x4))))), (3, (.pv (.one (.i .u32 (.x x5))))), (2, (.pv (.one (.i .u32 (.x x6))))), (1, (.pv (.one (.i .i64 (.x x7))))), (0, (.pv (.one (.i .i64 (.x x8)))))], [(0, (42, [(.c (.b (.q x9))), (.c (.b (.q x10))), (.c (.b (.q x11))), (.c (.b (.q x12))), (.c (.b (.q x13)))]))], 1⟩ aX.K
noncomputable def aX.j15 (n0 : Nat) (x0 x1 : Bool) (x2 x3 : Int) (x4 : Bool) (x5 x6 : Int) (x7 x8 : Bool) (x9 x10 : Int) (x11 x12 : Bool) (x13 x14 : Bool) (x15 x16 : Bool) := jV Tryz.prog aX.cls Tryz.f104 aX.cuts [1, 1, 1, 1, 1, 1, 1, 1, 1, 0, 1] [n0] n0 ⟨[(99, (.pv (.one (.b (.q x0))))), (21, (.pv (.one (.p 3 0)))), (20, (.pv (.one (.p 2 0)))), (16, (.pv (.one (.b (.q x1))))), (11, (.pv (.one (.p 0 0)))), (1, (.pv (.one (.i .i64 (.x x2))))), (0, (.pv (.one (.i .i64 (.x x3)))))], [(3, (55, [(.c (.b (.q x4))), (.c (.i .i64 (.x x5))), (.c (.i .u64 (.x x6))), (.c (.b (.q x7)))])), (2, (55, [(.c (.b (.q x8))), (.c (.i .i64 (.x x9))), (.c (.i .u64 (.x x10))), (.c (.b (.q x11)))])), (0, (42, [(.c (.b (.q x12))), (.c (.b (.q x13))), (.c (.b (.q x14))), (.c (.b (.q x15))), (.c (.b (.q x16)))]))], 4⟩ aX.K
theorem aX.eq (n0 : Nat) (a0 a1 : Int) (a2 a3 a4 : Int) : aX.f n0 a0 a1 a2 a3 a4 = ((dK.f n0 a0 a2 a3).bind fun t0 => ((aY.f n0 a0 [a2, a3, a4]).bind fun t1 => (if t1.2.2.2.2.2.2 = true then (if t1.2.1 = true then (some ((t1.1, true, t1.2.2.1, t1.2.2.2.1, t1.2.2.2.2.1, t1.2.2.2.2.2.1))) else (some ((t1.1, t0, t1.2.2.1, t1.2.2.2.1, t1.2.2.2.2.1, t1.2.2.2.2.2.1)))) else (if t0 = true then ((gL.f a0).bind fun t2 => (some ((t2.1, t2.2.1, t2.2.2.1, t2.2.2.2.1, t2.2.2.2.2.1, t2.2.2.2.2.2)))) else ((dS.f a0 a2).bind fun t2 => ((dS.f a0 a3).bind fun t3 => ((aJ.f n0 a0 a2).bind fun t4 => (if t4 = true then ((aJ.f n0 a0 a4).bind fun t5 => (aX.j10 n0 (t5) (true) (!(t2 == t3)) (a4) (a3) (a2) (a1) (a0) (false) (false) (false) (false) (false))) else ((aJ.f n0 a0 a3).bind fun t5 => ((aJ.f n0 a0 a4).bind fun t6 => (aX.j10 n0 (t6) (t5) (!(t2 == t3)) (a4) (a3) (a2) (a1) (a0) (false) (false) (false) (false) (false)))))))))))) := by kernel_rfl
theorem aX.wX (n0 : Nat) (x0 x1 x2 : Bool) (x3 x4 : Int) (x5 x6 x7 : Int) (x8 x9 : Bool) (x10 x11 x12 : Bool) : aX.j10 n0 x0 x1 x2 x3 x4 x5 x6 x7 x8 x9 x10 x11 x12 = (if x1 = true then (aX.j11 n0 (true) (x0) (x1) (x2) (x3) (x4) (x5) (x6) (x7) (x8) (x9) (x10) (x11) (x12)) else (aX.j11 n0 (x0) (x0) (x1) (x2) (x3) (x4) (x5) (x6) (x7) (x8) (x9) (x10) (x11) (x12))) := by kernel_rfl
theorem aX.wM (n0 : Nat) (x0 x1 : Bool) (x2 x3 : Bool) (x4 x5 : Int) (x6 x7 x8 : Int) (x9 x10 : Bool) (x11 x12 x13 : Bool) : aX.j11 n0 x0 x1 x2 x3 x4 x5 x6 x7 x8 x9 x10 x11 x12 x13 = (if x0 = true then ((dS.f x8 x4).bind fun t0 => ((aU.f n0 x8 x3 t0 x2 x1).bind fun t1 => (some ((t1.1, t1.2.1, t1.2.2.1, t1.2.2.2.1, t1.2.2.2.2.1, t1.2.2.2.2.2))))) else ((eQ.f x8 x6 x5).bind fun t0 => ((gP.f x8 x4).bind fun t1 => ((YtjlgmfgjleajfaaGreat.L.aH.f n0 t0.1 t0.2.1 t0.2.2.1 t0.2.2.2 t1.1 t1.2.1 t1.2.2.1 t1.2.2.2).bind fun t2 => (if t2.2.2.1 = 0 then (aX.j15 n0 (!t2.2.2.2) (x3) (x7) (x8) (t2.1) t2.2.1 t2.2.2.1 (t2.2.2.2) (t1.1) t1.2.1 t1.2.2.1 (t1.2.2.2) (x9) (x10) (x11) (x12) (x13)) else (aX.j15 n0 (false) (x3) (x7) (x8) (t2.1) t2.2.1 t2.2.2.1 (t2.2.2.2) (t1.1) t1.2.1 t1.2.2.1 (t1.2.2.2) (x9) (x10) (x11) (x12) (x13))))))) := by kernel_rfl
theorem aX.aCv (n0 : Nat) (x0 x1 : Bool) (x2 x3 : Int) (x4 : Bool) (x5 x6 : Int) (x7 x8 : Bool) (x9 x10 : Int) (x11 x12 : Bool) (x13 x14 : Bool) (x15 x16 : Bool) : aX.j15 n0 x0 x1 x2 x3 x4 x5 x6 x7 x8 x9 x10 x11 x12 x13 x14 x15 x16 = (if x0 = true then ((fT.f x3 x2 x1 x8).bind fun t0 => (some ((t0, false, false, false, false, false)))) else ((aB.f n0 x3 x2 x4 x5 x6 x7).bind fun t0 => (some ((t0.1, t0.2.1, t0.2.2.1, t0.2.2.2.1, t0.2.2.2.2.1, t0.2.2.2.2.2))))) := by kernel_rfl
end Go.Proofs.YtjlgmfgjleajfaaGreat.L

/- What the reckoner tells of printed functions. -/
namespace Go.Proofs.YtjlgmfgjleajfaaGreat.P
open Go.RowKit Go.Proofs.YtjlgmfgjleajfaaGreatW.PrintWords Go.Proofs.YtjlgmfgjleajfaaGreatW.PrintLast Go.Proofs.YtjlgmfgjleajfaaGreatW.PrintMore
set_option maxRecDepth 100000
theorem bE.iM {k n : Nat} (hk : k ≤ n) {x0 x1 : Int} {x2 x3 : Int} {x13 : Bool} {x15 : Int} {x69 ex7 : Bool} {ex8 ex9 : Bool} {ex10 ex11 : Bool} : LeO (bE.j1 k x0 x1 x2 x3 x13 x15 x69) (L.bE.j11 n x69 x15 x13 x3 x2 x1 x0 ex7 ex8 ex9 ex10 ex11) := by
 cases k with
 |zero => rw [bE.j1]; exact LeO.none _
 |succ k =>
 replace hk := Nat.le_of_succ_le hk
 rw [bE.j1, L.bE.wM]
 repeat' first
  |(with_reducible exact LeO.refl _)
  |exact LeO.none _
  |(with_reducible first|exact fun r h => at_rounds (aY.mono _ _) hk h|exact fun r h => at_rounds (aT.mono _ _) hk h|exact fun r h => at_rounds (bits_Len.mono _) hk h|exact fun r h => at_rounds (aV.mono _ _) hk h|exact aB.le hk|refine LeO.bind ?_ (fun _ => ?_)|refine LeO.iU Iff.rfl (fun _ => ?_) (fun _ => ?_))
  |exact fun r h => at_rounds (aY.mono _ _) hk h
  |exact fun r h => at_rounds (aT.mono _ _) hk h
  |exact fun r h => at_rounds (bits_Len.mono _) hk h
  |exact fun r h => at_rounds (aV.mono _ _) hk h
  |exact aB.le hk
  |exact LeO.refl _
  |(with_reducible first|refine LeO.pos (by assumption) ?_|refine LeO.neg (by assumption) ?_|refine LeO.mX (by assumption) ?_|refine LeO.mZ (by assumption) ?_|refine LeO.iU (by omega) (fun _ => ?_) (fun _ => ?_))
theorem bE.kT {k n : Nat} (hk : k ≤ n) {x0 x1 : Int} {x2 x3 : Int} {x13 : Bool} {x14 x15 : Int} {x46 ex8 : Bool} {ex9 ex10 : Bool} {ex11 ex12 : Bool} : LeO (bE.j0 k x0 x1 x2 x3 x13 x14 x15 x46) (L.bE.j7 n x46 x15 x14 x13 x3 x2 x1 x0 ex8 ex9 ex10 ex11 ex12) := by
 cases k with
 |zero => rw [bE.j0]; exact LeO.none _
 |succ k =>
 replace hk := Nat.le_of_succ_le hk
 rw [bE.j0, L.bE.j7_eq]
 repeat' first
  |(with_reducible exact LeO.refl _)
  |exact LeO.none _
  |(with_reducible first|exact bE.iM hk|exact fun r h => at_rounds (aY.mono _ _) hk h|exact fun r h => at_rounds (aT.mono _ _) hk h|exact fun r h => at_rounds (bits_Len.mono _) hk h|exact fun r h => at_rounds (aV.mono _ _) hk h|exact aB.le hk|refine LeO.bind ?_ (fun _ => ?_)|refine LeO.iU Iff.rfl (fun _ => ?_) (fun _ => ?_))
  |exact bE.iM hk
  |exact fun r h => at_rounds (aY.mono _ _) hk h
  |exact fun r h => at_rounds (aT.mono _ _) hk h
  |exact fun r h => at_rounds (bits_Len.mono _) hk h
  |exact fun r h => at_rounds (aV.mono _ _) hk h
  |exact aB.le hk
  |exact LeO.refl _
  |(with_reducible first|refine LeO.pos (by assumption) ?_|refine LeO.neg (by assumption) ?_|refine LeO.mX (by assumption) ?_|refine LeO.mZ (by assumption) ?_|refine LeO.iU (by omega) (fun _ => ?_) (fun _ => ?_))
set_option maxHeartbeats 4000000 in
theorem bE.le {k n : Nat} (hk : k ≤ n) {a0 a1 : Int} {a2 a3 : Int} : LeO (bE.f k a0 a1 a2 a3) (L.bE.f n a0 a1 a2 a3) := by
 unfold bE.f
 rw [L.bE.eq]
 try simp only [Bool.and_true]
 repeat' first
  |(with_reducible exact LeO.refl _)
  |exact LeO.none _
  |(with_reducible first|exact bE.iM hk|exact bE.kT hk|exact fun r h => at_rounds (aY.mono _ _) hk h|exact fun r h => at_rounds (aT.mono _ _) hk h|exact fun r h => at_rounds (bits_Len.mono _) hk h|exact fun r h => at_rounds (aV.mono _ _) hk h|exact aB.le hk|refine LeO.bind ?_ (fun _ => ?_)|refine LeO.iU Iff.rfl (fun _ => ?_) (fun _ => ?_))
  |exact bE.iM hk
  |exact bE.kT hk
  |exact fun r h => at_rounds (aY.mono _ _) hk h
  |exact fun r h => at_rounds (aT.mono _ _) hk h
  |exact fun r h => at_rounds (bits_Len.mono _) hk h
  |exact fun r h => at_rounds (aV.mono _ _) hk h
  |exact aB.le hk
  |exact LeO.refl _
  |(with_reducible first|refine LeO.pos (by assumption) ?_|refine LeO.neg (by assumption) ?_|refine LeO.mX (by assumption) ?_|refine LeO.mZ (by assumption) ?_|refine LeO.iU (by omega) (fun _ => ?_) (fun _ => ?_))
theorem bE.calls (k : Nat) (a0 a1 : Int) (a2 a3 r1 : Int) (r2 r3 : Bool) (r4 r5 r6 : Bool) (w : World) (h : bE.f k a0 a1 a2 a3 = some (r1, r2, r3, r4, r5, r6)) :
  Calls Tryz.prog 19 #[.int .i64 a0, .int .i64 a1, .int .u32 a2, .int .u32 a3] w fun e w' => e = .returned (.tuple #[.int .u32 r1, .agg #[.bool r2, .bool r3, .bool r4, .bool r5, .bool r6]]) ∧ Below w.heap.size w w' :=
 Go.Proofs.YtjlgmfgjleajfaaGreat.Ek.jQ L.bE.ok k ((a0, ()), (a1, ()), (a2, ()), (a3, ()), ()) (r1, r2, r3, r4, r5, r6) rfl (bE.le (Nat.le_refl _) _ h) w
theorem cZ.kT {k n : Nat} (hk : k ≤ n) {x0 x1 : Int} {x2 x3 : Int} {x13 x49 : Bool} {ex6 ex7 : Bool} {ex8 ex9 ex10 : Bool} : LeO (cZ.j0 k x0 x1 x2 x3 x13 x49) (L.cZ.j8 n x49 x13 x3 x2 x1 x0 ex6 ex7 ex8 ex9 ex10) := by
 cases k with
 |zero => rw [cZ.j0]; exact LeO.none _
 |succ k =>
 replace hk := Nat.le_of_succ_le hk
 rw [cZ.j0, L.cZ.aCg]
 repeat' first
  |(with_reducible exact LeO.refl _)
  |exact LeO.none _
  |(with_reducible first|exact fun r h => at_rounds (aY.mono _ _) hk h|exact fun r h => at_rounds (dK.mono _ _ _) hk h|exact fun r h => at_rounds (aJ.mono _ _) hk h|exact aB.le hk|refine LeO.bind ?_ (fun _ => ?_)|refine LeO.iU Iff.rfl (fun _ => ?_) (fun _ => ?_))
  |exact fun r h => at_rounds (aY.mono _ _) hk h
  |exact fun r h => at_rounds (dK.mono _ _ _) hk h
  |exact fun r h => at_rounds (aJ.mono _ _) hk h
  |exact aB.le hk
  |exact LeO.refl _
  |(with_reducible first|refine LeO.pos (by assumption) ?_|refine LeO.neg (by assumption) ?_|refine LeO.mX (by assumption) ?_|refine LeO.mZ (by assumption) ?_|refine LeO.iU (by omega) (fun _ => ?_) (fun _ => ?_))
set_option maxHeartbeats 4000000 in
theorem cZ.le {k n : Nat} (hk : k ≤ n) {a0 a1 : Int} {a2 a3 : Int} : LeO (cZ.f k a0 a1 a2 a3) (L.cZ.f n a0 a1 a2 a3) := by
 unfold cZ.f
 rw [L.cZ.eq]
 try simp only [Bool.and_true]
 repeat' first
  |(with_reducible exact LeO.refl _)
  |exact LeO.none _
  |(with_reducible first|exact cZ.kT hk|exact fun r h => at_rounds (aY.mono _ _) hk h|exact fun r h => at_rounds (dK.mono _ _ _) hk h|exact fun r h => at_rounds (aJ.mono _ _) hk h|exact aB.le hk|refine LeO.bind ?_ (fun _ => ?_)|refine LeO.iU Iff.rfl (fun _ => ?_) (fun _ => ?_))
  |exact cZ.kT hk
  |exact fun r h => at_rounds (aY.mono _ _) hk h
  |exact fun r h => at_rounds (dK.mono _ _ _) hk h
  |exact fun r h => at_rounds (aJ.mono _ _) hk h
  |exact aB.le hk
  |exact LeO.refl _
  |(with_reducible first|refine LeO.pos (by assumption) ?_|refine LeO.neg (by assumption) ?_|refine LeO.mX (by assumption) ?_|refine LeO.mZ (by assumption) ?_|refine LeO.iU (by omega) (fun _ => ?_) (fun _ => ?_))
theorem cZ.calls (k : Nat) (a0 a1 : Int) (a2 a3 r1 : Int) (r2 r3 : Bool) (r4 r5 r6 : Bool) (w : World) (h : cZ.f k a0 a1 a2 a3 = some (r1, r2, r3, r4, r5, r6)) :
  Calls Tryz.prog 31 #[.int .i64 a0, .int .i64 a1, .int .u32 a2, .int .u32 a3] w fun e w' => e = .returned (.tuple #[.int .u32 r1, .agg #[.bool r2, .bool r3, .bool r4, .bool r5, .bool r6]]) ∧ Below w.heap.size w w' :=
 Go.Proofs.YtjlgmfgjleajfaaGreat.Ek.jQ L.cZ.ok k ((a0, ()), (a1, ()), (a2, ()), (a3, ()), ()) (r1, r2, r3, r4, r5, r6) rfl (cZ.le (Nat.le_refl _) _ h) w
theorem bP.iM {k n : Nat} (hk : k ≤ n) {x0 x1 : Int} {x68 x379000 : Bool} {x379001 x379002 : Int} {x379003 x380000 : Bool} {x380001 x380002 : Int} {x380003 x385000 : Bool} {x385001 x385002 : Int} {x385003 ex15 : Bool} {ex16 ex17 : Bool} {ex18 ex19 : Bool} : LeO (bP.j1 k x0 x1 x68 x379000 x379001 x379002 x379003 x380000 x380001 x380002 x380003 x385000 x385001 x385002 x385003) (L.bP.j10 n x68 x1 x0 x385000 x385001 x385002 x385003 x380000 x380001 x380002 x380003 x379000 x379001 x379002 x379003 ex15 ex16 ex17 ex18 ex19) := by
 cases k with
 |zero => rw [bP.j1]; exact LeO.none _
 |succ k =>
 replace hk := Nat.le_of_succ_le hk
 rw [bP.j1, L.bP.wX]
 repeat' first
  |(with_reducible exact LeO.refl _)
  |exact LeO.none _
  |(with_reducible first|exact fun r h => at_rounds (aY.mono _ _) hk h|exact fun r h => at_rounds (aJ.mono _ _) hk h|exact fun r h => at_rounds (aU.mono _ _ _ _ _) hk h|exact aH.le hk|exact aB.le hk|refine LeO.bind ?_ (fun _ => ?_)|refine LeO.iU Iff.rfl (fun _ => ?_) (fun _ => ?_))
  |exact fun r h => at_rounds (aY.mono _ _) hk h
  |exact fun r h => at_rounds (aJ.mono _ _) hk h
  |exact fun r h => at_rounds (aU.mono _ _ _ _ _) hk h
  |exact aH.le hk
  |exact aB.le hk
  |exact LeO.refl _
  |(with_reducible first|refine LeO.pos (by assumption) ?_|refine LeO.neg (by assumption) ?_|refine LeO.mX (by assumption) ?_|refine LeO.mZ (by assumption) ?_|refine LeO.iU (by omega) (fun _ => ?_) (fun _ => ?_))
theorem bP.kT {k n : Nat} (hk : k ≤ n) {x0 x1 : Int} {x2 x3 : Int} {x13 x14 : Bool} {x39 ex7 : Bool} {ex8 ex9 : Bool} {ex10 ex11 : Bool} : LeO (bP.j0 k x0 x1 x2 x3 x13 x14 x39) (L.bP.j6 n x39 x14 x13 x3 x2 x1 x0 ex7 ex8 ex9 ex10 ex11) := by
 cases k with
 |zero => rw [bP.j0]; exact LeO.none _
 |succ k =>
 replace hk := Nat.le_of_succ_le hk
 rw [bP.j0, L.bP.yC]
 repeat' first
  |(with_reducible exact LeO.refl _)
  |exact LeO.none _
  |(with_reducible first|exact bP.iM hk|exact fun r h => at_rounds (aY.mono _ _) hk h|exact fun r h => at_rounds (aJ.mono _ _) hk h|exact fun r h => at_rounds (aU.mono _ _ _ _ _) hk h|exact aH.le hk|exact aB.le hk|refine LeO.bind ?_ (fun _ => ?_)|refine LeO.iU Iff.rfl (fun _ => ?_) (fun _ => ?_))
  |exact bP.iM hk
  |exact fun r h => at_rounds (aY.mono _ _) hk h
  |exact fun r h => at_rounds (aJ.mono _ _) hk h
  |exact fun r h => at_rounds (aU.mono _ _ _ _ _) hk h
  |exact aH.le hk
  |exact aB.le hk
  |exact LeO.refl _
  |(with_reducible first|refine LeO.pos (by assumption) ?_|refine LeO.neg (by assumption) ?_|refine LeO.mX (by assumption) ?_|refine LeO.mZ (by assumption) ?_|refine LeO.iU (by omega) (fun _ => ?_) (fun _ => ?_))
set_option maxHeartbeats 4000000 in
theorem bP.le {k n : Nat} (hk : k ≤ n) {a0 a1 : Int} {a2 a3 : Int} : LeO (bP.f k a0 a1 a2 a3) (L.bP.f n a0 a1 a2 a3) := by
 unfold bP.f
 rw [L.bP.eq]
 try simp only [Bool.and_true]
 repeat' first
  |(with_reducible exact LeO.refl _)
  |exact LeO.none _
  |(with_reducible first|exact bP.iM hk|exact bP.kT hk|exact fun r h => at_rounds (aY.mono _ _) hk h|exact fun r h => at_rounds (aJ.mono _ _) hk h|exact fun r h => at_rounds (aU.mono _ _ _ _ _) hk h|exact aH.le hk|exact aB.le hk|refine LeO.bind ?_ (fun _ => ?_)|refine LeO.iU Iff.rfl (fun _ => ?_) (fun _ => ?_))
  |exact bP.iM hk
  |exact bP.kT hk
  |exact fun r h => at_rounds (aY.mono _ _) hk h
  |exact fun r h => at_rounds (aJ.mono _ _) hk h
  |exact fun r h => at_rounds (aU.mono _ _ _ _ _) hk h
  |exact aH.le hk
  |exact aB.le hk
  |exact LeO.refl _
  |(with_reducible first|refine LeO.pos (by assumption) ?_|refine LeO.neg (by assumption) ?_|refine LeO.mX (by assumption) ?_|refine LeO.mZ (by assumption) ?_|refine LeO.iU (by omega) (fun _ => ?_) (fun _ => ?_))
theorem bP.calls (k : Nat) (a0 a1 : Int) (a2 a3 r1 : Int) (r2 r3 : Bool) (r4 r5 r6 : Bool) (w : World) (h : bP.f k a0 a1 a2 a3 = some (r1, r2, r3, r4, r5, r6)) :
  Calls Tryz.prog 43 #[.int .i64 a0, .int .i64 a1, .int .u32 a2, .int .u32 a3] w fun e w' => e = .returned (.tuple #[.int .u32 r1, .agg #[.bool r2, .bool r3, .bool r4, .bool r5, .bool r6]]) ∧ Below w.heap.size w w' :=
 Go.Proofs.YtjlgmfgjleajfaaGreat.Ek.jQ L.bP.ok k ((a0, ()), (a1, ()), (a2, ()), (a3, ()), ()) (r1, r2, r3, r4, r5, r6) rfl (bP.le (Nat.le_refl _) _ h) w
theorem aX.kI {k n : Nat} (hk : k ≤ n) {x0 x1 : Int} {x16 x99 x476000 : Bool} {x476001 x476002 : Int} {x476003 x481000 : Bool} {x481001 x481002 : Int} {x481003 ex12 : Bool} {ex13 ex14 : Bool} {ex15 ex16 : Bool} : LeO (aX.j2 k x0 x1 x16 x99 x476000 x476001 x476002 x476003 x481000 x481001 x481002 x481003) (L.aX.j15 n x99 x16 x1 x0 x481000 x481001 x481002 x481003 x476000 x476001 x476002 x476003 ex12 ex13 ex14 ex15 ex16) := by
 cases k with
 |zero => rw [aX.j2]; exact LeO.none _
 |succ k =>
 replace hk := Nat.le_of_succ_le hk
 rw [aX.j2, L.aX.aCv]
 repeat' first
  |(with_reducible exact LeO.refl _)
  |exact LeO.none _
  |(with_reducible first|exact fun r h => at_rounds (dK.mono _ _ _) hk h|exact fun r h => at_rounds (aY.mono _ _) hk h|exact fun r h => at_rounds (aJ.mono _ _) hk h|exact fun r h => at_rounds (aU.mono _ _ _ _ _) hk h|exact aH.le hk|exact aB.le hk|refine LeO.bind ?_ (fun _ => ?_)|refine LeO.iU Iff.rfl (fun _ => ?_) (fun _ => ?_))
  |exact fun r h => at_rounds (dK.mono _ _ _) hk h
  |exact fun r h => at_rounds (aY.mono _ _) hk h
  |exact fun r h => at_rounds (aJ.mono _ _) hk h
  |exact fun r h => at_rounds (aU.mono _ _ _ _ _) hk h
  |exact aH.le hk
  |exact aB.le hk
  |exact LeO.refl _
  |(with_reducible first|refine LeO.pos (by assumption) ?_|refine LeO.neg (by assumption) ?_|refine LeO.mX (by assumption) ?_|refine LeO.mZ (by assumption) ?_|refine LeO.iU (by omega) (fun _ => ?_) (fun _ => ?_))
theorem aX.iM {k n : Nat} (hk : k ≤ n) {x0 x1 : Int} {x2 x3 x4 : Int} {x16 x17 : Bool} {x18 x71 : Bool} {ex9 ex10 : Bool} {ex11 ex12 ex13 : Bool} : LeO (aX.j1 k x0 x1 x2 x3 x4 x16 x17 x18 x71) (L.aX.j11 n x71 x18 x17 x16 x4 x3 x2 x1 x0 ex9 ex10 ex11 ex12 ex13) := by
 cases k with
 |zero => rw [aX.j1]; exact LeO.none _
 |succ k =>
 replace hk := Nat.le_of_succ_le hk
 rw [aX.j1, L.aX.wM]
 repeat' first
  |(with_reducible exact LeO.refl _)
  |exact LeO.none _
  |(with_reducible first|exact aX.kI hk|exact fun r h => at_rounds (dK.mono _ _ _) hk h|exact fun r h => at_rounds (aY.mono _ _) hk h|exact fun r h => at_rounds (aJ.mono _ _) hk h|exact fun r h => at_rounds (aU.mono _ _ _ _ _) hk h|exact aH.le hk|exact aB.le hk|refine LeO.bind ?_ (fun _ => ?_)|refine LeO.iU Iff.rfl (fun _ => ?_) (fun _ => ?_))
  |exact aX.kI hk
  |exact fun r h => at_rounds (dK.mono _ _ _) hk h
  |exact fun r h => at_rounds (aY.mono _ _) hk h
  |exact fun r h => at_rounds (aJ.mono _ _) hk h
  |exact fun r h => at_rounds (aU.mono _ _ _ _ _) hk h
  |exact aH.le hk
  |exact aB.le hk
  |exact LeO.refl _
  |(with_reducible first|refine LeO.pos (by assumption) ?_|refine LeO.neg (by assumption) ?_|refine LeO.mX (by assumption) ?_|refine LeO.mZ (by assumption) ?_|refine LeO.iU (by omega) (fun _ => ?_) (fun _ => ?_))
theorem aX.kT {k n : Nat} (hk : k ≤ n) {x0 x1 : Int} {x2 x3 x4 : Int} {x16 x17 : Bool} {x18 ex8 : Bool} {ex9 ex10 : Bool} {ex11 ex12 : Bool} : LeO (aX.j0 k x0 x1 x2 x3 x4 x16 x17 x18) (L.aX.j10 n x18 x17 x16 x4 x3 x2 x1 x0 ex8 ex9 ex10 ex11 ex12) := by
 cases k with
 |zero => rw [aX.j0]; exact LeO.none _
 |succ k =>
 replace hk := Nat.le_of_succ_le hk
 rw [aX.j0, L.aX.wX]
 repeat' first
  |(with_reducible exact LeO.refl _)
  |exact LeO.none _
  |(with_reducible first|exact aX.kI hk|exact aX.iM hk|exact fun r h => at_rounds (dK.mono _ _ _) hk h|exact fun r h => at_rounds (aY.mono _ _) hk h|exact fun r h => at_rounds (aJ.mono _ _) hk h|exact fun r h => at_rounds (aU.mono _ _ _ _ _) hk h|exact aH.le hk|exact aB.le hk|refine LeO.bind ?_ (fun _ => ?_)|refine LeO.iU Iff.rfl (fun _ => ?_) (fun _ => ?_))
  |exact aX.kI hk
  |exact aX.iM hk
  |exact fun r h => at_rounds (dK.mono _ _ _) hk h
  |exact fun r h => at_rounds (aY.mono _ _) hk h
  |exact fun r h => at_rounds (aJ.mono _ _) hk h
  |exact fun r h => at_rounds (aU.mono _ _ _ _ _) hk h
  |exact aH.le hk
  |exact aB.le hk
  |exact LeO.refl _
  |(with_reducible first|refine LeO.pos (by assumption) ?_|refine LeO.neg (by assumption) ?_|refine LeO.mX (by assumption) ?_|refine LeO.mZ (by assumption) ?_|refine LeO.iU (by omega) (fun _ => ?_) (fun _ => ?_))
set_option maxHeartbeats 4000000 in
theorem aX.le {k n : Nat} (hk : k ≤ n) {a0 a1 : Int} {a2 a3 a4 : Int} : LeO (aX.f k a0 a1 a2 a3 a4) (L.aX.f n a0 a1 a2 a3 a4) := by
 unfold aX.f
 rw [L.aX.eq]
 try simp only [Bool.and_true]
 repeat' first
  |(with_reducible exact LeO.refl _)
  |exact LeO.none _
  |(with_reducible first|exact aX.kI hk|exact aX.iM hk|exact aX.kT hk|exact fun r h => at_rounds (dK.mono _ _ _) hk h|exact fun r h => at_rounds (aY.mono _ _) hk h|exact fun r h => at_rounds (aJ.mono _ _) hk h|exact fun r h => at_rounds (aU.mono _ _ _ _ _) hk h|exact aH.le hk|exact aB.le hk|refine LeO.bind ?_ (fun _ => ?_)|refine LeO.iU Iff.rfl (fun _ => ?_) (fun _ => ?_))
  |exact aX.kI hk
  |exact aX.iM hk
  |exact aX.kT hk
  |exact fun r h => at_rounds (dK.mono _ _ _) hk h
  |exact fun r h => at_rounds (aY.mono _ _) hk h
  |exact fun r h => at_rounds (aJ.mono _ _) hk h
  |exact fun r h => at_rounds (aU.mono _ _ _ _ _) hk h
  |exact aH.le hk
  |exact aB.le hk
  |exact LeO.refl _
  |(with_reducible first|refine LeO.pos (by assumption) ?_|refine LeO.neg (by assumption) ?_|refine LeO.mX (by assumption) ?_|refine LeO.mZ (by assumption) ?_|refine LeO.iU (by omega) (fun _ => ?_) (fun _ => ?_))
theorem aX.calls (k : Nat) (a0 a1 : Int) (a2 a3 : Int) (a4 r1 : Int) (r2 r3 : Bool) (r4 r5 r6 : Bool) (w : World) (h : aX.f k a0 a1 a2 a3 a4 = some (r1, r2, r3, r4, r5, r6)) :
  Calls Tryz.prog 104 #[.int .i64 a0, .int .i64 a1, .int .u32 a2, .int .u32 a3, .int .u32 a4] w fun e w' => e = .returned (.tuple #[.int .u32 r1, .agg #[.bool r2, .bool r3, .bool r4, .bool r5, .bool r6]]) ∧ Below w.heap.size w w' :=
 Go.Proofs.YtjlgmfgjleajfaaGreat.Ek.jQ L.aX.ok k ((a0, ()), (a1, ()), (a2, ()), (a3, ()), (a4, ()), ()) (r1, r2, r3, r4, r5, r6) rfl (aX.le (Nat.le_refl _) _ h) w
attribute [local go_sem] max2_int min2_int max_two min_two max_three min_three max_four min_four

-- NEED 3
/-! ### eU: function 10 -/
def eU.f (k : Nat) (a0 a1 : Int) : Option (Int) := (bE.f k 2 0 a0 a1).bind fun bt236 => (some bt236.1)
theorem eU.mono : ∀ a0 a1 k, LeO (eU.f k a0 a1) (eU.f (k + 1) a0 a1) := by
 intro a0 a1 k
 unfold eU.f
 repeat' first
   |(with_reducible first|exact bE.mono _ _ _ _ _|exact LeO.refl _|exact LeO.none _|refine LeO.ite ?_ ?_|refine LeO.bind ?_ (fun _ => ?_))
   |exact bE.mono _ _ _ _ _
   |exact LeO.none _
   |refine LeO.ite ?_ ?_
   |refine LeO.bind ?_ (fun _ => ?_)
theorem eU.calls (k : Nat) (a0 a1 r : Int) (w : World) (h : eU.f k a0 a1 = some r) :
  Calls Tryz.prog 10 #[.int .u32 a0, .int .u32 a1] w fun e w' => e = .returned (.int .u32 r) ∧ Below w.heap.size w w' := by
 have hu42 := Tryz.underlying42
 have HB := Aside0.mk (Below.refl w.heap.size w)
 have H : ((bE.f k 2 0 a0 a1).bind fun bt236 => (some bt236.1)) = some r := h
 clear h
 replace H := bq_ H
 obtain ⟨⟨t236, t237, t238, t239, t240, t241⟩, A30, H⟩ := H
 replace H : (some t236) = some r := H
 have A3 := Aside0.mk A30
 clear A30
 obtain rfl := Option.some.inj H
 go_enter Tryz.func10, Tryz.ntmps10
 go_wp2_with (first | ((with_reducible refine gate_callee (f := 19) rfl ?_); refine goesL_ (some 10) rfl rfl Tryz.func19 (by kernel_rfl) rfl #[.int .i64 2, .int .i64 0, .int .u32 a0, .int .u32 a1] rfl gl ?_; (with_reducible refine (bE.calls k 2 0 a0 a1 t236 t237 t238 t239 t240 t241 _ A3.out).mono ?_); rintro e w4 ⟨rfl, hb⟩; refine ⟨_, rfl, ?_⟩; have n0_ := Aside0.mk (below_step (bl0 HB.out) hb); clear HB; have HB := n0_; clear n0_) | ((with_reducible refine gate_dst (N := 6) rfl ?_); refine box_event ?hg (N := 6) ?hd (cs := F5) (t := 42) ?hr ?_; (case hd => rfl); (case hg => rfl); (case hr => first | (go_simp; done) | (go_simp; rfl)); intro gb242 hg w5 hbox hb; have n0_ := Aside0.mk (below_step (bl0 HB.out) hb); have n1_ := Aside0.mk (hbox); have n2_ := Aside0.mk ((by rw [hg]; exact (below_size (bl0 HB.out)) : w.heap.size ≤ gb242)); have n3_ := n2_; clear HB; have HB := n0_; have BK242 := n1_; have GW242 := n2_; have GE242 := n3_; clear n0_ n1_ n2_ n3_; clear hb hbox hg; obtain ⟨hcz6_0, hcz6_1, hcz6_2, hcz6_3, hcz6_4⟩ := bc5 BK242.out; obtain ⟨hfz6_0, hfz6_1, hfz6_2, hfz6_3, hfz6_4⟩ := bf5 BK242.out))
 go_ret
 exact ⟨by first | rfl | (simp [aP, aQ] <;> rfl) | (simp [*, aP, aQ] <;> rfl), bl1 HB.out GE242.out⟩

attribute [local go_sem] max2_int min2_int max_two min_two max_three min_three max_four min_four

-- NEED 3
/-! ### dF: function 18 -/
def dF.f (k : Nat) (a0 a1 : Int) : Option (Int) := (cZ.f k 2 0 a0 a1).bind fun bt312 => (some bt312.1)
theorem dF.mono : ∀ a0 a1 k, LeO (dF.f k a0 a1) (dF.f (k + 1) a0 a1) := by
 intro a0 a1 k
 unfold dF.f
 repeat' first
   |(with_reducible first|exact cZ.mono _ _ _ _ _|exact LeO.refl _|exact LeO.none _|refine LeO.ite ?_ ?_|refine LeO.bind ?_ (fun _ => ?_))
   |exact cZ.mono _ _ _ _ _
   |exact LeO.none _
   |refine LeO.ite ?_ ?_
   |refine LeO.bind ?_ (fun _ => ?_)
theorem dF.calls (k : Nat) (a0 a1 r : Int) (w : World) (h : dF.f k a0 a1 = some r) :
  Calls Tryz.prog 18 #[.int .u32 a0, .int .u32 a1] w fun e w' => e = .returned (.int .u32 r) ∧ Below w.heap.size w w' := by
 have hu42 := Tryz.underlying42
 have HB := Aside0.mk (Below.refl w.heap.size w)
 have H : ((cZ.f k 2 0 a0 a1).bind fun bt312 => (some bt312.1)) = some r := h
 clear h
 replace H := bq_ H
 obtain ⟨⟨t312, t313, t314, t315, t316, t317⟩, A30, H⟩ := H
 replace H : (some t312) = some r := H
 have A3 := Aside0.mk A30
 clear A30
 obtain rfl := Option.some.inj H
 go_enter Tryz.func18, Tryz.ntmps18
 go_wp2_with (first | ((with_reducible refine gate_callee (f := 31) rfl ?_); refine goesL_ (some 10) rfl rfl Tryz.func31 (by kernel_rfl) rfl #[.int .i64 2, .int .i64 0, .int .u32 a0, .int .u32 a1] rfl gl ?_; (with_reducible refine (cZ.calls k 2 0 a0 a1 t312 t313 t314 t315 t316 t317 _ A3.out).mono ?_); rintro e w4 ⟨rfl, hb⟩; refine ⟨_, rfl, ?_⟩; have n0_ := Aside0.mk (below_step (bl0 HB.out) hb); clear HB; have HB := n0_; clear n0_) | ((with_reducible refine gate_dst (N := 6) rfl ?_); refine box_event ?hg (N := 6) ?hd (cs := F5) (t := 42) ?hr ?_; (case hd => rfl); (case hg => rfl); (case hr => first | (go_simp; done) | (go_simp; rfl)); intro gb318 hg w5 hbox hb; have n0_ := Aside0.mk (below_step (bl0 HB.out) hb); have n1_ := Aside0.mk (hbox); have n2_ := Aside0.mk ((by rw [hg]; exact (below_size (bl0 HB.out)) : w.heap.size ≤ gb318)); have n3_ := n2_; clear HB; have HB := n0_; have BK318 := n1_; have GW318 := n2_; have GE318 := n3_; clear n0_ n1_ n2_ n3_; clear hb hbox hg; obtain ⟨hcz6_0, hcz6_1, hcz6_2, hcz6_3, hcz6_4⟩ := bc5 BK318.out; obtain ⟨hfz6_0, hfz6_1, hfz6_2, hfz6_3, hfz6_4⟩ := bf5 BK318.out))
 go_ret
 exact ⟨by first | rfl | (simp [aP, aQ] <;> rfl) | (simp [*, aP, aQ] <;> rfl), bl1 HB.out GE318.out⟩

attribute [local go_sem] max2_int min2_int max_two min_two max_three min_three max_four min_four

-- NEED 3
/-! ### gF: function 21 -/
def gF.f (k : Nat) (a0 a1 : Int) : Option (Int) := (bP.f k 2 0 a0 a1).bind fun bt392 => (some bt392.1)
theorem gF.mono : ∀ a0 a1 k, LeO (gF.f k a0 a1) (gF.f (k + 1) a0 a1) := by
 intro a0 a1 k
 unfold gF.f
 repeat' first
   |(with_reducible first|exact bP.mono _ _ _ _ _|exact LeO.refl _|exact LeO.none _|refine LeO.ite ?_ ?_|refine LeO.bind ?_ (fun _ => ?_))
   |exact bP.mono _ _ _ _ _
   |exact LeO.none _
   |refine LeO.ite ?_ ?_
   |refine LeO.bind ?_ (fun _ => ?_)
theorem gF.calls (k : Nat) (a0 a1 r : Int) (w : World) (h : gF.f k a0 a1 = some r) :
  Calls Tryz.prog 21 #[.int .u32 a0, .int .u32 a1] w fun e w' => e = .returned (.int .u32 r) ∧ Below w.heap.size w w' := by
 have hu42 := Tryz.underlying42
 have HB := Aside0.mk (Below.refl w.heap.size w)
 have H : ((bP.f k 2 0 a0 a1).bind fun bt392 => (some bt392.1)) = some r := h
 clear h
 replace H := bq_ H
 obtain ⟨⟨t392, t393, t394, t395, t396, t397⟩, A30, H⟩ := H
 replace H : (some t392) = some r := H
 have A3 := Aside0.mk A30
 clear A30
 obtain rfl := Option.some.inj H
 go_enter Tryz.func21, Tryz.ntmps21
 go_wp2_with (first | ((with_reducible refine gate_callee (f := 43) rfl ?_); refine goesL_ (some 10) rfl rfl Tryz.func43 (by kernel_rfl) rfl #[.int .i64 2, .int .i64 0, .int .u32 a0, .int .u32 a1] rfl gl ?_; (with_reducible refine (bP.calls k 2 0 a0 a1 t392 t393 t394 t395 t396 t397 _ A3.out).mono ?_); rintro e w4 ⟨rfl, hb⟩; refine ⟨_, rfl, ?_⟩; have n0_ := Aside0.mk (below_step (bl0 HB.out) hb); clear HB; have HB := n0_; clear n0_) | ((with_reducible refine gate_dst (N := 6) rfl ?_); refine box_event ?hg (N := 6) ?hd (cs := F5) (t := 42) ?hr ?_; (case hd => rfl); (case hg => rfl); (case hr => first | (go_simp; done) | (go_simp; rfl)); intro gb398 hg w5 hbox hb; have n0_ := Aside0.mk (below_step (bl0 HB.out) hb); have n1_ := Aside0.mk (hbox); have n2_ := Aside0.mk ((by rw [hg]; exact (below_size (bl0 HB.out)) : w.heap.size ≤ gb398)); have n3_ := n2_; clear HB; have HB := n0_; have BK398 := n1_; have GW398 := n2_; have GE398 := n3_; clear n0_ n1_ n2_ n3_; clear hb hbox hg; obtain ⟨hcz6_0, hcz6_1, hcz6_2, hcz6_3, hcz6_4⟩ := bc5 BK398.out; obtain ⟨hfz6_0, hfz6_1, hfz6_2, hfz6_3, hfz6_4⟩ := bf5 BK398.out))
 go_ret
 exact ⟨by first | rfl | (simp [aP, aQ] <;> rfl) | (simp [*, aP, aQ] <;> rfl), bl1 HB.out GE398.out⟩

end Go.Proofs.YtjlgmfgjleajfaaGreat.P

/- Entries of functions. -/
namespace Go.Proofs.YtjlgmfgjleajfaaGreat.L
open Go.RowKit Go.Proofs.YtjlgmfgjleajfaaGreat.P Go.Proofs.YtjlgmfgjleajfaaGreat.Ek Go.Proofs.YtjlgmfgjleajfaaGreatW.PrintWords Go.Proofs.YtjlgmfgjleajfaaGreatW.PrintLast Go.Proofs.YtjlgmfgjleajfaaGreatW.PrintMore
noncomputable def fK.c : Fc := jC [hI .i64, hI .u32] [hI .u32] (T := Int) (fun y => ((y, ()), ())) fun n x => fK.f x.1.1 x.2.1.1
theorem fK.ok : iP Tryz.prog 86 fK.c := fF Tryz.func86 (by kernel_rfl) (by kernel_rfl) (by decide) (fun _ => dP (by decide) _) fun n x y h m w => (fK.calls x.1.1 x.2.1.1 y w h).mono fun e w' he => ⟨he.1, he.2.below⟩
noncomputable def fA.cls : Cls := [(32, aY.c), (86, fK.c), (43, bP.c)]
theorem fA.iI : dB Tryz.prog fA.cls := dB.cons aY.ok (dB.cons fK.ok (dB.cons bP.ok (dB.nil)))
noncomputable def fA.K (v : SV) : Option (Int × Bool × Bool × Bool × Bool × Bool) := (lI [hI .u32, .agg [.b, .b, .b, .b, .b]] v).map (fun z => (z.1.1, z.2.1.1, z.2.1.2.1, z.2.1.2.2.1, z.2.1.2.2.2.1, z.2.1.2.2.2.2.1))
noncomputable def fA.cuts : List Nat := []
noncomputable def fA.f (k : Nat) (a0 a1 : Int) (a2 a3 : Int) : Option (Int × Bool × Bool × Bool × Bool × Bool) := evF Tryz.prog fA.cls Tryz.f85 fA.cuts k [.one (.i .i64 (.x a0)), .one (.i .i64 (.x a1)), .one (.i .u32 (.x a2)), .one (.i .u32 (.x a3))] fA.K
noncomputable def fA.c : Fc := jC [hI .i64, hI .i64, hI .u32, hI .u32] [hI .u32, .agg [.b, .b, .b, .b, .b]] (T := Int × Bool × Bool × Bool × Bool × Bool) (fun y => ((y.1, ()), (y.2.1, y.2.2.1, y.2.2.2.1, y.2.2.2.2.1, y.2.2.2.2.2, ()), ())) fun n x => fA.f n x.1.1 x.2.1.1 x.2.2.1.1 x.2.2.2.1.1
theorem fA.ok : iP Tryz.prog 85 fA.c := uD fA.iI Tryz.func85 (by kernel_rfl) (by kernel_rfl) (by decide) (fun _ => rfl) (fun _ _ => rfl)
/- Functions' trees, printed by a tool of mine out of the reckoner; Lean's kernel checks each. -/
set_option maxRecDepth 100000
theorem fA.eq (n0 : Nat) (a0 a1 : Int) (a2 a3 : Int) : fA.f n0 a0 a1 a2 a3 = ((aY.f n0 a0 [a2, a3]).bind fun t0 => (if t0.2.2.2.2.2.2 = true then (some ((t0.1, t0.2.1, t0.2.2.1, t0.2.2.2.1, t0.2.2.2.2.1, t0.2.2.2.2.2.1))) else ((fK.f a0 a3).bind fun t1 => ((bP.f n0 a0 a1 a2 t1).bind fun t2 => (some ((t2.1, t2.2.1, t2.2.2.1, t2.2.2.2.1, t2.2.2.2.2.1, t2.2.2.2.2.2))))))) := by kernel_rfl
end Go.Proofs.YtjlgmfgjleajfaaGreat.L

/- What the reckoner tells of printed functions. -/
namespace Go.Proofs.YtjlgmfgjleajfaaGreat.P
open Go.RowKit Go.Proofs.YtjlgmfgjleajfaaGreatW.PrintWords Go.Proofs.YtjlgmfgjleajfaaGreatW.PrintLast Go.Proofs.YtjlgmfgjleajfaaGreatW.PrintMore
set_option maxRecDepth 100000
set_option maxHeartbeats 4000000 in
theorem fA.le {k n : Nat} (hk : k ≤ n) {a0 a1 : Int} {a2 a3 : Int} : LeO (fA.f k a0 a1 a2 a3) (L.fA.f n a0 a1 a2 a3) := by
 unfold fA.f
 rw [L.fA.eq]
 try simp only [Bool.and_true]
 repeat' first
  |(with_reducible exact LeO.refl _)
  |exact LeO.none _
  |(with_reducible first|exact fun r h => at_rounds (aY.mono _ _) hk h|exact bP.le hk|refine LeO.bind ?_ (fun _ => ?_)|refine LeO.iU Iff.rfl (fun _ => ?_) (fun _ => ?_))
  |exact fun r h => at_rounds (aY.mono _ _) hk h
  |exact bP.le hk
  |exact LeO.refl _
  |(with_reducible first|refine LeO.pos (by assumption) ?_|refine LeO.neg (by assumption) ?_|refine LeO.mX (by assumption) ?_|refine LeO.mZ (by assumption) ?_|refine LeO.iU (by omega) (fun _ => ?_) (fun _ => ?_))
theorem fA.calls (k : Nat) (a0 a1 : Int) (a2 a3 r1 : Int) (r2 r3 : Bool) (r4 r5 r6 : Bool) (w : World) (h : fA.f k a0 a1 a2 a3 = some (r1, r2, r3, r4, r5, r6)) :
  Calls Tryz.prog 85 #[.int .i64 a0, .int .i64 a1, .int .u32 a2, .int .u32 a3] w fun e w' => e = .returned (.tuple #[.int .u32 r1, .agg #[.bool r2, .bool r3, .bool r4, .bool r5, .bool r6]]) ∧ Below w.heap.size w w' :=
 Go.Proofs.YtjlgmfgjleajfaaGreat.Ek.jQ L.fA.ok k ((a0, ()), (a1, ()), (a2, ()), (a3, ()), ()) (r1, r2, r3, r4, r5, r6) rfl (fA.le (Nat.le_refl _) _ h) w
attribute [local go_sem] max2_int min2_int max_two min_two max_three min_three max_four min_four

-- NEED 4
/-! ### gK: function 46 -/
def gK.f (k : Nat) (a0 a1 : Int) : Option (Int) := (fA.f k 2 0 a0 a1).bind fun bt426 => (some bt426.1)
theorem gK.mono : ∀ a0 a1 k, LeO (gK.f k a0 a1) (gK.f (k + 1) a0 a1) := by
 intro a0 a1 k
 unfold gK.f
 repeat' first
   |(with_reducible first|exact fA.mono _ _ _ _ _|exact LeO.refl _|exact LeO.none _|refine LeO.ite ?_ ?_|refine LeO.bind ?_ (fun _ => ?_))
   |exact fA.mono _ _ _ _ _
   |exact LeO.none _
   |refine LeO.ite ?_ ?_
   |refine LeO.bind ?_ (fun _ => ?_)
theorem gK.calls (k : Nat) (a0 a1 r : Int) (w : World) (h : gK.f k a0 a1 = some r) :
  Calls Tryz.prog 46 #[.int .u32 a0, .int .u32 a1] w fun e w' => e = .returned (.int .u32 r) ∧ Below w.heap.size w w' := by
 have hu42 := Tryz.underlying42
 have HB := Aside0.mk (Below.refl w.heap.size w)
 have H : ((fA.f k 2 0 a0 a1).bind fun bt426 => (some bt426.1)) = some r := h
 clear h
 replace H := bq_ H
 obtain ⟨⟨t426, t427, t428, t429, t430, t431⟩, A30, H⟩ := H
 replace H : (some t426) = some r := H
 have A3 := Aside0.mk A30
 clear A30
 obtain rfl := Option.some.inj H
 go_enter Tryz.func46, Tryz.ntmps46
 go_wp2_with (first | ((with_reducible refine gate_callee (f := 85) rfl ?_); refine goesL_ (some 10) rfl rfl Tryz.func85 (by kernel_rfl) rfl #[.int .i64 2, .int .i64 0, .int .u32 a0, .int .u32 a1] rfl gl ?_; (with_reducible refine (fA.calls k 2 0 a0 a1 t426 t427 t428 t429 t430 t431 _ A3.out).mono ?_); rintro e w4 ⟨rfl, hb⟩; refine ⟨_, rfl, ?_⟩; have n0_ := Aside0.mk (below_step (bl0 HB.out) hb); clear HB; have HB := n0_; clear n0_) | ((with_reducible refine gate_dst (N := 6) rfl ?_); refine box_event ?hg (N := 6) ?hd (cs := F5) (t := 42) ?hr ?_; (case hd => rfl); (case hg => rfl); (case hr => first | (go_simp; done) | (go_simp; rfl)); intro gb432 hg w5 hbox hb; have n0_ := Aside0.mk (below_step (bl0 HB.out) hb); have n1_ := Aside0.mk (hbox); have n2_ := Aside0.mk ((by rw [hg]; exact (below_size (bl0 HB.out)) : w.heap.size ≤ gb432)); have n3_ := n2_; clear HB; have HB := n0_; have BK432 := n1_; have GW432 := n2_; have GE432 := n3_; clear n0_ n1_ n2_ n3_; clear hb hbox hg; obtain ⟨hcz6_0, hcz6_1, hcz6_2, hcz6_3, hcz6_4⟩ := bc5 BK432.out; obtain ⟨hfz6_0, hfz6_1, hfz6_2, hfz6_3, hfz6_4⟩ := bf5 BK432.out))
 go_ret
 exact ⟨by first | rfl | (simp [aP, aQ] <;> rfl) | (simp [*, aP, aQ] <;> rfl), bl1 HB.out GE432.out⟩

attribute [local go_sem] max2_int min2_int max_two min_two max_three min_three max_four min_four

-- NEED 0
/-! ### fP: function 47 -/
def fP.f (a0 : Int) : Option (Int) := (fK.f 2 a0).bind fun t433 => (some t433)
theorem fP.calls (a0 r : Int) (w : World) (h : fP.f a0 = some r) :
  Calls Tryz.prog 47 #[.int .u32 a0] w fun e w' => e = .returned (.int .u32 r) ∧ Drawn0 w w' := by
 have H : ((fK.f 2 a0).bind fun t433 => (some t433)) = some r := h
 clear h
 replace H := bq_ H
 obtain ⟨t433, A20, H⟩ := H
 replace H : (some t433) = some r := H
 have A2 := Aside0.mk A20
 clear A20
 obtain rfl := Option.some.inj H
 go_enter Tryz.func47, Tryz.ntmps47
 go_wp2_with (first | ((with_reducible refine gate_callee (f := 86) rfl ?_); refine goesL_ (some 4) rfl rfl Tryz.func86 (by kernel_rfl) rfl #[.int .i64 2, .int .u32 a0] rfl gl ?_; (with_reducible refine (fK.calls 2 a0 t433 _ A2.out).mono ?_); rintro e w' ⟨rfl, ⟨nd, rfl⟩⟩; refine ⟨_, rfl, ?_⟩))
 go_ret
 exact ⟨gr_, gd_⟩

attribute [local go_sem] max2_int min2_int max_two min_two max_three min_three max_four min_four

-- NEED 3
/-! ### gX: function 87 -/
def gX.f (k : Nat) (a0 a1 a2 : Int) : Option (Int) := (aX.f k 2 0 a0 a1 a2).bind fun bt488 => (some bt488.1)
theorem gX.mono : ∀ a0 a1 a2 k, LeO (gX.f k a0 a1 a2) (gX.f (k + 1) a0 a1 a2) := by
 intro a0 a1 a2 k
 unfold gX.f
 repeat' first
   |(with_reducible first|exact aX.mono _ _ _ _ _ _|exact LeO.refl _|exact LeO.none _|refine LeO.ite ?_ ?_|refine LeO.bind ?_ (fun _ => ?_))
   |exact aX.mono _ _ _ _ _ _
   |exact LeO.none _
   |refine LeO.ite ?_ ?_
   |refine LeO.bind ?_ (fun _ => ?_)
theorem gX.calls (k : Nat) (a0 a1 : Int) (a2 r : Int) (w : World) (h : gX.f k a0 a1 a2 = some r) :
  Calls Tryz.prog 87 #[.int .u32 a0, .int .u32 a1, .int .u32 a2] w fun e w' => e = .returned (.int .u32 r) ∧ Below w.heap.size w w' := by
 have hu42 := Tryz.underlying42
 have HB := Aside0.mk (Below.refl w.heap.size w)
 have H : ((aX.f k 2 0 a0 a1 a2).bind fun bt488 => (some bt488.1)) = some r := h
 clear h
 replace H := bq_ H
 obtain ⟨⟨t488, t489, t490, t491, t492, t493⟩, A40, H⟩ := H
 replace H : (some t488) = some r := H
 have A4 := Aside0.mk A40
 clear A40
 obtain rfl := Option.some.inj H
 go_enter Tryz.func87, Tryz.ntmps87
 go_wp2_with (first | ((with_reducible refine gate_callee (f := 104) rfl ?_); refine goesL_ (some 13) rfl rfl Tryz.func104 (by kernel_rfl) rfl #[.int .i64 2, .int .i64 0, .int .u32 a0, .int .u32 a1, .int .u32 a2] rfl gl ?_; (with_reducible refine (aX.calls k 2 0 a0 a1 a2 t488 t489 t490 t491 t492 t493 _ A4.out).mono ?_); rintro e w5 ⟨rfl, hb⟩; refine ⟨_, rfl, ?_⟩; have n0_ := Aside0.mk (below_step (bl0 HB.out) hb); clear HB; have HB := n0_; clear n0_) | ((with_reducible refine gate_dst (N := 8) rfl ?_); refine box_event ?hg (N := 8) ?hd (cs := F5) (t := 42) ?hr ?_; (case hd => rfl); (case hg => rfl); (case hr => first | (go_simp; done) | (go_simp; rfl)); intro gb494 hg w6 hbox hb; have n0_ := Aside0.mk (below_step (bl0 HB.out) hb); have n1_ := Aside0.mk (hbox); have n2_ := Aside0.mk ((by rw [hg]; exact (below_size (bl0 HB.out)) : w.heap.size ≤ gb494)); have n3_ := n2_; clear HB; have HB := n0_; have BK494 := n1_; have GW494 := n2_; have GE494 := n3_; clear n0_ n1_ n2_ n3_; clear hb hbox hg; obtain ⟨hcz7_0, hcz7_1, hcz7_2, hcz7_3, hcz7_4⟩ := bc5 BK494.out; obtain ⟨hfz7_0, hfz7_1, hfz7_2, hfz7_3, hfz7_4⟩ := bf5 BK494.out))
 go_ret
 exact ⟨by first | rfl | (simp [aP, aQ] <;> rfl) | (simp [*, aP, aQ] <;> rfl), bl1 HB.out GE494.out⟩

-- NEED 3
/-! ### dJ: function 48 -/
def dJ.l0 : Nat → Int → Int → List Int → Int → Int → Option (Int)
 |0, _, _, _, _, _ => none
 |k + 1, x0, x1, x9, x10, x11 => if x11 < x10 then (if 0 ≤ x11 then (if x11 < (x9.length : Int) then ((gX.f k x1 x0 (rd x9 x11)).bind fun t496 => (dJ.l0 k x0 t496 x9 x10 (wrap64 (x11 + 1)))) else (none)) else (none)) else (some x1)
def dJ.f (k : Nat) (a0 a1 : Int) (l2 : List Int) : Option (Int) := dJ.l0 k a0 a1 l2 (l2.length : Int) 0
theorem dJ.eZ : ∀ k, (∀ y0 y1 y2 y3 y4, LeO (dJ.l0 k y0 y1 y2 y3 y4) (dJ.l0 (k + 1) y0 y1 y2 y3 y4))
 |0 => fun _ _ _ _ _ r h => by simp [dJ.l0] at h
 |k + 1 => by
  have ih0 := dJ.eZ k
  ·intro y0 y1 y2 y3 y4
   unfold dJ.l0
   repeat' first
   |(with_reducible first|exact ih0 _ _ _ _ _|exact gX.mono _ _ _ _|exact LeO.refl _|exact LeO.none _|refine LeO.ite ?_ ?_|refine LeO.bind ?_ (fun _ => ?_))
   |exact ih0 _ _ _ _ _
   |exact gX.mono _ _ _ _
   |exact LeO.none _
   |refine LeO.ite ?_ ?_
   |refine LeO.bind ?_ (fun _ => ?_)
theorem dJ.mono : ∀ a0 a1 a2 k, LeO (dJ.f k a0 a1 a2) (dJ.f (k + 1) a0 a1 a2) := by
 intro a0 a1 a2 k
 have ih0 := dJ.eZ k
 unfold dJ.f
 repeat' first
   |(with_reducible first|exact ih0 _ _ _ _ _|exact gX.mono _ _ _ _|exact LeO.refl _|exact LeO.none _|refine LeO.ite ?_ ?_|refine LeO.bind ?_ (fun _ => ?_))
   |exact ih0 _ _ _ _ _
   |exact gX.mono _ _ _ _
   |exact LeO.none _
   |refine LeO.ite ?_ ?_
   |refine LeO.bind ?_ (fun _ => ?_)
theorem dJ.calls (k : Nat) (a0 a1 : Int) (A2 : Option Addr) (c2 : Nat) (l2 : List Int) (r : Int) (w : World) (hr2 : Kd.C (Kd.int .u32) w A2 l2.length l2) (hc2 : l2.length ≤ c2) (h : dJ.f k a0 a1 l2 = some r) :
  Calls Tryz.prog 48 #[.int .u32 a0, .int .u32 a1, .slice A2 l2.length c2] w fun e w' => e = .returned (.int .u32 r) ∧ Below w.heap.size w w' := by
 have HR2 := Aside0.mk hr2
 have HC2 := Aside0.mk hc2
 clear hr2 hc2
 have HB := Aside0.mk (Below.refl w.heap.size w)
 have H : (dJ.l0 k a0 a1 l2 (l2.length : Int) 0) = some r := h
 clear h
 have H' := Aside0.mk H
 clear H
 go_enter Tryz.func48, Tryz.ntmps48
 go_wp2
 go_loopg [1, 11] k (fun kq v1 v11 w' => ∃ (x1_1 : Int) (x11_1 : Int), v1 = .int .u32 x1_1 ∧ v11 = .int .i64 x11_1 ∧ Aside0 (dJ.l0 kq a0 x1_1 l2 (l2.length : Int) x11_1 = some r) ∧ Aside0 (kq ≤ k) ∧ Aside0 (Below w.heap.size w w'))
 case atStart => exact ⟨(a1), (0), (gr_), (gr_), H', ⟨Nat.le_refl _⟩, ⟨bl0 HB.out⟩⟩
 case round =>
  clear H'
  try clear c2 p2
  obtain ⟨x1_1, x11_1, rfl, rfl, HA, HK1, HB⟩ := hrel
  cases gk with
  |zero => exact absurd HA.out (by simp [dJ.l0])
  |succ k1 =>
   have H := HA.out
   clear HA
   simp only [dJ.l0] at H
   by_cases c4 : x11_1 < (l2.length : Int)
   ·rw [if_pos c4] at H
    have c4b0 : decide (x11_1 < (l2.length : Int)) = true := decide_eq_true c4
    clear c4
    by_cases c5 : 0 ≤ x11_1
    ·rw [if_pos c5] at H
     have c5b0 : decide (0 ≤ x11_1) = true := decide_eq_true c5
     clear c5
     by_cases c6 : x11_1 < (l2.length : Int)
     ·rw [if_pos c6] at H
      have c6b0 : decide (x11_1 < (l2.length : Int)) = true := decide_eq_true c6
      clear c6
      replace H := bq_ H
      obtain ⟨t496, A70, H⟩ := H
      replace H : (dJ.l0 k1 a0 t496 l2 (l2.length : Int) (wrap64 (x11_1 + 1))) = some r := H
      have A7 := Aside0.mk A70
      clear A70
      have H' := Aside0.mk H
      clear H
      have p495 : 0 ≤ (x11_1 : Int) := of_decide_eq_true (by first | (with_reducible assumption) | assumption)
      have q495 : x11_1 < (l2.length : Int) := of_decide_eq_true (by first | (with_reducible assumption) | assumption)
      obtain ⟨ad495, e495, hx495_0⟩ := Kd.at_int HR2.out x11_1 p495 q495
      cases e495
      replace hx495_0 := (HB.out.cell (World.block_lt_of_cell? w _ hx495_0)).trans hx495_0
      replace p495 := eq_true p495
      replace q495 := eq_true q495
      go_wp2_with (first | ((with_reducible refine gate_callee (f := 87) rfl ?_); refine goesL_ (some 18) rfl rfl Tryz.func87 (by kernel_rfl) rfl #[.int .u32 x1_1, .int .u32 a0, .int .u32 (rd l2 x11_1)] rfl gl ?_; (with_reducible refine (gX.calls k1 x1_1 a0 (rd l2 x11_1) t496 _ A7.out).mono ?_); rintro e w8 ⟨rfl, hb⟩; refine ⟨_, rfl, ?_⟩; have n0_ := Aside0.mk (below_step (bl0 HB.out) hb); clear HB; have HB := n0_; clear n0_))
      go_roundg k1
      case measure => have := HK1.out; omega
      case rel => exact ⟨(t496), (wrap64 (x11_1 + 1)), (gr_), (gr_), H', ⟨by have := HK1.out; omega⟩, ⟨bl0 HB.out⟩⟩
     ·rw [if_neg c6] at H
      exact absurd H (by simp)
    ·rw [if_neg c5] at H
     exact absurd H (by simp)
   ·rw [if_neg c4] at H
    have c4b0 : decide (x11_1 < (l2.length : Int)) = false := decide_eq_false c4
    clear c4
    obtain rfl := Option.some.inj H
    go_wp2
    go_ret
    exact ⟨by first | rfl | (simp [aP, aQ] <;> rfl) | (simp [*, aP, aQ] <;> rfl), bl0 HB.out⟩

attribute [local go_sem] max2_int min2_int max_two min_two max_three min_three max_four min_four

-- NEED 2
/-! ### dM: function 13 -/
def dM.f (k : Nat) (a0 a1 : Int) : Option (Int) := (aC.f k 2 0 a0 a1).bind fun bt678 => (some bt678.1)
theorem dM.calls (k : Nat) (a0 a1 r : Int) (w : World) (h : dM.f k a0 a1 = some r) :
  Calls Tryz.prog 13 #[.int .u32 a0, .int .u32 a1] w fun e w' => e = .returned (.int .u32 r) ∧ Below w.heap.size w w' := by
 have hu42 := Tryz.underlying42
 have HB := Aside0.mk (Below.refl w.heap.size w)
 have H : ((aC.f k 2 0 a0 a1).bind fun bt678 => (some bt678.1)) = some r := h
 clear h
 replace H := bq_ H
 obtain ⟨⟨t678, t679, t680, t681, t682, t683⟩, A30, H⟩ := H
 replace H : (some t678) = some r := H
 have A3 := Aside0.mk A30
 clear A30
 obtain rfl := Option.some.inj H
 go_enter Tryz.func13, Tryz.ntmps13
 go_wp2_with (first | ((with_reducible refine gate_callee (f := 23) rfl ?_); refine goesL_ (some 10) rfl rfl Tryz.func23 (by kernel_rfl) rfl #[.int .i64 2, .int .i64 0, .int .u32 a0, .int .u32 a1] rfl gl ?_; (with_reducible refine (aC.calls k 2 0 a0 a1 t678 t679 t680 t681 t682 t683 _ A3.out).mono ?_); rintro e w4 ⟨rfl, hb⟩; refine ⟨_, rfl, ?_⟩; have n0_ := Aside0.mk (below_step (bl0 HB.out) hb); clear HB; have HB := n0_; clear n0_) | ((with_reducible refine gate_dst (N := 6) rfl ?_); refine box_event ?hg (N := 6) ?hd (cs := F5) (t := 42) ?hr ?_; (case hd => rfl); (case hg => rfl); (case hr => first | (go_simp; done) | (go_simp; rfl)); intro gb684 hg w5 hbox hb; have n0_ := Aside0.mk (below_step (bl0 HB.out) hb); have n1_ := Aside0.mk (hbox); have n2_ := Aside0.mk ((by rw [hg]; exact (below_size (bl0 HB.out)) : w.heap.size ≤ gb684)); have n3_ := n2_; clear HB; have HB := n0_; have BK684 := n1_; have GW684 := n2_; have GE684 := n3_; clear n0_ n1_ n2_ n3_; clear hb hbox hg; obtain ⟨hcz6_0, hcz6_1, hcz6_2, hcz6_3, hcz6_4⟩ := bc5 BK684.out; obtain ⟨hfz6_0, hfz6_1, hfz6_2, hfz6_3, hfz6_4⟩ := bf5 BK684.out))
 go_ret
 exact ⟨by first | rfl | (simp [aP, aQ] <;> rfl) | (simp [*, aP, aQ] <;> rfl), bl1 HB.out GE684.out⟩

attribute [local go_sem] max2_int min2_int max_two min_two max_three min_three max_four min_four

-- NEED 2
/-! ### bB: function 15 -/
def bB.f (k : Nat) (a0 a1 : Int) : Option (Int) := (aG.f k 2 0 a0 a1).bind fun bt736 => (some bt736.1)
theorem bB.calls (k : Nat) (a0 a1 r : Int) (w : World) (h : bB.f k a0 a1 = some r) :
  Calls Tryz.prog 15 #[.int .u32 a0, .int .u32 a1] w fun e w' => e = .returned (.int .u32 r) ∧ Below w.heap.size w w' := by
 have hu42 := Tryz.underlying42
 have HB := Aside0.mk (Below.refl w.heap.size w)
 have H : ((aG.f k 2 0 a0 a1).bind fun bt736 => (some bt736.1)) = some r := h
 clear h
 replace H := bq_ H
 obtain ⟨⟨t736, t737, t738, t739, t740, t741⟩, A30, H⟩ := H
 replace H : (some t736) = some r := H
 have A3 := Aside0.mk A30
 clear A30
 obtain rfl := Option.some.inj H
 go_enter Tryz.func15, Tryz.ntmps15
 go_wp2_with (first | ((with_reducible refine gate_callee (f := 25) rfl ?_); refine goesL_ (some 10) rfl rfl Tryz.func25 (by kernel_rfl) rfl #[.int .i64 2, .int .i64 0, .int .u32 a0, .int .u32 a1] rfl gl ?_; (with_reducible refine (aG.calls k 2 0 a0 a1 t736 t737 t738 t739 t740 t741 _ A3.out).mono ?_); rintro e w4 ⟨rfl, hb⟩; refine ⟨_, rfl, ?_⟩; have n0_ := Aside0.mk (below_step (bl0 HB.out) hb); clear HB; have HB := n0_; clear n0_) | ((with_reducible refine gate_dst (N := 6) rfl ?_); refine box_event ?hg (N := 6) ?hd (cs := F5) (t := 42) ?hr ?_; (case hd => rfl); (case hg => rfl); (case hr => first | (go_simp; done) | (go_simp; rfl)); intro gb742 hg w5 hbox hb; have n0_ := Aside0.mk (below_step (bl0 HB.out) hb); have n1_ := Aside0.mk (hbox); have n2_ := Aside0.mk ((by rw [hg]; exact (below_size (bl0 HB.out)) : w.heap.size ≤ gb742)); have n3_ := n2_; clear HB; have HB := n0_; have BK742 := n1_; have GW742 := n2_; have GE742 := n3_; clear n0_ n1_ n2_ n3_; clear hb hbox hg; obtain ⟨hcz6_0, hcz6_1, hcz6_2, hcz6_3, hcz6_4⟩ := bc5 BK742.out; obtain ⟨hfz6_0, hfz6_1, hfz6_2, hfz6_3, hfz6_4⟩ := bf5 BK742.out))
 go_ret
 exact ⟨by first | rfl | (simp [aP, aQ] <;> rfl) | (simp [*, aP, aQ] <;> rfl), bl1 HB.out GE742.out⟩

attribute [local go_sem] max2_int min2_int max_two min_two max_three min_three max_four min_four

-- EVALUATED
/-! ### aZ: function 26 -/
noncomputable def aZ.f (k : Nat) (a0 a1 : Int) (a2 a3 : Int) : Option (Int × Bool × Bool × Bool × Bool × Bool) := Go.Proofs.YtjlgmfgjleajfaaGreat.E.aZ.f k a0 a1 a2 a3
theorem aZ.calls (k : Nat) (a0 a1 : Int) (a2 a3 r1 : Int) (r2 r3 : Bool) (r4 r5 r6 : Bool) (w : World) (h : aZ.f k a0 a1 a2 a3 = some (r1, r2, r3, r4, r5, r6)) :
  Calls Tryz.prog 26 #[.int .i64 a0, .int .i64 a1, .int .u32 a2, .int .u32 a3] w fun e w' => e = .returned (.tuple #[.int .u32 r1, .agg #[.bool r2, .bool r3, .bool r4, .bool r5, .bool r6]]) ∧ Below w.heap.size w w' :=
 Go.Proofs.YtjlgmfgjleajfaaGreat.Ek.jQ Go.Proofs.YtjlgmfgjleajfaaGreat.E.aZ.ok k ((a0, ()), (a1, ()), (a2, ()), (a3, ()), ()) (r1, r2, r3, r4, r5, r6) rfl h w

attribute [local go_sem] max2_int min2_int max_two min_two max_three min_three max_four min_four

-- NEED 5
/-! ### eB: function 16 -/
noncomputable def eB.f (k : Nat) (a0 a1 : Int) : Option (Int) := (aZ.f k 2 0 a0 a1).bind fun bt827 => (some bt827.1)
theorem eB.calls (k : Nat) (a0 a1 r : Int) (w : World) (h : eB.f k a0 a1 = some r) :
  Calls Tryz.prog 16 #[.int .u32 a0, .int .u32 a1] w fun e w' => e = .returned (.int .u32 r) ∧ Below w.heap.size w w' := by
 have hu42 := Tryz.underlying42
 have HB := Aside0.mk (Below.refl w.heap.size w)
 have H : ((aZ.f k 2 0 a0 a1).bind fun bt827 => (some bt827.1)) = some r := h
 clear h
 replace H := bq_ H
 obtain ⟨⟨t827, t828, t829, t830, t831, t832⟩, A30, H⟩ := H
 replace H : (some t827) = some r := H
 have A3 := Aside0.mk A30
 clear A30
 obtain rfl := Option.some.inj H
 go_enter Tryz.func16, Tryz.ntmps16
 go_wp2_with (first | ((with_reducible refine gate_callee (f := 26) rfl ?_); refine goesL_ (some 10) rfl rfl Tryz.func26 (by kernel_rfl) rfl #[.int .i64 2, .int .i64 0, .int .u32 a0, .int .u32 a1] rfl gl ?_; (with_reducible refine (aZ.calls k 2 0 a0 a1 t827 t828 t829 t830 t831 t832 _ A3.out).mono ?_); rintro e w4 ⟨rfl, hb⟩; refine ⟨_, rfl, ?_⟩; have n0_ := Aside0.mk (below_step (bl0 HB.out) hb); clear HB; have HB := n0_; clear n0_) | ((with_reducible refine gate_dst (N := 6) rfl ?_); refine box_event ?hg (N := 6) ?hd (cs := F5) (t := 42) ?hr ?_; (case hd => rfl); (case hg => rfl); (case hr => first | (go_simp; done) | (go_simp; rfl)); intro gb833 hg w5 hbox hb; have n0_ := Aside0.mk (below_step (bl0 HB.out) hb); have n1_ := Aside0.mk (hbox); have n2_ := Aside0.mk ((by rw [hg]; exact (below_size (bl0 HB.out)) : w.heap.size ≤ gb833)); have n3_ := n2_; clear HB; have HB := n0_; have BK833 := n1_; have GW833 := n2_; have GE833 := n3_; clear n0_ n1_ n2_ n3_; clear hb hbox hg; obtain ⟨hcz6_0, hcz6_1, hcz6_2, hcz6_3, hcz6_4⟩ := bc5 BK833.out; obtain ⟨hfz6_0, hfz6_1, hfz6_2, hfz6_3, hfz6_4⟩ := bf5 BK833.out))
 go_ret
 exact ⟨by first | rfl | (simp [aP, aQ] <;> rfl) | (simp [*, aP, aQ] <;> rfl), bl1 HB.out GE833.out⟩

attribute [local go_sem] max2_int min2_int max_two min_two max_three min_three max_four min_four

-- EVALUATED
/-! ### dD: function 62 -/
noncomputable def dD.f (k : Nat) (a0 a1 : Int) (a2 a3 : Int) : Option (Int × Bool × Bool × Bool × Bool × Bool) := Go.Proofs.YtjlgmfgjleajfaaGreat.E.dD.f k a0 a1 a2 a3
theorem dD.calls (k : Nat) (a0 a1 : Int) (a2 a3 r1 : Int) (r2 r3 : Bool) (r4 r5 r6 : Bool) (w : World) (h : dD.f k a0 a1 a2 a3 = some (r1, r2, r3, r4, r5, r6)) :
  Calls Tryz.prog 62 #[.int .i64 a0, .int .i64 a1, .int .u32 a2, .int .u32 a3] w fun e w' => e = .returned (.tuple #[.int .u32 r1, .agg #[.bool r2, .bool r3, .bool r4, .bool r5, .bool r6]]) ∧ Below w.heap.size w w' :=
 Go.Proofs.YtjlgmfgjleajfaaGreat.Ek.jQ Go.Proofs.YtjlgmfgjleajfaaGreat.E.dD.ok k ((a0, ()), (a1, ()), (a2, ()), (a3, ()), ()) (r1, r2, r3, r4, r5, r6) rfl h w

attribute [local go_sem] max2_int min2_int max_two min_two max_three min_three max_four min_four

-- NEED 5
/-! ### fJ: function 28 -/
noncomputable def fJ.f (k : Nat) (a0 a1 : Int) : Option (Int) := (dD.f k 2 0 a0 a1).bind fun bt843 => (some bt843.1)
theorem fJ.calls (k : Nat) (a0 a1 r : Int) (w : World) (h : fJ.f k a0 a1 = some r) :
  Calls Tryz.prog 28 #[.int .u32 a0, .int .u32 a1] w fun e w' => e = .returned (.int .u32 r) ∧ Below w.heap.size w w' := by
 have hu42 := Tryz.underlying42
 have HB := Aside0.mk (Below.refl w.heap.size w)
 have H : ((dD.f k 2 0 a0 a1).bind fun bt843 => (some bt843.1)) = some r := h
 clear h
 replace H := bq_ H
 obtain ⟨⟨t843, t844, t845, t846, t847, t848⟩, A30, H⟩ := H
 replace H : (some t843) = some r := H
 have A3 := Aside0.mk A30
 clear A30
 obtain rfl := Option.some.inj H
 go_enter Tryz.func28, Tryz.ntmps28
 go_wp2_with (first | ((with_reducible refine gate_callee (f := 62) rfl ?_); refine goesL_ (some 10) rfl rfl Tryz.func62 (by kernel_rfl) rfl #[.int .i64 2, .int .i64 0, .int .u32 a0, .int .u32 a1] rfl gl ?_; (with_reducible refine (dD.calls k 2 0 a0 a1 t843 t844 t845 t846 t847 t848 _ A3.out).mono ?_); rintro e w4 ⟨rfl, hb⟩; refine ⟨_, rfl, ?_⟩; have n0_ := Aside0.mk (below_step (bl0 HB.out) hb); clear HB; have HB := n0_; clear n0_) | ((with_reducible refine gate_dst (N := 6) rfl ?_); refine box_event ?hg (N := 6) ?hd (cs := F5) (t := 42) ?hr ?_; (case hd => rfl); (case hg => rfl); (case hr => first | (go_simp; done) | (go_simp; rfl)); intro gb849 hg w5 hbox hb; have n0_ := Aside0.mk (below_step (bl0 HB.out) hb); have n1_ := Aside0.mk (hbox); have n2_ := Aside0.mk ((by rw [hg]; exact (below_size (bl0 HB.out)) : w.heap.size ≤ gb849)); have n3_ := n2_; clear HB; have HB := n0_; have BK849 := n1_; have GW849 := n2_; have GE849 := n3_; clear n0_ n1_ n2_ n3_; clear hb hbox hg; obtain ⟨hcz6_0, hcz6_1, hcz6_2, hcz6_3, hcz6_4⟩ := bc5 BK849.out; obtain ⟨hfz6_0, hfz6_1, hfz6_2, hfz6_3, hfz6_4⟩ := bf5 BK849.out))
 go_ret
 exact ⟨by first | rfl | (simp [aP, aQ] <;> rfl) | (simp [*, aP, aQ] <;> rfl), bl1 HB.out GE849.out⟩

attribute [local go_sem] max2_int min2_int max_two min_two max_three min_three max_four min_four

-- NEED 0
/-! ### dV: function 29 -/
def dV.f (k : Nat) (a0 : Int) : Option (Int) := (dY.f k 2 a0).bind fun t850 => (some t850)
theorem dV.calls (k : Nat) (a0 r : Int) (w : World) (h : dV.f k a0 = some r) :
  Calls Tryz.prog 29 #[.int .u32 a0] w fun e w' => e = .returned (.int .u32 r) ∧ Below w.heap.size w w' := by
 have HB := Aside0.mk (Below.refl w.heap.size w)
 have H : ((dY.f k 2 a0).bind fun t850 => (some t850)) = some r := h
 clear h
 replace H := bq_ H
 obtain ⟨t850, A20, H⟩ := H
 replace H : (some t850) = some r := H
 have A2 := Aside0.mk A20
 clear A20
 obtain rfl := Option.some.inj H
 go_enter Tryz.func29, Tryz.ntmps29
 go_wp2_with (first | ((with_reducible refine gate_callee (f := 63) rfl ?_); refine goesL_ (some 4) rfl rfl Tryz.func63 (by kernel_rfl) rfl #[.int .i64 2, .int .u32 a0] rfl gl ?_; (with_reducible refine (dY.calls k 2 a0 t850 _ A2.out).mono ?_); rintro e w3 ⟨rfl, hb⟩; refine ⟨_, rfl, ?_⟩; have n0_ := Aside0.mk (below_step (bl0 HB.out) hb); clear HB; have HB := n0_; clear n0_))
 go_ret
 exact ⟨by first | rfl | (simp [aP, aQ] <;> rfl) | (simp [*, aP, aQ] <;> rfl), bl0 HB.out⟩

attribute [local go_sem] max2_int min2_int max_two min_two max_three min_three max_four min_four

-- EVALUATED
/-! ### aS: function 99 -/
noncomputable def aS.f (k : Nat) (a0 a1 : Int) (a2 a3 a4 : Int) : Option (Int × Bool × Bool × Bool × Bool × Bool) := Go.Proofs.YtjlgmfgjleajfaaGreat.E.aS.f k a0 a1 a2 a3 a4
theorem aS.calls (k : Nat) (a0 a1 : Int) (a2 a3 : Int) (a4 r1 : Int) (r2 r3 : Bool) (r4 r5 r6 : Bool) (w : World) (h : aS.f k a0 a1 a2 a3 a4 = some (r1, r2, r3, r4, r5, r6)) :
  Calls Tryz.prog 99 #[.int .i64 a0, .int .i64 a1, .int .u32 a2, .int .u32 a3, .int .u32 a4] w fun e w' => e = .returned (.tuple #[.int .u32 r1, .agg #[.bool r2, .bool r3, .bool r4, .bool r5, .bool r6]]) ∧ Below w.heap.size w w' :=
 Go.Proofs.YtjlgmfgjleajfaaGreat.Ek.jQ Go.Proofs.YtjlgmfgjleajfaaGreat.E.aS.ok k ((a0, ()), (a1, ()), (a2, ()), (a3, ()), (a4, ()), ()) (r1, r2, r3, r4, r5, r6) rfl h w

attribute [local go_sem] max2_int min2_int max_two min_two max_three min_three max_four min_four

-- NEED 5
/-! ### gY: function 64 -/
noncomputable def gY.f (k : Nat) (a0 a1 a2 : Int) : Option (Int) := (aS.f k 2 0 a0 a1 a2).bind fun bt851 => (some bt851.1)
theorem gY.calls (k : Nat) (a0 a1 : Int) (a2 r : Int) (w : World) (h : gY.f k a0 a1 a2 = some r) :
  Calls Tryz.prog 64 #[.int .u32 a0, .int .u32 a1, .int .u32 a2] w fun e w' => e = .returned (.int .u32 r) ∧ Below w.heap.size w w' := by
 have hu42 := Tryz.underlying42
 have HB := Aside0.mk (Below.refl w.heap.size w)
 have H : ((aS.f k 2 0 a0 a1 a2).bind fun bt851 => (some bt851.1)) = some r := h
 clear h
 replace H := bq_ H
 obtain ⟨⟨t851, t852, t853, t854, t855, t856⟩, A40, H⟩ := H
 replace H : (some t851) = some r := H
 have A4 := Aside0.mk A40
 clear A40
 obtain rfl := Option.some.inj H
 go_enter Tryz.func64, Tryz.ntmps64
 go_wp2_with (first | ((with_reducible refine gate_callee (f := 99) rfl ?_); refine goesL_ (some 13) rfl rfl Tryz.func99 (by kernel_rfl) rfl #[.int .i64 2, .int .i64 0, .int .u32 a0, .int .u32 a1, .int .u32 a2] rfl gl ?_; (with_reducible refine (aS.calls k 2 0 a0 a1 a2 t851 t852 t853 t854 t855 t856 _ A4.out).mono ?_); rintro e w5 ⟨rfl, hb⟩; refine ⟨_, rfl, ?_⟩; have n0_ := Aside0.mk (below_step (bl0 HB.out) hb); clear HB; have HB := n0_; clear n0_) | ((with_reducible refine gate_dst (N := 8) rfl ?_); refine box_event ?hg (N := 8) ?hd (cs := F5) (t := 42) ?hr ?_; (case hd => rfl); (case hg => rfl); (case hr => first | (go_simp; done) | (go_simp; rfl)); intro gb857 hg w6 hbox hb; have n0_ := Aside0.mk (below_step (bl0 HB.out) hb); have n1_ := Aside0.mk (hbox); have n2_ := Aside0.mk ((by rw [hg]; exact (below_size (bl0 HB.out)) : w.heap.size ≤ gb857)); have n3_ := n2_; clear HB; have HB := n0_; have BK857 := n1_; have GW857 := n2_; have GE857 := n3_; clear n0_ n1_ n2_ n3_; clear hb hbox hg; obtain ⟨hcz7_0, hcz7_1, hcz7_2, hcz7_3, hcz7_4⟩ := bc5 BK857.out; obtain ⟨hfz7_0, hfz7_1, hfz7_2, hfz7_3, hfz7_4⟩ := bf5 BK857.out))
 go_ret
 exact ⟨by first | rfl | (simp [aP, aQ] <;> rfl) | (simp [*, aP, aQ] <;> rfl), bl1 HB.out GE857.out⟩

-- NEED 5
/-! ### bU: function 30 -/
noncomputable def bU.l0 : Nat → Int → Int → List Int → Int → Option (Int)
 |0, _, _, _, _ => none
 |k + 1, x0, x1, x2, x7 => if x7 < (x2.length : Int) then (if 0 ≤ x7 then ((gY.f k x0 x1 (rd x2 x7)).bind fun t859 => (bU.l0 k t859 x1 x2 (wrap64 (x7 + 1)))) else (none)) else (some x0)
noncomputable def bU.f (k : Nat) (a0 a1 : Int) (l2 : List Int) : Option (Int) := bU.l0 k a0 a1 l2 0
theorem bU.calls (k : Nat) (a0 a1 : Int) (A2 : Option Addr) (c2 : Nat) (l2 : List Int) (r : Int) (w : World) (hr2 : Kd.C (Kd.int .u32) w A2 l2.length l2) (hc2 : l2.length ≤ c2) (h : bU.f k a0 a1 l2 = some r) :
  Calls Tryz.prog 30 #[.int .u32 a0, .int .u32 a1, .slice A2 l2.length c2] w fun e w' => e = .returned (.int .u32 r) ∧ Below w.heap.size w w' := by
 have HR2 := Aside0.mk hr2
 have HC2 := Aside0.mk hc2
 clear hr2 hc2
 have HB := Aside0.mk (Below.refl w.heap.size w)
 have H : (bU.l0 k a0 a1 l2 0) = some r := h
 clear h
 have H' := Aside0.mk H
 clear H
 go_enter Tryz.func30, Tryz.ntmps30
 go_wp2
 go_loopg [0, 7] k (fun kq v0 v7 w' => ∃ (x0_1 : Int) (x7_1 : Int), v0 = .int .u32 x0_1 ∧ v7 = .int .i64 x7_1 ∧ Aside0 (bU.l0 kq x0_1 a1 l2 x7_1 = some r) ∧ Aside0 (kq ≤ k) ∧ Aside0 (Below w.heap.size w w'))
 case atStart => exact ⟨(a0), (0), (gr_), (gr_), H', ⟨Nat.le_refl _⟩, ⟨bl0 HB.out⟩⟩
 case round =>
  clear H'
  try clear c2 p2 c3
  obtain ⟨x0_1, x7_1, rfl, rfl, HA, HK1, HB⟩ := hrel
  cases gk with
  |zero => exact absurd HA.out (by simp [bU.l0])
  |succ k1 =>
   have H := HA.out
   clear HA
   simp only [bU.l0] at H
   by_cases c4 : x7_1 < (l2.length : Int)
   ·rw [if_pos c4] at H
    have c4b0 : decide (x7_1 < (l2.length : Int)) = true := decide_eq_true c4
    clear c4
    by_cases c5 : 0 ≤ x7_1
    ·rw [if_pos c5] at H
     have c5b0 : decide (0 ≤ x7_1) = true := decide_eq_true c5
     clear c5
     replace H := bq_ H
     obtain ⟨t859, A60, H⟩ := H
     replace H : (bU.l0 k1 t859 a1 l2 (wrap64 (x7_1 + 1))) = some r := H
     have A6 := Aside0.mk A60
     clear A60
     have H' := Aside0.mk H
     clear H
     have p858 : 0 ≤ (x7_1 : Int) := of_decide_eq_true (by first | (with_reducible assumption) | assumption)
     have q858 : x7_1 < (l2.length : Int) := of_decide_eq_true (by first | (with_reducible assumption) | assumption)
     obtain ⟨ad858, e858, hx858_0⟩ := Kd.at_int HR2.out x7_1 p858 q858
     cases e858
     replace hx858_0 := (HB.out.cell (World.block_lt_of_cell? w _ hx858_0)).trans hx858_0
     replace p858 := eq_true p858
     replace q858 := eq_true q858
     go_wp2_with (first | ((with_reducible refine gate_callee (f := 64) rfl ?_); refine goesL_ (some 20) rfl rfl Tryz.func64 (by kernel_rfl) rfl #[.int .u32 x0_1, .int .u32 a1, .int .u32 (rd l2 x7_1)] rfl gl ?_; (with_reducible refine (gY.calls k1 x0_1 a1 (rd l2 x7_1) t859 _ A6.out).mono ?_); rintro e w7 ⟨rfl, hb⟩; refine ⟨_, rfl, ?_⟩; have n0_ := Aside0.mk (below_step (bl0 HB.out) hb); clear HB; have HB := n0_; clear n0_))
     go_roundg k1
     case measure => have := HK1.out; omega
     case rel => exact ⟨(t859), (wrap64 (x7_1 + 1)), (gr_), (gr_), H', ⟨by have := HK1.out; omega⟩, ⟨bl0 HB.out⟩⟩
    ·rw [if_neg c5] at H
     exact absurd H (by simp)
   ·rw [if_neg c4] at H
    have c4b0 : decide (x7_1 < (l2.length : Int)) = false := decide_eq_false c4
    clear c4
    obtain rfl := Option.some.inj H
    go_wp2
    go_ret
    exact ⟨by first | rfl | (simp [aP, aQ] <;> rfl) | (simp [*, aP, aQ] <;> rfl), bl0 HB.out⟩

-- NEED 5
/-! ### dX: function 17 -/
noncomputable def dX.f (k : Nat) (a0 : Int) : Option (Int) := (fZ.f k a0).bind fun t860 => (if t860 = true then (some 2143289344) else ((fJ.f k a0 1056964608).bind fun t861 => ((bB.f k 1078530011 t861).bind fun t862 => ((bB.f k t862 t862).bind fun t863 => ((bU.f k 3109031169 t863 (([1007192201, 3190467243, 1065353216] : List Int))).bind fun t867 => ((bB.f k t862 t867).bind fun t868 => ((dV.f k t868).bind fun t869 => (some t869))))))))
theorem dX.calls (k : Nat) (a0 r : Int) (w : World) (h : dX.f k a0 = some r) :
  Calls Tryz.prog 17 #[.int .u32 a0] w fun e w' => e = .returned (.int .u32 r) ∧ Below w.heap.size w w' := by
 have HB := Aside0.mk (Below.refl w.heap.size w)
 have H : ((fZ.f k a0).bind fun t860 => (if t860 = true then (some 2143289344) else ((fJ.f k a0 1056964608).bind fun t861 => ((bB.f k 1078530011 t861).bind fun t862 => ((bB.f k t862 t862).bind fun t863 => ((bU.f k 3109031169 t863 (([1007192201, 3190467243, 1065353216] : List Int))).bind fun t867 => ((bB.f k t862 t867).bind fun t868 => ((dV.f k t868).bind fun t869 => (some t869))))))))) = some r := h
 clear h
 replace H := bq_ H
 obtain ⟨t860, A20, H⟩ := H
 replace H : (if t860 = true then (some 2143289344) else ((fJ.f k a0 1056964608).bind fun t861 => ((bB.f k 1078530011 t861).bind fun t862 => ((bB.f k t862 t862).bind fun t863 => ((bU.f k 3109031169 t863 (([1007192201, 3190467243, 1065353216] : List Int))).bind fun t867 => ((bB.f k t862 t867).bind fun t868 => ((dV.f k t868).bind fun t869 => (some t869)))))))) = some r := H
 have A2 := Aside0.mk A20
 clear A20
 by_cases c3 : t860 = true
 ·subst c3
  have H1 : (some 2143289344) = some r := by rw [if_pos rfl] at H; exact H
  clear H
  have H := H1
  clear H1
  obtain rfl := Option.some.inj H
  go_enter Tryz.func17, Tryz.ntmps17
  go_wp2_with (first | ((with_reducible refine gate_callee (f := 27) rfl ?_); refine goesL_ (some 6) rfl rfl Tryz.func27 (by kernel_rfl) rfl #[.int .u32 a0] rfl gl ?_; (with_reducible refine (fZ.calls k a0 true _ A2.out).mono ?_); rintro e w' ⟨rfl, ⟨nd, rfl⟩⟩; refine ⟨_, rfl, ?_⟩))
  go_ret
  exact ⟨by first | rfl | (simp [aP, aQ] <;> rfl) | (simp [*, aP, aQ] <;> rfl), bl0 HB.out⟩
 ·replace c3 := Bool.eq_false_iff.mpr c3
  subst c3
  have H1 : ((fJ.f k a0 1056964608).bind fun t861 => ((bB.f k 1078530011 t861).bind fun t862 => ((bB.f k t862 t862).bind fun t863 => ((bU.f k 3109031169 t863 (([1007192201, 3190467243, 1065353216] : List Int))).bind fun t867 => ((bB.f k t862 t867).bind fun t868 => ((dV.f k t868).bind fun t869 => (some t869))))))) = some r := by rw [if_neg (show ¬ (false = true) by decide)] at H; exact H
  clear H
  have H := H1
  clear H1
  replace H := bq_ H
  obtain ⟨t861, A40, H⟩ := H
  replace H : ((bB.f k 1078530011 t861).bind fun t862 => ((bB.f k t862 t862).bind fun t863 => ((bU.f k 3109031169 t863 (([1007192201, 3190467243, 1065353216] : List Int))).bind fun t867 => ((bB.f k t862 t867).bind fun t868 => ((dV.f k t868).bind fun t869 => (some t869)))))) = some r := H
  have A4 := Aside0.mk A40
  clear A40
  replace H := bq_ H
  obtain ⟨t862, A50, H⟩ := H
  replace H : ((bB.f k t862 t862).bind fun t863 => ((bU.f k 3109031169 t863 (([1007192201, 3190467243, 1065353216] : List Int))).bind fun t867 => ((bB.f k t862 t867).bind fun t868 => ((dV.f k t868).bind fun t869 => (some t869))))) = some r := H
  have A5 := Aside0.mk A50
  clear A50
  replace H := bq_ H
  obtain ⟨t863, A60, H⟩ := H
  replace H : ((bU.f k 3109031169 t863 (([1007192201, 3190467243, 1065353216] : List Int))).bind fun t867 => ((bB.f k t862 t867).bind fun t868 => ((dV.f k t868).bind fun t869 => (some t869)))) = some r := H
  have A6 := Aside0.mk A60
  clear A60
  obtain ⟨y864, hy864⟩ : ∃ y_ : List Int, y_ = (([1007192201, 3190467243, 1065353216] : List Int)) := ⟨_, rfl⟩
  replace H : ((bU.f k 3109031169 t863 y864).bind fun t867 => ((bB.f k t862 t867).bind fun t868 => ((dV.f k t868).bind fun t869 => (some t869)))) = some r := by first | (rw [hy864]; with_reducible exact H) | (have H2_ := (Option.bind_some _ _).symm.trans H; rw [hy864]; with_reducible exact H2_) | (have H2_ := (Option.bind_some _ _).symm.trans H; with_reducible exact H2_) | with_reducible exact H | (rw [hy864]; exact H) | exact H
  have Ny864 := Aside0.mk hy864
  clear hy864
  replace H := bq_ H
  obtain ⟨t867, A70, H⟩ := H
  replace H : ((bB.f k t862 t867).bind fun t868 => ((dV.f k t868).bind fun t869 => (some t869))) = some r := H
  have A7 := Aside0.mk A70
  clear A70
  replace H := bq_ H
  obtain ⟨t868, A80, H⟩ := H
  replace H : ((dV.f k t868).bind fun t869 => (some t869)) = some r := H
  have A8 := Aside0.mk A80
  clear A80
  replace H := bq_ H
  obtain ⟨t869, A90, H⟩ := H
  replace H : (some t869) = some r := H
  have A9 := Aside0.mk A90
  clear A90
  obtain rfl := Option.some.inj H
  go_enter Tryz.func17, Tryz.ntmps17
  go_wp2_with (first | ((with_reducible refine gate_callee (f := 27) rfl ?_); refine goesL_ (some 6) rfl rfl Tryz.func27 (by kernel_rfl) rfl #[.int .u32 a0] rfl gl ?_; (with_reducible refine (fZ.calls k a0 false _ A2.out).mono ?_); rintro e w' ⟨rfl, ⟨nd, rfl⟩⟩; refine ⟨_, rfl, ?_⟩) | ((with_reducible refine gate_callee (f := 28) rfl ?_); refine goesL_ (some 8) rfl rfl Tryz.func28 (by kernel_rfl) rfl #[.int .u32 a0, .int .u32 1056964608] rfl gl ?_; (with_reducible refine (fJ.calls k a0 1056964608 t861 _ A4.out).mono ?_); rintro e w10 ⟨rfl, hb⟩; refine ⟨_, rfl, ?_⟩; have n0_ := Aside0.mk (below_step (bl0 HB.out) hb); clear HB; have HB := n0_; clear n0_) | ((with_reducible refine gate_callee (f := 15) rfl ?_); refine goesL_ (some 9) rfl rfl Tryz.func15 (by kernel_rfl) rfl #[.int .u32 1078530011, .int .u32 t861] rfl gl ?_; (with_reducible refine (bB.calls k 1078530011 t861 t862 _ A5.out).mono ?_); rintro e w11 ⟨rfl, hb⟩; refine ⟨_, rfl, ?_⟩; have n0_ := Aside0.mk (below_step (bl0 HB.out) hb); clear HB; have HB := n0_; clear n0_) | ((with_reducible refine gate_callee (f := 15) rfl ?_); refine goesL_ (some 12) rfl rfl Tryz.func15 (by kernel_rfl) rfl #[.int .u32 t862, .int .u32 t862] rfl gl ?_; (with_reducible refine (bB.calls k t862 t862 t863 _ A6.out).mono ?_); rintro e w12 ⟨rfl, hb⟩; refine ⟨_, rfl, ?_⟩; have n0_ := Aside0.mk (below_step (bl0 HB.out) hb); clear HB; have HB := n0_; clear n0_) | ((with_reducible refine gate_dst (N := 15) rfl ?_); refine Kd.R_lit (Kd.int .u32) _ 22 ?hg (N := 15) ?hd (xs := ([1007192201, 3190467243, 1065353216] : List Int)) (inner := [.int .u32 1007192201, .int .u32 3190467243, .int .u32 1065353216]) (ok := fun _ => True) (okp := fun _ => True) ?hr ?hp (fun _ hk => hk) trivial (Below.refl _ _) (Nat.le_refl _) (by simp) ?_; (case hd => rfl); (case hg => rfl); (case hr => first | (go_simp; done) | (go_simp; rfl)); (case hp => exact (Reps.one (show Kd.M (Kd.int .u32) _ _ _ 1007192201 [.int .u32 1007192201] from rfl) (Reps.one (show Kd.M (Kd.int .u32) _ _ _ 3190467243 [.int .u32 3190467243] from rfl) (Reps.one (show Kd.M (Kd.int .u32) _ _ _ 1065353216 [.int .u32 1065353216] from rfl) (Reps.none _ _))))); intro v865 w13 ho14 hb hg_ hnew_; clear hg_ hnew_; (first | rw [← Ny864.out] at ho14 | (simp only [Int.reduceToNat] at ho14; rw [← Ny864.out] at ho14)); have n0_ := Aside0.mk (Kd.R_lower ho14 (below_size (bl0 HB.out))); have n1_ := Aside0.mk (below_step (bl0 HB.out) hb); clear HB; have HO866 := n0_; have HB := n1_; clear n0_ n1_; clear hb ho14; obtain ⟨Ao15, co15, eo15⟩ := Kd.R_slice HO866.out; subst eo15) | ((with_reducible refine gate_callee (f := 30) rfl ?_); refine goesL_ (some 16) rfl rfl Tryz.func30 (by kernel_rfl) rfl #[.int .u32 3109031169, .int .u32 t863, .slice Ao15 y864.length co15] rfl gl ?_; (with_reducible refine (bU.calls k 3109031169 t863 _ _ y864 t867 _ ?side1 ?side2 A7.out).mono ?_); (case side1 => repeat (first | exact (Kd.R_reads' HO866.out).2.2 | (with_reducible refine Kd.C_alloc ?_ _) | (with_reducible refine Kd.C_drewN ?_ _) | (with_reducible refine Kd.C_drew ?_))); (case side2 => exact (Kd.R_reads' HO866.out).2.1); rintro e w16 ⟨rfl, hb⟩; refine ⟨_, rfl, ?_⟩; have n0_ := Aside0.mk (Kd.R_below (by (with_reducible repeat (first | apply Kd.R_alloc | apply Kd.R_drewN | apply Kd.R_drew)); exact HO866.out) hb); have n1_ := Aside0.mk (below_step (bl0 HB.out) hb); clear HO866; clear HB; have HO866 := n0_; have HB := n1_; clear n0_ n1_) | ((with_reducible refine gate_callee (f := 15) rfl ?_); refine goesL_ (some 17) rfl rfl Tryz.func15 (by kernel_rfl) rfl #[.int .u32 t862, .int .u32 t867] rfl gl ?_; (with_reducible refine (bB.calls k t862 t867 t868 _ A8.out).mono ?_); rintro e w17 ⟨rfl, hb⟩; refine ⟨_, rfl, ?_⟩; have n0_ := Aside0.mk (Kd.R_below (by (with_reducible repeat (first | apply Kd.R_alloc | apply Kd.R_drewN | apply Kd.R_drew)); exact HO866.out) hb); have n1_ := Aside0.mk (below_step (bl0 HB.out) hb); clear HO866; clear HB; have HO866 := n0_; have HB := n1_; clear n0_ n1_) | ((with_reducible refine gate_callee (f := 29) rfl ?_); refine goesL_ (some 18) rfl rfl Tryz.func29 (by kernel_rfl) rfl #[.int .u32 t868] rfl gl ?_; (with_reducible refine (dV.calls k t868 t869 _ A9.out).mono ?_); rintro e w18 ⟨rfl, hb⟩; refine ⟨_, rfl, ?_⟩; have n0_ := Aside0.mk (Kd.R_below (by (with_reducible repeat (first | apply Kd.R_alloc | apply Kd.R_drewN | apply Kd.R_drew)); exact HO866.out) hb); have n1_ := Aside0.mk (below_step (bl0 HB.out) hb); clear HO866; clear HB; have HO866 := n0_; have HB := n1_; clear n0_ n1_))
  go_ret
  exact ⟨by first | rfl | (simp [aP, aQ] <;> rfl) | (simp [*, aP, aQ] <;> rfl), bl0 HB.out⟩

-- NEED 5
/-! ### fD: function 7 -/
noncomputable def fD.f (k : Nat) (a0 a1 : Int) (a2 a3 : Int) : Option (Int) := if (mx a3 0) < (mx a1 0) then ((bQ.f k (wrap64 ((mx a3 0) + 1))).bind fun t870 => ((bQ.f k (mx a1 0)).bind fun t871 => ((dM.f k t870 t871).bind fun t872 => (some t872)))) else (if a0 = 1 then (if (wrap64 ((mx a3 0) - (mx a1 0))) ≥ (wrap64 ((mx a2 0) - (mx a1 0))) then (some 0) else ((bQ.f k (wrap64 ((mx a3 0) - (mx a1 0)))).bind fun t873 => ((bQ.f k (wrap64 ((mx a2 0) - (mx a1 0)))).bind fun t874 => ((dM.f k t873 t874).bind fun t875 => ((dX.f k t875).bind fun t876 => ((eB.f k 1065353216 t876).bind fun t877 => ((bB.f k 1056964608 t877).bind fun t878 => (some t878)))))))) else (if a0 = 2 then (if (wrap64 ((mx a3 0) - (mx a1 0))) < (wrap64 (Int.tdiv (wrap64 ((mx a2 0) - (mx a1 0))) 2)) then (some 1065353216) else (if (wrap64 ((mx a3 0) - (mx a1 0))) < (wrap64 ((wrap64 (Int.tdiv (wrap64 ((mx a2 0) - (mx a1 0))) 4)) * 3)) then (some 1036831949) else (some 1008981770))) else (some 1065353216)))
theorem fD.calls (k : Nat) (a0 a1 : Int) (a2 a3 r : Int) (w : World) (h : fD.f k a0 a1 a2 a3 = some r) :
  Calls Tryz.prog 7 #[.int .i64 a0, .int .i64 a1, .int .i64 a2, .int .i64 a3] w fun e w' => e = .returned (.int .u32 r) ∧ Below w.heap.size w w' := by
 have HB := Aside0.mk (Below.refl w.heap.size w)
 have H : (if (mx a3 0) < (mx a1 0) then ((bQ.f k (wrap64 ((mx a3 0) + 1))).bind fun t870 => ((bQ.f k (mx a1 0)).bind fun t871 => ((dM.f k t870 t871).bind fun t872 => (some t872)))) else (if a0 = 1 then (if (wrap64 ((mx a3 0) - (mx a1 0))) ≥ (wrap64 ((mx a2 0) - (mx a1 0))) then (some 0) else ((bQ.f k (wrap64 ((mx a3 0) - (mx a1 0)))).bind fun t873 => ((bQ.f k (wrap64 ((mx a2 0) - (mx a1 0)))).bind fun t874 => ((dM.f k t873 t874).bind fun t875 => ((dX.f k t875).bind fun t876 => ((eB.f k 1065353216 t876).bind fun t877 => ((bB.f k 1056964608 t877).bind fun t878 => (some t878)))))))) else (if a0 = 2 then (if (wrap64 ((mx a3 0) - (mx a1 0))) < (wrap64 (Int.tdiv (wrap64 ((mx a2 0) - (mx a1 0))) 2)) then (some 1065353216) else (if (wrap64 ((mx a3 0) - (mx a1 0))) < (wrap64 ((wrap64 (Int.tdiv (wrap64 ((mx a2 0) - (mx a1 0))) 4)) * 3)) then (some 1036831949) else (some 1008981770))) else (some 1065353216)))) = some r := h
 clear h
 obtain ⟨ji5, hji5⟩ : ∃ j_ : Int, (mx a1 0) = j_ := ⟨_, rfl⟩
 replace H : (if (mx a3 0) < (ji5) then ((bQ.f k (wrap64 ((mx a3 0) + 1))).bind fun t870 => ((bQ.f k (ji5)).bind fun t871 => ((dM.f k t870 t871).bind fun t872 => (some t872)))) else (if a0 = 1 then (if (wrap64 ((mx a3 0) - (ji5))) ≥ (wrap64 ((mx a2 0) - (ji5))) then (some 0) else ((bQ.f k (wrap64 ((mx a3 0) - (ji5)))).bind fun t873 => ((bQ.f k (wrap64 ((mx a2 0) - (ji5)))).bind fun t874 => ((dM.f k t873 t874).bind fun t875 => ((dX.f k t875).bind fun t876 => ((eB.f k 1065353216 t876).bind fun t877 => ((bB.f k 1056964608 t877).bind fun t878 => (some t878)))))))) else (if a0 = 2 then (if (wrap64 ((mx a3 0) - (ji5))) < (wrap64 (Int.tdiv (wrap64 ((mx a2 0) - (ji5))) 2)) then (some 1065353216) else (if (wrap64 ((mx a3 0) - (ji5))) < (wrap64 ((wrap64 (Int.tdiv (wrap64 ((mx a2 0) - (ji5))) 4)) * 3)) then (some 1036831949) else (some 1008981770))) else (some 1065353216)))) = some r := by first | (rw [hji5] at H; exact H) | (simp only [hji5] at H ⊢; exact H)
 (try (have hji5l : 0 ≤ ji5 := by (rw [← hji5]; unfold mx; (repeat' split) <;> omega)))
 (try (have hji5m : 0 ≤ ji5 := by omega))
 have hji5_ : (if a1 < 0 then 0 else a1) = ji5 := hji5
 obtain ⟨ji6, hji6⟩ : ∃ j_ : Int, (mx a2 0) = j_ := ⟨_, rfl⟩
 replace H : (if (mx a3 0) < (ji5) then ((bQ.f k (wrap64 ((mx a3 0) + 1))).bind fun t870 => ((bQ.f k (ji5)).bind fun t871 => ((dM.f k t870 t871).bind fun t872 => (some t872)))) else (if a0 = 1 then (if (wrap64 ((mx a3 0) - (ji5))) ≥ (wrap64 ((ji6) - (ji5))) then (some 0) else ((bQ.f k (wrap64 ((mx a3 0) - (ji5)))).bind fun t873 => ((bQ.f k (wrap64 ((ji6) - (ji5)))).bind fun t874 => ((dM.f k t873 t874).bind fun t875 => ((dX.f k t875).bind fun t876 => ((eB.f k 1065353216 t876).bind fun t877 => ((bB.f k 1056964608 t877).bind fun t878 => (some t878)))))))) else (if a0 = 2 then (if (wrap64 ((mx a3 0) - (ji5))) < (wrap64 (Int.tdiv (wrap64 ((ji6) - (ji5))) 2)) then (some 1065353216) else (if (wrap64 ((mx a3 0) - (ji5))) < (wrap64 ((wrap64 (Int.tdiv (wrap64 ((ji6) - (ji5))) 4)) * 3)) then (some 1036831949) else (some 1008981770))) else (some 1065353216)))) = some r := by first | (rw [hji6] at H; exact H) | (simp only [hji6] at H ⊢; exact H)
 (try (have hji6l : 0 ≤ ji6 := by (rw [← hji6]; unfold mx; (repeat' split) <;> omega)))
 (try (have hji6m : 0 ≤ ji6 := by omega))
 have hji6_ : (if a2 < 0 then 0 else a2) = ji6 := hji6
 obtain ⟨ji7, hji7⟩ : ∃ j_ : Int, (mx a3 0) = j_ := ⟨_, rfl⟩
 replace H : (if (ji7) < (ji5) then ((bQ.f k (wrap64 ((ji7) + 1))).bind fun t870 => ((bQ.f k (ji5)).bind fun t871 => ((dM.f k t870 t871).bind fun t872 => (some t872)))) else (if a0 = 1 then (if (wrap64 ((ji7) - (ji5))) ≥ (wrap64 ((ji6) - (ji5))) then (some 0) else ((bQ.f k (wrap64 ((ji7) - (ji5)))).bind fun t873 => ((bQ.f k (wrap64 ((ji6) - (ji5)))).bind fun t874 => ((dM.f k t873 t874).bind fun t875 => ((dX.f k t875).bind fun t876 => ((eB.f k 1065353216 t876).bind fun t877 => ((bB.f k 1056964608 t877).bind fun t878 => (some t878)))))))) else (if a0 = 2 then (if (wrap64 ((ji7) - (ji5))) < (wrap64 (Int.tdiv (wrap64 ((ji6) - (ji5))) 2)) then (some 1065353216) else (if (wrap64 ((ji7) - (ji5))) < (wrap64 ((wrap64 (Int.tdiv (wrap64 ((ji6) - (ji5))) 4)) * 3)) then (some 1036831949) else (some 1008981770))) else (some 1065353216)))) = some r := by first | (rw [hji7] at H; exact H) | (simp only [hji7] at H ⊢; exact H)
 (try (have hji7l : 0 ≤ ji7 := by (rw [← hji7]; unfold mx; (repeat' split) <;> omega)))
 (try (have hji7m : 0 ≤ ji7 := by omega))
 have hji7_ : (if a3 < 0 then 0 else a3) = ji7 := hji7
 by_cases c8 : (ji7) < (ji5)
 ·rw [if_pos c8] at H
  have c8b0 : decide ((ji7) < (ji5)) = true := decide_eq_true c8
  clear c8
  replace H := bq_ H
  obtain ⟨t870, A90, H⟩ := H
  replace H : ((bQ.f k (ji5)).bind fun t871 => ((dM.f k t870 t871).bind fun t872 => (some t872))) = some r := H
  have A9 := Aside0.mk A90
  clear A90
  replace H := bq_ H
  obtain ⟨t871, A100, H⟩ := H
  replace H : ((dM.f k t870 t871).bind fun t872 => (some t872)) = some r := H
  have A10 := Aside0.mk A100
  clear A100
  replace H := bq_ H
  obtain ⟨t872, A110, H⟩ := H
  replace H : (some t872) = some r := H
  have A11 := Aside0.mk A110
  clear A110
  obtain rfl := Option.some.inj H
  go_enter Tryz.func7, Tryz.ntmps7
  go_wp2_with (first | ((with_reducible refine gate_callee (f := 14) rfl ?_); refine goesL_ (some 22) rfl rfl Tryz.func14 (by kernel_rfl) rfl #[.int .i64 (wrap64 ((ji7) + 1))] rfl (by (try simp only [List.map_toArray, List.map_cons, List.map_nil]); first | done | (simp only [hji7]; rfl) | rfl | (simp only [List.length_drop, List.length_take]; rfl)) ?_; (with_reducible refine (bQ.calls k (wrap64 ((ji7) + 1)) t870 _ A9.out).mono ?_); rintro e w12 ⟨rfl, hb⟩; refine ⟨_, rfl, ?_⟩; have n0_ := Aside0.mk (below_step (bl0 HB.out) hb); clear HB; have HB := n0_; clear n0_) | ((with_reducible refine gate_callee (f := 14) rfl ?_); refine goesL_ (some 24) rfl rfl Tryz.func14 (by kernel_rfl) rfl #[.int .i64 ji5] rfl (by (try simp only [List.map_toArray, List.map_cons, List.map_nil]); first | done | (simp only [hji5]; rfl) | rfl | (simp only [List.length_drop, List.length_take]; rfl)) ?_; (with_reducible refine (bQ.calls k ji5 t871 _ A10.out).mono ?_); rintro e w13 ⟨rfl, hb⟩; refine ⟨_, rfl, ?_⟩; have n0_ := Aside0.mk (below_step (bl0 HB.out) hb); clear HB; have HB := n0_; clear n0_) | ((with_reducible refine gate_callee (f := 13) rfl ?_); refine goesL_ (some 25) rfl rfl Tryz.func13 (by kernel_rfl) rfl #[.int .u32 t870, .int .u32 t871] rfl gl ?_; (with_reducible refine (dM.calls k t870 t871 t872 _ A11.out).mono ?_); rintro e w14 ⟨rfl, hb⟩; refine ⟨_, rfl, ?_⟩; have n0_ := Aside0.mk (below_step (bl0 HB.out) hb); clear HB; have HB := n0_; clear n0_))
  go_ret
  exact ⟨by first | rfl | (simp [aP, aQ] <;> rfl) | (simp only [← hji5, ← hji6, ← hji7]; first | rfl | (simp [aP, aQ] <;> rfl)) | (simp [*, aP, aQ] <;> rfl), bl0 HB.out⟩
 ·rw [if_neg c8] at H
  have c8b0 : decide ((ji7) < (ji5)) = false := decide_eq_false c8
  clear c8
  by_cases c15 : a0 = 1
  ·rw [if_pos c15] at H
   have c15b0 : (a0 == 1) = true := beq_iff_eq.mpr c15
   have c15b1 : (a0 != 1) = false := bne_eq_false_iff_eq.mpr c15
   clear c15
   by_cases c16 : (wrap64 ((ji7) - (ji5))) ≥ (wrap64 ((ji6) - (ji5)))
   ·rw [if_pos c16] at H
    have c16b0 : decide ((wrap64 ((ji6) - (ji5))) ≤ (wrap64 ((ji7) - (ji5)))) = true := decide_eq_true c16
    clear c16
    obtain rfl := Option.some.inj H
    go_enter Tryz.func7, Tryz.ntmps7
    go_wp2
    go_ret
    exact ⟨by first | rfl | (simp [aP, aQ] <;> rfl) | (simp only [← hji5, ← hji6, ← hji7]; first | rfl | (simp [aP, aQ] <;> rfl)) | (simp [*, aP, aQ] <;> rfl), bl0 HB.out⟩
   ·rw [if_neg c16] at H
    have c16b0 : decide ((wrap64 ((ji6) - (ji5))) ≤ (wrap64 ((ji7) - (ji5)))) = false := decide_eq_false c16
    clear c16
    replace H := bq_ H
    obtain ⟨t873, A170, H⟩ := H
    replace H : ((bQ.f k (wrap64 ((ji6) - (ji5)))).bind fun t874 => ((dM.f k t873 t874).bind fun t875 => ((dX.f k t875).bind fun t876 => ((eB.f k 1065353216 t876).bind fun t877 => ((bB.f k 1056964608 t877).bind fun t878 => (some t878)))))) = some r := H
    have A17 := Aside0.mk A170
    clear A170
    replace H := bq_ H
    obtain ⟨t874, A180, H⟩ := H
    replace H : ((dM.f k t873 t874).bind fun t875 => ((dX.f k t875).bind fun t876 => ((eB.f k 1065353216 t876).bind fun t877 => ((bB.f k 1056964608 t877).bind fun t878 => (some t878))))) = some r := H
    have A18 := Aside0.mk A180
    clear A180
    replace H := bq_ H
    obtain ⟨t875, A190, H⟩ := H
    replace H : ((dX.f k t875).bind fun t876 => ((eB.f k 1065353216 t876).bind fun t877 => ((bB.f k 1056964608 t877).bind fun t878 => (some t878)))) = some r := H
    have A19 := Aside0.mk A190
    clear A190
    replace H := bq_ H
    obtain ⟨t876, A200, H⟩ := H
    replace H : ((eB.f k 1065353216 t876).bind fun t877 => ((bB.f k 1056964608 t877).bind fun t878 => (some t878))) = some r := H
    have A20 := Aside0.mk A200
    clear A200
    replace H := bq_ H
    obtain ⟨t877, A210, H⟩ := H
    replace H : ((bB.f k 1056964608 t877).bind fun t878 => (some t878)) = some r := H
    have A21 := Aside0.mk A210
    clear A210
    replace H := bq_ H
    obtain ⟨t878, A220, H⟩ := H
    replace H : (some t878) = some r := H
    have A22 := Aside0.mk A220
    clear A220
    obtain rfl := Option.some.inj H
    go_enter Tryz.func7, Tryz.ntmps7
    go_wp2_with (first | ((with_reducible refine gate_callee (f := 14) rfl ?_); refine goesL_ (some 39) rfl rfl Tryz.func14 (by kernel_rfl) rfl #[.int .i64 (wrap64 ((ji7) - (ji5)))] rfl (by (try simp only [List.map_toArray, List.map_cons, List.map_nil]); first | done | (simp only [hji5, hji7]; rfl) | rfl | (simp only [List.length_drop, List.length_take]; rfl)) ?_; (with_reducible refine (bQ.calls k (wrap64 ((ji7) - (ji5))) t873 _ A17.out).mono ?_); rintro e w23 ⟨rfl, hb⟩; refine ⟨_, rfl, ?_⟩; have n0_ := Aside0.mk (below_step (bl0 HB.out) hb); clear HB; have HB := n0_; clear n0_) | ((with_reducible refine gate_callee (f := 14) rfl ?_); refine goesL_ (some 41) rfl rfl Tryz.func14 (by kernel_rfl) rfl #[.int .i64 (wrap64 ((ji6) - (ji5)))] rfl (by (try simp only [List.map_toArray, List.map_cons, List.map_nil]); first | done | (simp only [hji5, hji6]; rfl) | rfl | (simp only [List.length_drop, List.length_take]; rfl)) ?_; (with_reducible refine (bQ.calls k (wrap64 ((ji6) - (ji5))) t874 _ A18.out).mono ?_); rintro e w24 ⟨rfl, hb⟩; refine ⟨_, rfl, ?_⟩; have n0_ := Aside0.mk (below_step (bl0 HB.out) hb); clear HB; have HB := n0_; clear n0_) | ((with_reducible refine gate_callee (f := 13) rfl ?_); refine goesL_ (some 42) rfl rfl Tryz.func13 (by kernel_rfl) rfl #[.int .u32 t873, .int .u32 t874] rfl gl ?_; (with_reducible refine (dM.calls k t873 t874 t875 _ A19.out).mono ?_); rintro e w25 ⟨rfl, hb⟩; refine ⟨_, rfl, ?_⟩; have n0_ := Aside0.mk (below_step (bl0 HB.out) hb); clear HB; have HB := n0_; clear n0_) | ((with_reducible refine gate_callee (f := 17) rfl ?_); refine goesL_ (some 43) rfl rfl Tryz.func17 (by kernel_rfl) rfl #[.int .u32 t875] rfl gl ?_; (with_reducible refine (dX.calls k t875 t876 _ A20.out).mono ?_); rintro e w26 ⟨rfl, hb⟩; refine ⟨_, rfl, ?_⟩; have n0_ := Aside0.mk (below_step (bl0 HB.out) hb); clear HB; have HB := n0_; clear n0_) | ((with_reducible refine gate_callee (f := 16) rfl ?_); refine goesL_ (some 44) rfl rfl Tryz.func16 (by kernel_rfl) rfl #[.int .u32 1065353216, .int .u32 t876] rfl gl ?_; (with_reducible refine (eB.calls k 1065353216 t876 t877 _ A21.out).mono ?_); rintro e w27 ⟨rfl, hb⟩; refine ⟨_, rfl, ?_⟩; have n0_ := Aside0.mk (below_step (bl0 HB.out) hb); clear HB; have HB := n0_; clear n0_) | ((with_reducible refine gate_callee (f := 15) rfl ?_); refine goesL_ (some 45) rfl rfl Tryz.func15 (by kernel_rfl) rfl #[.int .u32 1056964608, .int .u32 t877] rfl gl ?_; (with_reducible refine (bB.calls k 1056964608 t877 t878 _ A22.out).mono ?_); rintro e w28 ⟨rfl, hb⟩; refine ⟨_, rfl, ?_⟩; have n0_ := Aside0.mk (below_step (bl0 HB.out) hb); clear HB; have HB := n0_; clear n0_))
    go_ret
    exact ⟨by first | rfl | (simp [aP, aQ] <;> rfl) | (simp only [← hji5, ← hji6, ← hji7]; first | rfl | (simp [aP, aQ] <;> rfl)) | (simp [*, aP, aQ] <;> rfl), bl0 HB.out⟩
  ·rw [if_neg c15] at H
   have c15b0 : (a0 == 1) = false := beq_eq_false_iff_ne.mpr c15
   have c15b1 : (a0 != 1) = true := bne_iff_ne.mpr c15
   by_cases c29 : a0 = 2
   ·rw [if_pos c29] at H
    have c29b0 : (a0 == 2) = true := beq_iff_eq.mpr c29
    have c29b1 : (a0 != 2) = false := bne_eq_false_iff_eq.mpr c29
    clear c29
    by_cases c30 : (wrap64 ((ji7) - (ji5))) < (wrap64 (Int.tdiv (wrap64 ((ji6) - (ji5))) 2))
    ·rw [if_pos c30] at H
     have c30b0 : decide ((wrap64 ((ji7) - (ji5))) < (wrap64 (Int.tdiv (wrap64 ((ji6) - (ji5))) 2))) = true := decide_eq_true c30
     clear c30
     obtain rfl := Option.some.inj H
     go_enter Tryz.func7, Tryz.ntmps7
     go_wp2
     go_ret
     exact ⟨by first | rfl | (simp [aP, aQ] <;> rfl) | (simp only [← hji5, ← hji6, ← hji7]; first | rfl | (simp [aP, aQ] <;> rfl)) | (simp [*, aP, aQ] <;> rfl), bl0 HB.out⟩
    ·rw [if_neg c30] at H
     have c30b0 : decide ((wrap64 ((ji7) - (ji5))) < (wrap64 (Int.tdiv (wrap64 ((ji6) - (ji5))) 2))) = false := decide_eq_false c30
     clear c30
     by_cases c31 : (wrap64 ((ji7) - (ji5))) < (wrap64 ((wrap64 (Int.tdiv (wrap64 ((ji6) - (ji5))) 4)) * 3))
     ·rw [if_pos c31] at H
      have c31b0 : decide ((wrap64 ((ji7) - (ji5))) < (wrap64 ((wrap64 (Int.tdiv (wrap64 ((ji6) - (ji5))) 4)) * 3))) = true := decide_eq_true c31
      clear c31
      obtain rfl := Option.some.inj H
      go_enter Tryz.func7, Tryz.ntmps7
      go_wp2
      go_ret
      exact ⟨by first | rfl | (simp [aP, aQ] <;> rfl) | (simp only [← hji5, ← hji6, ← hji7]; first | rfl | (simp [aP, aQ] <;> rfl)) | (simp [*, aP, aQ] <;> rfl), bl0 HB.out⟩
     ·rw [if_neg c31] at H
      have c31b0 : decide ((wrap64 ((ji7) - (ji5))) < (wrap64 ((wrap64 (Int.tdiv (wrap64 ((ji6) - (ji5))) 4)) * 3))) = false := decide_eq_false c31
      clear c31
      obtain rfl := Option.some.inj H
      go_enter Tryz.func7, Tryz.ntmps7
      go_wp2
      go_ret
      exact ⟨by first | rfl | (simp [aP, aQ] <;> rfl) | (simp only [← hji5, ← hji6, ← hji7]; first | rfl | (simp [aP, aQ] <;> rfl)) | (simp [*, aP, aQ] <;> rfl), bl0 HB.out⟩
   ·rw [if_neg c29] at H
    have c29b0 : (a0 == 2) = false := beq_eq_false_iff_ne.mpr c29
    have c29b1 : (a0 != 2) = true := bne_iff_ne.mpr c29
    obtain rfl := Option.some.inj H
    go_enter Tryz.func7, Tryz.ntmps7
    go_wp2
    go_ret
    exact ⟨by first | rfl | (simp [aP, aQ] <;> rfl) | (simp only [← hji5, ← hji6, ← hji7]; first | rfl | (simp [aP, aQ] <;> rfl)) | (simp [*, aP, aQ] <;> rfl), bl0 HB.out⟩

end Go.Proofs.YtjlgmfgjleajfaaGreat.P

/- Functions of single numbers: the program's and the reference's, as plain numbers. -/
namespace Go.Proofs.YtjlgmfgjleajfaaGreat.Round
open Go.RowKit Go.Proofs.YtjlgmfgjleajfaaGreat.P Go.Proofs.YtjlgmfgjleajfaaGreat.Num Go.Proofs.YtjlgmfgjleajfaaGreat.BitsF Go.Proofs.YtjlgmfgjleajfaaGreat.Fmt Go.Proofs.YtjlgmfgjleajfaaGreatW.PrintWords Go.Proofs.YtjlgmfgjleajfaaGreatW.PrintLast Go.Proofs.YtjlgmfgjleajfaaGreatW.PrintMore

def kL (v : Int) : Nat := gD 2 0 (decide (v < 0)) 0 v.natAbs false
theorem rC (v : Int) : kL v < 4294967296 := uY 2 0 _ _ _ _
theorem fadd_ev (a b : Nat) (ha : a < 4294967296) (hb : b < 4294967296) : Ev (fun k => gF.f k (a : Int) (b : Int)) ((rV 2 0 a b : Nat) : Int) :=
 Ev.congr (fun k => by unfold gF.f; rfl) (Ev.bind (add_ev 2 0 a b ha hb) (Ev.now _))
theorem fsub_ev (a b : Nat) (ha : a < 4294967296) (hb : b < 4294967296) : Ev (fun k => gK.f k (a : Int) (b : Int)) ((uL 2 0 a b : Nat) : Int) :=
 Ev.congr (fun k => by unfold gK.f; rfl) (Ev.bind (sub_ev 2 0 a b ha hb) (Ev.now _))
theorem sZ (a b : Nat) (ha : a < 4294967296) (hb : b < 4294967296) : Ev (fun k => dF.f k (a : Int) (b : Int)) ((mulN 2 0 a b : Nat) : Int) :=
 Ev.congr (fun k => by unfold dF.f; rfl) (Ev.bind (mul_ev 2 0 a b ha hb) (Ev.now _))
theorem aB6 (a b : Nat) (ha : a < 4294967296) (hb : b < 4294967296) : Ev (fun k => eU.f k (a : Int) (b : Int)) ((divN 2 0 a b : Nat) : Int) :=
 Ev.congr (fun k => by unfold eU.f; rfl) (Ev.bind (div_ev 2 0 a b ha hb) (Ev.now _))
theorem ffma_ev (a b c : Nat) (ha : a < 4294967296) (hb : b < 4294967296) (hc : c < 4294967296) : Ev (fun k => gX.f k (a : Int) (b : Int) (c : Int)) ((qO 2 0 a b c : Nat) : Int) :=
 Ev.congr (fun k => by unfold gX.f; rfl) (Ev.bind (aAN 2 0 a b c ha hb hc) (Ev.now _))
theorem wD (v : Int) (h1 : -9223372036854775808 ≤ v) (h2 : v ≤ 9223372036854775807) : Ev (fun k => eD.f k v) ((kL v : Nat) : Int) :=
 Ev.congr (fun k => by unfold eD.f; rfl) (Ev.bind (aAq 2 0 v h1 h2) (Ev.now _))
theorem fminus_f (a : Nat) (ha : a < 4294967296) : fP.f (a : Int) = some ((jM 2 a : Nat) : Int) := by
 unfold fP.f; rw [turn_f 2 a ha, Option.bind_some]
theorem aBd (a b : Nat) (ha : a < 4294967296) (hb : b < 4294967296) : Ev (fun k => eB.f k (a : Int) (b : Int)) ((rV 2 0 a b : Nat) : Int) :=
 Ev.congr (fun k => by unfold eB.f; rfl) (Ev.bind (show Ev (fun k => aZ.f k 2 0 (a : Int) (b : Int)) _ from qP 2 0 a b ha hb) (Ev.now _))
theorem aBb (a b : Nat) (ha : a < 4294967296) (hb : b < 4294967296) : Ev (fun k => fJ.f k (a : Int) (b : Int)) ((uL 2 0 a b : Nat) : Int) :=
 Ev.congr (fun k => by unfold fJ.f; rfl) (Ev.bind (show Ev (fun k => dD.f k 2 0 (a : Int) (b : Int)) _ from aAK 2 0 a b ha hb) (Ev.now _))
theorem nM (a b : Nat) (ha : a < 4294967296) (hb : b < 4294967296) : Ev (fun k => bB.f k (a : Int) (b : Int)) ((mulN 2 0 a b : Nat) : Int) :=
 Ev.congr (fun k => by unfold bB.f; rfl) (Ev.bind (yR 2 0 a b ha hb) (Ev.now _))
theorem wT (a b : Nat) (ha : a < 4294967296) (hb : b < 4294967296) : Ev (fun k => dM.f k (a : Int) (b : Int)) ((divN 2 0 a b : Nat) : Int) :=
 Ev.congr (fun k => by unfold dM.f; rfl) (Ev.bind (aAR 2 0 a b ha hb) (Ev.now _))
theorem aCf (a b c : Nat) (ha : a < 4294967296) (hb : b < 4294967296) (hc : c < 4294967296) : Ev (fun k => gY.f k (a : Int) (b : Int) (c : Int)) ((qO 2 0 a b c : Nat) : Int) :=
 Ev.congr (fun k => by unfold gY.f; rfl) (Ev.bind (show Ev (fun k => aS.f k 2 0 (a : Int) (b : Int) (c : Int)) _ from aAA 2 0 a b c ha hb hc) (Ev.now _))
theorem pO (v : Int) (h1 : -9223372036854775808 ≤ v) (h2 : v ≤ 9223372036854775807) : Ev (fun k => bQ.f k v) ((kL v : Nat) : Int) := by
 have hp := lT 2 0 (decide (v < 0)) 0 v.natAbs false (by omega)
 rw [iV _ (by decide) (by decide)] at hp
 refine Ev.congr (fun k => by unfold bQ.f gB.f; rfl) ?_
 by_cases c : v < 0
 ·have e : IntKind.u64.wrap (-(IntKind.u64.wrap v)) = (v.natAbs : Int) := by rw [iH, iH]; omega
  refine Ev.congr (fun k => by rw [if_pos c, e]) ?_
  unfold kL
  rw [decide_eq_true c] at hp ⊢
  exact Ev.bind (Ev.bind hp (Ev.now _)) (Ev.now _)
 ·have e : IntKind.u64.wrap v = (v.natAbs : Int) := by rw [iH]; omega
  refine Ev.congr (fun k => by rw [if_neg c, e]) ?_
  unfold kL
  rw [decide_eq_false c] at hp ⊢
  exact Ev.bind (Ev.bind hp (Ev.now _)) (Ev.now _)
theorem yM (a : Nat) (ha : a < 4294967296) (hn : bK 2 a < 3) : Ev (fun k => dV.f k (a : Int)) ((jM 2 a : Nat) : Int) := by
 have h := wL 2 a ha
 rw [if_neg (by omega)] at h
 exact Ev.congr (fun k => by unfold dV.f; rfl) (Ev.bind h (Ev.now _))
theorem int_pos (n : Int) (h : 1 ≤ n) : 1065353216 ≤ kL n ∧ kL n < 2147483648 := by
 have e : decide (n < 0) = false := decide_eq_false (by omega)
 have hm := wG 2 0 false 0 (a := 1) (b := n.natAbs) (more := false) (less := false) (by omega) (fun _ h => h)
 have hb := aAE 2 0 0 n.natAbs false
 unfold kL
 rw [e]
 exact ⟨Nat.le_trans (by decide) hm, hb⟩
theorem aBv (v : Nat) (h : v < 2147483648) : uC 2 v = v ∧ lG 2 v = v ∧ dE 2 v = false := by
 refine ⟨Nat.mod_eq_of_lt h, Nat.mod_eq_of_lt (show v < 4294967296 by omega), ?_⟩
 unfold dE
 exact decide_eq_false (by show ¬ v / 2147483648 % 2 = 1; omega)
theorem aB7 (v : Nat) : bH 2 v * 2 ^ (bA 2 v + 149).toNat = aAY 2 (uC 2 v) := by
 have ha := xI 2 v
 have hl : (bA 2 v + 149).toNat = mF 2 v - 1 := by unfold bA; rw [vK, fm_2]; omega
 rw [hl, ha]
theorem bd_div (s n : Int) (h0 : 0 ≤ s) (h1 : s < n) (h2 : n ≤ 9223372036854775807) : Bd (divN 2 0 (kL s) (kL n)) 1 := by
 have en : decide (n < 0) = false := decide_eq_false (by omega)
 have es : decide (s < 0) = false := decide_eq_false (by omega)
 have bn : Bd (kL n) 63 := by unfold kL; exact bd_int 0 _ _ (by omega)
 have bs : Bd (kL s) 63 := by unfold kL; exact bd_int 0 _ _ (by omega)
 have hn := int_pos n (by omega)
 have hs : kL s ≤ kL n := by
  unfold kL; rw [en, es]
  exact wG 2 0 false 0 (by omega) (fun _ h => h)
 have mn := aBv _ hn.2
 have ms := aBv (kL s) (by omega)
 have zn : bK 2 (kL n) ≠ 0 := fun z => by
  have := (l6 2 _ z).1
  rw [mn.2.1, mn.2.2, show fO 2 false = 0 from rfl] at this; omega
 have cn := bn.1
 have cs := bs.1
 unfold divN
 rw [if_neg (show ¬ (4 ≤ bK 2 (kL s) ∨ 4 ≤ bK 2 (kL n)) by omega), if_neg (show ¬ (bK 2 (kL s) = bK 2 (kL n) ∧ (bK 2 (kL s) = 0 ∨ bK 2 (kL s) = 3)) by omega), if_neg (show ¬ bK 2 (kL s) = 3 by omega)]
 by_cases z : bK 2 (kL s) = 0
 ·rw [if_pos (show bK 2 (kL n) = 3 ∨ bK 2 (kL s) = 0 from .inr z)]; exact aBA _ _
 ·rw [if_neg (show ¬ (bK 2 (kL n) = 3 ∨ bK 2 (kL s) = 0) by omega), if_neg zn]
  refine bd_ratio 0 cs cn z zn ?_
  rw [aB7, aB7, mn.1, ms.1]
  exact aAd 2 hs
end Go.Proofs.YtjlgmfgjleajfaaGreat.Round
