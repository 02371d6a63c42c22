import Derived.Test.YtolpdiifmacdbaaGreatQcoZ
import Derived.Test.YtolpdiifmacdbaaGreatQcoM5
import Derived.Test.YtolpdiifmacdbaaGreatQcoM6
import Derived.Test.YtolpdiifmacdbaaGreatQcoM4
import Derived.Test.YtolpdiifmacdbaaGreatProg
-- Printed by a program of this session's out of Lean's print of the translation; Lean checks it.
set_option linter.unusedVariables false
set_option linter.unusedSimpArgs false
set_option maxRecDepth 100000
set_option maxHeartbeats 8000000
namespace Go.Proofs.YtolpdiifmacdbaaGreat.P
open Go.RowKit Go.Proofs.YtolpdiifmacdbaaGreatW.PrintWords Go.Proofs.YtolpdiifmacdbaaGreatW.PrintLast Go.Proofs.YtolpdiifmacdbaaGreatW.PrintMore
attribute [local go_sem] max2_int min2_int max_two min_two max_three min_three max_four min_four

attribute [local go_sem high] eqA99
-- NEED 0
/-! ### cB: function 129 -/
def cB.f (a0_0 : Bool) (a0_1 a0_2 : Int) (a0_3 a0_4 : Int) (a0_5 a0_6 : Int) (a0_7 a0_8 : Int) (a0_9 a0_10 : Int) : Option (Bool) := some (a0_1 == 0 && (a0_2 == 0 && (a0_3 == 0 && (a0_4 == 0 && (a0_5 == 0 && (a0_6 == 0 && (a0_7 == 0 && (a0_8 == 0 && (a0_9 == 0 && (a0_10 == 0))))))))))
-- NEED 0
/-! ### aR: function 132 -/
def aR.l0 : Nat → Int → Int → Option (Int)
 |0, _, _ => none
 |k + 1, x0, x3 => if x0 > 0 then (aR.l0 k (x0 / 2) (wrap64 (x3 + 1))) else (some x3)
def aR.f (k : Nat) (a0 : Int) : Option (Int) := aR.l0 k a0 0
theorem aR.eX : ∀ k, (∀ y0 y1, LeO (aR.l0 k y0 y1) (aR.l0 (k + 1) y0 y1))
 |0 => fun _ _ r h => by simp [aR.l0] at h
 |k + 1 => by
  have ih0 := aR.eX k
  ·intro y0 y1
   unfold aR.l0
   repeat' first
   |(with_reducible first|exact ih0 _ _|exact LeO.refl _|exact LeO.none _|refine LeO.ite ?_ ?_|refine LeO.bind ?_ (fun _ => ?_))
   |exact ih0 _ _
   |exact LeO.none _
   |refine LeO.ite ?_ ?_
   |refine LeO.bind ?_ (fun _ => ?_)
theorem aR.mono : ∀ a0 k, LeO (aR.f k a0) (aR.f (k + 1) a0) := by
 intro a0 k
 have ih0 := aR.eX k
 unfold aR.f
 repeat' first
   |(with_reducible first|exact ih0 _ _|exact LeO.refl _|exact LeO.none _|refine LeO.ite ?_ ?_|refine LeO.bind ?_ (fun _ => ?_))
   |exact ih0 _ _
   |exact LeO.none _
   |refine LeO.ite ?_ ?_
   |refine LeO.bind ?_ (fun _ => ?_)
theorem aR.calls (k : Nat) (a0 r : Int) (w : World) (h : aR.f k a0 = some r) :
  Calls Tryz.prog 132 #[.int .u64 a0] w fun e w' => e = .returned (.int .i64 r) ∧ Drawn0 w w' := by
 have H : (aR.l0 k a0 0) = some r := h
 clear h
 have H' := Aside0.mk H
 clear H
 go_enter Tryz.func132, Tryz.ntmps132
 go_wp2
 go_loopg [0, 3] k (fun kq v0 v3 w' => ∃ (x0_1 : Int) (x3_1 : Int), v0 = .int .u64 x0_1 ∧ v3 = .int .i64 x3_1 ∧ Aside0 (aR.l0 kq x0_1 x3_1 = some r) ∧ Aside0 (kq ≤ k) ∧ Drawn0 w w')
 case atStart => exact ⟨(a0), (0), (gr_), (gr_), H', ⟨Nat.le_refl _⟩, gd_⟩
 case round =>
  clear H'
  try clear c1
  obtain ⟨x0_1, x3_1, rfl, rfl, HA, HK1, ⟨m1, rfl⟩⟩ := hrel
  cases gk with
  |zero => exact absurd HA.out (by simp [aR.l0])
  |succ k1 =>
   have H := HA.out
   clear HA
   simp only [aR.l0] at H
   by_cases c2 : x0_1 > 0
   ·rw [if_pos c2] at H
    have c2b0 : decide (0 < x0_1) = true := decide_eq_true c2
    clear c2
    have H' := Aside0.mk H
    clear H
    go_wp2
    go_roundg k1
    case measure => have := HK1.out; omega
    case rel => exact ⟨(x0_1 / 2), (wrap64 (x3_1 + 1)), (gr_), (gr_), H', ⟨by have := HK1.out; omega⟩, gd_⟩
   ·rw [if_neg c2] at H
    have c2b0 : decide (0 < x0_1) = false := decide_eq_false c2
    clear c2
    obtain rfl := Option.some.inj H
    go_wp2
    go_ret
    exact ⟨gr_, gd_⟩

-- NEED 0
/-! ### aJ: function 168 -/
mutual
def aJ.l0 : Nat → Int → Int → Bool → Option (Int × Bool)
 |0, _, _, _ => none
 |k + 1, x0, x1, x6 => if x1 > 0 then (if x6 = true then (aJ.l0 k (x0 / 2) (wrap64 (x1 - 1)) true) else (aJ.l0 k (x0 / 2) (wrap64 (x1 - 1)) ((Go.bits .and .u64 x0 1) == 1))) else (aJ.l1 k x0 x1 x6)
def aJ.l1 : Nat → Int → Int → Bool → Option (Int × Bool)
 |0, _, _, _ => none
 |k + 1, x0, x1, x6 => if x1 < 0 then (if x6 = true then (aJ.l1 k (IntKind.u64.wrap (x0 * 2)) (wrap64 (x1 + 1)) true) else (aJ.l1 k (IntKind.u64.wrap (x0 * 2)) (wrap64 (x1 + 1)) ((x0 / 9223372036854775808) == 1))) else (some (x0, x6))
end
def aJ.f (k : Nat) (a0 a1 : Int) : Option (Int × Bool) := aJ.l0 k a0 (mn (mx a1 (-64)) 64) false
theorem aJ.eX : ∀ k, (∀ y0 y1 y2, LeO (aJ.l0 k y0 y1 y2) (aJ.l0 (k + 1) y0 y1 y2)) ∧ (∀ y0 y1 y2, LeO (aJ.l1 k y0 y1 y2) (aJ.l1 (k + 1) y0 y1 y2))
 |0 => ⟨fun _ _ _ r h => by simp [aJ.l0] at h, fun _ _ _ r h => by simp [aJ.l1] at h⟩
 |k + 1 => by
  obtain ⟨ih0, ih1⟩ := aJ.eX k
  refine ⟨?_, ?_⟩
  ·intro y0 y1 y2
   unfold aJ.l0
   repeat' first
   |(with_reducible first|exact ih0 _ _ _|exact ih1 _ _ _|exact LeO.refl _|exact LeO.none _|refine LeO.ite ?_ ?_|refine LeO.bind ?_ (fun _ => ?_))
   |exact ih0 _ _ _
   |exact ih1 _ _ _
   |exact LeO.none _
   |refine LeO.ite ?_ ?_
   |refine LeO.bind ?_ (fun _ => ?_)
  ·intro y0 y1 y2
   unfold aJ.l1
   repeat' first
   |(with_reducible first|exact ih0 _ _ _|exact ih1 _ _ _|exact LeO.refl _|exact LeO.none _|refine LeO.ite ?_ ?_|refine LeO.bind ?_ (fun _ => ?_))
   |exact ih0 _ _ _
   |exact ih1 _ _ _
   |exact LeO.none _
   |refine LeO.ite ?_ ?_
   |refine LeO.bind ?_ (fun _ => ?_)
theorem aJ.mono : ∀ a0 a1 k, LeO (aJ.f k a0 a1) (aJ.f (k + 1) a0 a1) := by
 intro a0 a1 k
 obtain ⟨ih0, ih1⟩ := aJ.eX k
 unfold aJ.f
 repeat' first
   |(with_reducible first|exact ih0 _ _ _|exact ih1 _ _ _|exact LeO.refl _|exact LeO.none _|refine LeO.ite ?_ ?_|refine LeO.bind ?_ (fun _ => ?_))
   |exact ih0 _ _ _
   |exact ih1 _ _ _
   |exact LeO.none _
   |refine LeO.ite ?_ ?_
   |refine LeO.bind ?_ (fun _ => ?_)
theorem aJ.calls (k : Nat) (a0 a1 r1 : Int) (r2 : Bool) (w : World) (h : aJ.f k a0 a1 = some (r1, r2)) :
  Calls Tryz.prog 168 #[.int .u64 a0, .int .i64 a1] w fun e w' => e = .returned (.tuple #[.int .u64 r1, .bool r2]) ∧ Below w.heap.size w w' := by
 have HB := Aside0.mk (Below.refl w.heap.size w)
 have H : (aJ.l0 k a0 (mn (mx a1 (-64)) 64) false) = some (r1, r2) := h
 clear h
 obtain ⟨ji3, hji3⟩ : ∃ j_ : Int, (mx a1 (-64)) = j_ := ⟨_, rfl⟩
 replace H : (aJ.l0 k a0 (mn (ji3) 64) false) = some (r1, r2) := by first | (rw [hji3] at H; exact H) | (simp only [hji3] at H ⊢; exact H)
 have hji3_ : (if a1 < (-64) then (-64) else a1) = ji3 := hji3
 obtain ⟨ji4, hji4⟩ : ∃ j_ : Int, (mn (ji3) 64) = j_ := ⟨_, rfl⟩
 replace H : (aJ.l0 k a0 ji4 false) = some (r1, r2) := by first | (rw [hji4] at H; exact H) | (simp only [hji4] at H ⊢; exact H)
 have hji4_ : (if 64 < (ji3) then 64 else (ji3)) = ji4 := hji4
 have H' := Aside0.mk H
 clear H
 go_enter Tryz.func168, Tryz.ntmps168
 go_wp2
 go_loopg [0, 1, 6] k (fun kq v0 v1 v6 w' => ∃ (x0_1 : Int) (x1_1 : Int) (x6_1 : Bool), v0 = .int .u64 x0_1 ∧ v1 = .int .i64 x1_1 ∧ v6 = .bool x6_1 ∧ Aside0 (aJ.l0 kq x0_1 x1_1 x6_1 = some (r1, r2)) ∧ Aside0 (kq ≤ k) ∧ Aside0 (Below w.heap.size w w'))
 case atStart => exact ⟨(a0), (ji4), (false), (gr_), (by first | rfl | (simp; done) | (simp only [← hji4] <;> (first | rfl | (simp; done))) | (simp [*]; done) | (congr 1; (try unfold wrap64); omega) | (congr 1; rw [IntKind.wrap_u64]; omega)), (gr_), H', ⟨Nat.le_refl _⟩, ⟨bl0 HB.out⟩⟩
 case round =>
  clear H'
  try clear c1 p2
  obtain ⟨x0_1, x1_1, x6_1, rfl, rfl, rfl, HA, HK1, HB⟩ := hrel
  cases gk with
  |zero => exact absurd HA.out (by simp [aJ.l0])
  |succ k1 =>
   have H := HA.out
   clear HA
   simp only [aJ.l0] at H
   by_cases c5 : x1_1 > 0
   ·rw [if_pos c5] at H
    have c5b0 : decide (0 < x1_1) = true := decide_eq_true c5
    clear c5
    by_cases c6 : x6_1 = true
    ·subst c6
     have H1 : (aJ.l0 k1 (x0_1 / 2) (wrap64 (x1_1 - 1)) true) = some (r1, r2) := by rw [if_pos rfl] at H; exact H
     clear H
     have H := H1
     clear H1
     have H' := Aside0.mk H
     clear H
     go_wp2
     go_roundg k1
     case measure => have := HK1.out; omega
     case rel => exact ⟨(x0_1 / 2), (wrap64 (x1_1 - 1)), (true), (gr_), (gr_), (gr_), H', ⟨by have := HK1.out; omega⟩, ⟨bl0 HB.out⟩⟩
    ·replace c6 := Bool.eq_false_iff.mpr c6
     subst c6
     have H1 : (aJ.l0 k1 (x0_1 / 2) (wrap64 (x1_1 - 1)) ((Go.bits .and .u64 x0_1 1) == 1)) = some (r1, r2) := by rw [if_neg (show ¬ (false = true) by decide)] at H; exact H
     clear H
     have H := H1
     clear H1
     have H' := Aside0.mk H
     clear H
     go_wp2
     go_roundg k1
     case measure => have := HK1.out; omega
     case rel => exact ⟨(x0_1 / 2), (wrap64 (x1_1 - 1)), (((Go.bits .and .u64 x0_1 1) == 1)), (gr_), (gr_), (gr_), H', ⟨by have := HK1.out; omega⟩, ⟨bl0 HB.out⟩⟩
   ·rw [if_neg c5] at H
    have c5b0 : decide (0 < x1_1) = false := decide_eq_false c5
    clear c5
    have H' := Aside0.mk H
    clear H
    go_wp2
    go_loopg [0, 1, 6] k1 (fun kq v0 v1 v6 w' => ∃ (x0_2 : Int) (x1_2 : Int) (x6_2 : Bool), v0 = .int .u64 x0_2 ∧ v1 = .int .i64 x1_2 ∧ v6 = .bool x6_2 ∧ Aside0 (aJ.l1 kq x0_2 x1_2 x6_2 = some (r1, r2)) ∧ Aside0 (kq ≤ k1) ∧ Aside0 (Below w.heap.size w w'))
    case atStart => exact ⟨(x0_1), (x1_1), (x6_1), (gr_), (gr_), (gr_), H', ⟨Nat.le_refl _⟩, ⟨bl0 HB.out⟩⟩
    case round =>
     clear H'
     try clear c1 p2 c5 c5b0 c6 p6 p2
     obtain ⟨x0_2, x1_2, x6_2, rfl, rfl, rfl, HA, HK2, HB⟩ := hrel
     cases gk with
     |zero => exact absurd HA.out (by simp [aJ.l1])
     |succ k2 =>
      have H := HA.out
      clear HA
      simp only [aJ.l1] at H
      by_cases c7 : x1_2 < 0
      ·rw [if_pos c7] at H
       have c7b0 : decide (x1_2 < 0) = true := decide_eq_true c7
       clear c7
       by_cases c8 : x6_2 = true
       ·subst c8
        have H1 : (aJ.l1 k2 (IntKind.u64.wrap (x0_2 * 2)) (wrap64 (x1_2 + 1)) true) = some (r1, r2) := by rw [if_pos rfl] at H; exact H
        clear H
        have H := H1
        clear H1
        have H' := Aside0.mk H
        clear H
        go_wp2
        go_roundg k2
        case measure => have := HK1.out; have := HK2.out; omega
        case rel => exact ⟨(IntKind.u64.wrap (x0_2 * 2)), (wrap64 (x1_2 + 1)), (true), (gr_), (gr_), (gr_), H', ⟨by have := HK1.out; have := HK2.out; omega⟩, ⟨bl0 HB.out⟩⟩
       ·replace c8 := Bool.eq_false_iff.mpr c8
        subst c8
        have H1 : (aJ.l1 k2 (IntKind.u64.wrap (x0_2 * 2)) (wrap64 (x1_2 + 1)) ((x0_2 / 9223372036854775808) == 1)) = some (r1, r2) := by rw [if_neg (show ¬ (false = true) by decide)] at H; exact H
        clear H
        have H := H1
        clear H1
        have H' := Aside0.mk H
        clear H
        go_wp2
        go_roundg k2
        case measure => have := HK1.out; have := HK2.out; omega
        case rel => exact ⟨(IntKind.u64.wrap (x0_2 * 2)), (wrap64 (x1_2 + 1)), (((x0_2 / 9223372036854775808) == 1)), (gr_), (gr_), (gr_), H', ⟨by have := HK1.out; have := HK2.out; omega⟩, ⟨bl0 HB.out⟩⟩
      ·rw [if_neg c7] at H
       have c7b0 : decide (x1_2 < 0) = false := decide_eq_false c7
       clear c7
       simp only [Option.some.injEq, Prod.mk.injEq] at H
       obtain ⟨rfl, rfl⟩ := H
       go_wp2
       go_ret2
       exact ⟨by first | rfl | (simp [dE, dD] <;> rfl) | (simp only [← hji3, ← hji4]; first | rfl | (simp [dE, dD] <;> rfl)) | (simp [*, dE, dD] <;> rfl), bl0 HB.out⟩

-- NEED 0
/-! ### bD: function 133 -/
def bD.f (k : Nat) (a0 a1 : Int) : Option (Int × Bool × Bool) := if a1 ≤ 0 then (if 0 ≤ (mn (wrap64 (-a1)) 63) then (some (IntKind.u64.wrap (a0 * 2 ^ (mn (wrap64 (-a1)) 63).toNat), false, false)) else (none)) else (if a1 > 64 then (some (0, false, (a0 != 0))) else ((aJ.f k a0 a1).bind fun bt595 => ((aJ.f k a0 (wrap64 (a1 - 1))).bind fun bt597 => ((aJ.f k a0 (wrap64 (a1 - 1))).bind fun bt599 => (some (bt595.1, ((Go.bits .and .u64 bt597.1 1) == 1), bt599.2))))))
theorem bD.mono : ∀ a0 a1 k, LeO (bD.f k a0 a1) (bD.f (k + 1) a0 a1) := by
 intro a0 a1 k
 unfold bD.f
 repeat' first
   |(with_reducible first|exact aJ.mono _ _ _|exact LeO.refl _|exact LeO.none _|refine LeO.ite ?_ ?_|refine LeO.bind ?_ (fun _ => ?_))
   |exact aJ.mono _ _ _
   |exact LeO.none _
   |refine LeO.ite ?_ ?_
   |refine LeO.bind ?_ (fun _ => ?_)
theorem bD.calls (k : Nat) (a0 a1 r1 : Int) (r2 r3 : Bool) (w : World) (h : bD.f k a0 a1 = some (r1, r2, r3)) :
  Calls Tryz.prog 133 #[.int .u64 a0, .int .i64 a1] w fun e w' => e = .returned (.tuple #[.int .u64 r1, .bool r2, .bool r3]) ∧ Below w.heap.size w w' := by
 have HB := Aside0.mk (Below.refl w.heap.size w)
 have H : (if a1 ≤ 0 then (if 0 ≤ (mn (wrap64 (-a1)) 63) then (some (IntKind.u64.wrap (a0 * 2 ^ (mn (wrap64 (-a1)) 63).toNat), false, false)) else (none)) else (if a1 > 64 then (some (0, false, (a0 != 0))) else ((aJ.f k a0 a1).bind fun bt595 => ((aJ.f k a0 (wrap64 (a1 - 1))).bind fun bt597 => ((aJ.f k a0 (wrap64 (a1 - 1))).bind fun bt599 => (some (bt595.1, ((Go.bits .and .u64 bt597.1 1) == 1), bt599.2))))))) = some (r1, r2, r3) := h
 clear h
 by_cases c3 : a1 ≤ 0
 ·rw [if_pos c3] at H
  have c3b0 : decide (a1 ≤ 0) = true := decide_eq_true c3
  clear c3
  obtain ⟨ji4, hji4⟩ : ∃ j_ : Int, (mn (wrap64 (-a1)) 63) = j_ := ⟨_, rfl⟩
  replace H : (if 0 ≤ (ji4) then (some (IntKind.u64.wrap (a0 * 2 ^ (ji4).toNat), false, false)) else (none)) = some (r1, r2, r3) := by first | (rw [hji4] at H; exact H) | (simp only [hji4] at H ⊢; exact H)
  (try (have hji4h : ji4 ≤ 63 := by (rw [← hji4]; unfold mn; (repeat' split) <;> omega)))
  (try (have hji4g : ji4 ≤ 64 := by omega))
  have hji4_ : (if 63 < (wrap64 (-a1)) then 63 else (wrap64 (-a1))) = ji4 := hji4
  by_cases c5 : 0 ≤ (ji4)
  ·rw [if_pos c5] at H
   have c5b0 := eq_true c5
   have c5b1 : decide (0 ≤ (ji4)) = true := decide_eq_true c5
   clear c5
   simp only [Option.some.injEq, Prod.mk.injEq] at H
   obtain ⟨rfl, rfl, rfl⟩ := H
   go_enter Tryz.func133, Tryz.ntmps133
   go_wp2
   go_ret3
   exact ⟨by first | rfl | (simp [dE, dD] <;> rfl) | (simp only [← hji4]; first | rfl | (simp [dE, dD] <;> rfl)) | (simp [*, dE, dD] <;> rfl), bl0 HB.out⟩
  ·rw [if_neg c5] at H
   exact absurd H (by simp)
 ·rw [if_neg c3] at H
  have c3b0 : decide (a1 ≤ 0) = false := decide_eq_false c3
  clear c3
  by_cases c6 : a1 > 64
  ·rw [if_pos c6] at H
   have c6b0 : decide (64 < a1) = true := decide_eq_true c6
   clear c6
   simp only [Option.some.injEq, Prod.mk.injEq] at H
   obtain ⟨rfl, rfl, rfl⟩ := H
   go_enter Tryz.func133, Tryz.ntmps133
   go_wp2
   go_ret3
   exact ⟨by first | rfl | (simp [dE, dD] <;> rfl) | (simp [*, dE, dD] <;> rfl), bl0 HB.out⟩
  ·rw [if_neg c6] at H
   have c6b0 : decide (64 < a1) = false := decide_eq_false c6
   clear c6
   replace H := bq_ H
   obtain ⟨⟨t595, t596⟩, A70, H⟩ := H
   replace H : ((aJ.f k a0 (wrap64 (a1 - 1))).bind fun bt597 => ((aJ.f k a0 (wrap64 (a1 - 1))).bind fun bt599 => (some (t595, ((Go.bits .and .u64 bt597.1 1) == 1), bt599.2)))) = some (r1, r2, r3) := H
   have A7 := Aside0.mk A70
   clear A70
   replace H := bq_ H
   obtain ⟨⟨t597, t598⟩, A80, H⟩ := H
   replace H : ((aJ.f k a0 (wrap64 (a1 - 1))).bind fun bt599 => (some (t595, ((Go.bits .and .u64 t597 1) == 1), bt599.2))) = some (r1, r2, r3) := H
   have A8 := Aside0.mk A80
   clear A80
   replace H := bq_ H
   obtain ⟨⟨t599, t600⟩, A90, H⟩ := H
   replace H : (some (t595, ((Go.bits .and .u64 t597 1) == 1), t600)) = some (r1, r2, r3) := H
   have A9 := Aside0.mk A90
   clear A90
   simp only [Option.some.injEq, Prod.mk.injEq] at H
   obtain ⟨rfl, rfl, rfl⟩ := H
   go_enter Tryz.func133, Tryz.ntmps133
   go_wp2_with (first | ((with_reducible refine gate_callee (f := 168) rfl ?_); refine goesL_ (some 27) rfl rfl Tryz.func168 (by kernel_rfl) rfl #[.int .u64 a0, .int .i64 a1] rfl gl ?_; (with_reducible refine (aJ.calls k a0 a1 t595 t596 _ A7.out).mono ?_); rintro e w10 ⟨rfl, hb⟩; refine ⟨_, rfl, ?_⟩; have n0_ := Aside0.mk (below_step (bl0 HB.out) hb); clear HB; have HB := n0_; clear n0_) | ((with_reducible refine gate_callee (f := 168) rfl ?_); refine goesL_ (some 34) rfl rfl Tryz.func168 (by kernel_rfl) rfl #[.int .u64 a0, .int .i64 (wrap64 (a1 - 1))] rfl gl ?_; (with_reducible refine (aJ.calls k a0 (wrap64 (a1 - 1)) t597 t598 _ A8.out).mono ?_); rintro e w11 ⟨rfl, hb⟩; refine ⟨_, rfl, ?_⟩; have n0_ := Aside0.mk (below_step (bl0 HB.out) hb); clear HB; have HB := n0_; clear n0_) | ((with_reducible refine gate_callee (f := 168) rfl ?_); refine goesL_ (some 41) rfl rfl Tryz.func168 (by kernel_rfl) rfl #[.int .u64 a0, .int .i64 (wrap64 (a1 - 1))] rfl gl ?_; (with_reducible refine (aJ.calls k a0 (wrap64 (a1 - 1)) t599 t600 _ A9.out).mono ?_); rintro e w12 ⟨rfl, hb⟩; refine ⟨_, rfl, ?_⟩; have n0_ := Aside0.mk (below_step (bl0 HB.out) hb); clear HB; have HB := n0_; clear n0_))
   go_ret3
   exact ⟨by first | rfl | (simp [dE, dD] <;> rfl) | (simp [*, dE, dD] <;> rfl), bl0 HB.out⟩


-- NEED 0
/-! ### aI: function 77 -/
def aI.l0 : Nat → Int → List Int → Bool → Bool → Int → Option (Bool × Bool)
 |0, _, _, _, _, _ => none
 |k + 1, x0, x1, x6, x7, x8 => if x8 < (x1.length : Int) then (if 0 ≤ x8 then ((aH.f k x0 (rd x1 x8)).bind fun t551 => (if x6 = true then (if x7 = true then (aI.l0 k x0 x1 true true (wrap64 (x8 + 1))) else (aI.l0 k x0 x1 true (t551 == 5) (wrap64 (x8 + 1)))) else (if t551 = 4 then (if x7 = true then (aI.l0 k x0 x1 true true (wrap64 (x8 + 1))) else (aI.l0 k x0 x1 true (t551 == 5) (wrap64 (x8 + 1)))) else (if x7 = true then (aI.l0 k x0 x1 (t551 == 5) true (wrap64 (x8 + 1))) else (aI.l0 k x0 x1 (t551 == 5) (t551 == 5) (wrap64 (x8 + 1))))))) else (none)) else (some (x6, x7))
def aI.f (k : Nat) (a0 : Int) (l1 : List Int) : Option (Bool × Bool) := aI.l0 k a0 l1 false false 0
theorem aI.eX : ∀ k, (∀ y0 y1 y2 y3 y4, LeO (aI.l0 k y0 y1 y2 y3 y4) (aI.l0 (k + 1) y0 y1 y2 y3 y4))
 |0 => fun _ _ _ _ _ r h => by simp [aI.l0] at h
 |k + 1 => by
  have ih0 := aI.eX k
  ·intro y0 y1 y2 y3 y4
   unfold aI.l0
   repeat' first
   |(with_reducible first|exact ih0 _ _ _ _ _|exact aH.mono _ _ _|exact LeO.refl _|exact LeO.none _|refine LeO.ite ?_ ?_|refine LeO.bind ?_ (fun _ => ?_))
   |exact ih0 _ _ _ _ _
   |exact aH.mono _ _ _
   |exact LeO.none _
   |refine LeO.ite ?_ ?_
   |refine LeO.bind ?_ (fun _ => ?_)
theorem aI.mono : ∀ a0 a1 k, LeO (aI.f k a0 a1) (aI.f (k + 1) a0 a1) := by
 intro a0 a1 k
 have ih0 := aI.eX k
 unfold aI.f
 repeat' first
   |(with_reducible first|exact ih0 _ _ _ _ _|exact aH.mono _ _ _|exact LeO.refl _|exact LeO.none _|refine LeO.ite ?_ ?_|refine LeO.bind ?_ (fun _ => ?_))
   |exact ih0 _ _ _ _ _
   |exact aH.mono _ _ _
   |exact LeO.none _
   |refine LeO.ite ?_ ?_
   |refine LeO.bind ?_ (fun _ => ?_)
theorem aI.calls (k : Nat) (a0 : Int) (A1 : Option Addr) (c1 : Nat) (l1 : List Int) (r1 r2 : Bool) (w : World) (hr1 : Kd.C (Kd.int .u32) w A1 l1.length l1) (hc1 : l1.length ≤ c1) (h : aI.f k a0 l1 = some (r1, r2)) :
  Calls Tryz.prog 77 #[.int .i64 a0, .slice A1 l1.length c1] w fun e w' => e = .returned (.tuple #[.bool r1, .bool r2]) ∧ Drawn0 w w' := by
 have HR1 := Aside0.mk hr1
 have HC1 := Aside0.mk hc1
 clear hr1 hc1
 have H : (aI.l0 k a0 l1 false false 0) = some (r1, r2) := h
 clear h
 have H' := Aside0.mk H
 clear H
 go_enter Tryz.func77, Tryz.ntmps77
 go_wp2
 go_loopg [6, 7, 8] k (fun kq v6 v7 v8 w' => ∃ (x6_1 : Bool) (x7_1 : Bool) (x8_1 : Int), v6 = .bool x6_1 ∧ v7 = .bool x7_1 ∧ v8 = .int .i64 x8_1 ∧ Aside0 (aI.l0 kq a0 l1 x6_1 x7_1 x8_1 = some (r1, r2)) ∧ Aside0 (kq ≤ k) ∧ Drawn0 w w')
 case atStart => exact ⟨(false), (false), (0), (gr_), (gr_), (gr_), H', ⟨Nat.le_refl _⟩, gd_⟩
 case round =>
  clear H'
  try clear c1 p2
  obtain ⟨x6_1, x7_1, x8_1, rfl, rfl, rfl, HA, HK1, ⟨m1, rfl⟩⟩ := hrel
  cases gk with
  |zero => exact absurd HA.out (by simp [aI.l0])
  |succ k1 =>
   have H := HA.out
   clear HA
   simp only [aI.l0] at H
   by_cases c3 : x8_1 < (l1.length : Int)
   ·rw [if_pos c3] at H
    have c3b0 : decide (x8_1 < (l1.length : Int)) = true := decide_eq_true c3
    clear c3
    by_cases c4 : 0 ≤ x8_1
    ·rw [if_pos c4] at H
     have c4b0 : decide (0 ≤ x8_1) = true := decide_eq_true c4
     clear c4
     replace H := bq_ H
     obtain ⟨t551, A50, H⟩ := H
     replace H : (if x6_1 = true then (if x7_1 = true then (aI.l0 k1 a0 l1 true true (wrap64 (x8_1 + 1))) else (aI.l0 k1 a0 l1 true (t551 == 5) (wrap64 (x8_1 + 1)))) else (if t551 = 4 then (if x7_1 = true then (aI.l0 k1 a0 l1 true true (wrap64 (x8_1 + 1))) else (aI.l0 k1 a0 l1 true (t551 == 5) (wrap64 (x8_1 + 1)))) else (if x7_1 = true then (aI.l0 k1 a0 l1 (t551 == 5) true (wrap64 (x8_1 + 1))) else (aI.l0 k1 a0 l1 (t551 == 5) (t551 == 5) (wrap64 (x8_1 + 1)))))) = some (r1, r2) := H
     have A5 := Aside0.mk A50
     clear A50
     by_cases c6 : x6_1 = true
     ·subst c6
      have H1 : (if x7_1 = true then (aI.l0 k1 a0 l1 true true (wrap64 (x8_1 + 1))) else (aI.l0 k1 a0 l1 true (t551 == 5) (wrap64 (x8_1 + 1)))) = some (r1, r2) := by rw [if_pos rfl] at H; exact H
      clear H
      have H := H1
      clear H1
      by_cases c7 : x7_1 = true
      ·subst c7
       have H1 : (aI.l0 k1 a0 l1 true true (wrap64 (x8_1 + 1))) = some (r1, r2) := by rw [if_pos rfl] at H; exact H
       clear H
       have H := H1
       clear H1
       have H' := Aside0.mk H
       clear H
       have p550 : 0 ≤ (x8_1 : Int) := of_decide_eq_true (by first | (with_reducible assumption) | assumption)
       have q550 : x8_1 < (l1.length : Int) := of_decide_eq_true (by first | (with_reducible assumption) | assumption)
       obtain ⟨ad550, e550, hx550_0⟩ := Kd.at_int HR1.out x8_1 p550 q550
       cases e550
       replace p550 := eq_true p550
       replace q550 := eq_true q550
       go_wp2_with (first | ((with_reducible refine gate_callee (f := 121) rfl ?_); refine goesL_ (some 21) rfl rfl Tryz.func121 (by kernel_rfl) rfl #[.int .i64 a0, .int .u32 (rd l1 x8_1)] rfl gl ?_; (with_reducible refine (aH.calls k1 a0 (rd l1 x8_1) t551 _ A5.out).mono ?_); rintro e w' ⟨rfl, ⟨nd, rfl⟩⟩; refine ⟨_, rfl, ?_⟩))
       go_roundg k1
       case measure => have := HK1.out; omega
       case rel => exact ⟨(true), (true), (wrap64 (x8_1 + 1)), (gr_), (gr_), (gr_), H', ⟨by have := HK1.out; omega⟩, gd_⟩
      ·replace c7 := Bool.eq_false_iff.mpr c7
       subst c7
       have H1 : (aI.l0 k1 a0 l1 true (t551 == 5) (wrap64 (x8_1 + 1))) = some (r1, r2) := by rw [if_neg (show ¬ (false = true) by decide)] at H; exact H
       clear H
       have H := H1
       clear H1
       have H' := Aside0.mk H
       clear H
       have p550 : 0 ≤ (x8_1 : Int) := of_decide_eq_true (by first | (with_reducible assumption) | assumption)
       have q550 : x8_1 < (l1.length : Int) := of_decide_eq_true (by first | (with_reducible assumption) | assumption)
       obtain ⟨ad550, e550, hx550_0⟩ := Kd.at_int HR1.out x8_1 p550 q550
       cases e550
       replace p550 := eq_true p550
       replace q550 := eq_true q550
       go_wp2_with (first | ((with_reducible refine gate_callee (f := 121) rfl ?_); refine goesL_ (some 21) rfl rfl Tryz.func121 (by kernel_rfl) rfl #[.int .i64 a0, .int .u32 (rd l1 x8_1)] rfl gl ?_; (with_reducible refine (aH.calls k1 a0 (rd l1 x8_1) t551 _ A5.out).mono ?_); rintro e w' ⟨rfl, ⟨nd, rfl⟩⟩; refine ⟨_, rfl, ?_⟩))
       go_roundg k1
       case measure => have := HK1.out; omega
       case rel => exact ⟨(true), ((t551 == 5)), (wrap64 (x8_1 + 1)), (gr_), (gr_), (gr_), H', ⟨by have := HK1.out; omega⟩, gd_⟩
     ·replace c6 := Bool.eq_false_iff.mpr c6
      subst c6
      have H1 : (if t551 = 4 then (if x7_1 = true then (aI.l0 k1 a0 l1 true true (wrap64 (x8_1 + 1))) else (aI.l0 k1 a0 l1 true (t551 == 5) (wrap64 (x8_1 + 1)))) else (if x7_1 = true then (aI.l0 k1 a0 l1 (t551 == 5) true (wrap64 (x8_1 + 1))) else (aI.l0 k1 a0 l1 (t551 == 5) (t551 == 5) (wrap64 (x8_1 + 1))))) = some (r1, r2) := by rw [if_neg (show ¬ (false = true) by decide)] at H; exact H
      clear H
      have H := H1
      clear H1
      by_cases c8 : t551 = 4
      ·rw [if_pos c8] at H
       have c8b0 : (t551 == 4) = true := beq_iff_eq.mpr c8
       have c8b1 : (t551 != 4) = false := bne_eq_false_iff_eq.mpr c8
       clear c8
       by_cases c9 : x7_1 = true
       ·subst c9
        have H1 : (aI.l0 k1 a0 l1 true true (wrap64 (x8_1 + 1))) = some (r1, r2) := by rw [if_pos rfl] at H; exact H
        clear H
        have H := H1
        clear H1
        have H' := Aside0.mk H
        clear H
        have p550 : 0 ≤ (x8_1 : Int) := of_decide_eq_true (by first | (with_reducible assumption) | assumption)
        have q550 : x8_1 < (l1.length : Int) := of_decide_eq_true (by first | (with_reducible assumption) | assumption)
        obtain ⟨ad550, e550, hx550_0⟩ := Kd.at_int HR1.out x8_1 p550 q550
        cases e550
        replace p550 := eq_true p550
        replace q550 := eq_true q550
        go_wp2_with (first | ((with_reducible refine gate_callee (f := 121) rfl ?_); refine goesL_ (some 21) rfl rfl Tryz.func121 (by kernel_rfl) rfl #[.int .i64 a0, .int .u32 (rd l1 x8_1)] rfl gl ?_; (with_reducible refine (aH.calls k1 a0 (rd l1 x8_1) t551 _ A5.out).mono ?_); rintro e w' ⟨rfl, ⟨nd, rfl⟩⟩; refine ⟨_, rfl, ?_⟩))
        go_roundg k1
        case measure => have := HK1.out; omega
        case rel => exact ⟨(true), (true), (wrap64 (x8_1 + 1)), (gr_), (gr_), (gr_), H', ⟨by have := HK1.out; omega⟩, gd_⟩
       ·replace c9 := Bool.eq_false_iff.mpr c9
        subst c9
        have H1 : (aI.l0 k1 a0 l1 true (t551 == 5) (wrap64 (x8_1 + 1))) = some (r1, r2) := by rw [if_neg (show ¬ (false = true) by decide)] at H; exact H
        clear H
        have H := H1
        clear H1
        have H' := Aside0.mk H
        clear H
        have p550 : 0 ≤ (x8_1 : Int) := of_decide_eq_true (by first | (with_reducible assumption) | assumption)
        have q550 : x8_1 < (l1.length : Int) := of_decide_eq_true (by first | (with_reducible assumption) | assumption)
        obtain ⟨ad550, e550, hx550_0⟩ := Kd.at_int HR1.out x8_1 p550 q550
        cases e550
        replace p550 := eq_true p550
        replace q550 := eq_true q550
        go_wp2_with (first | ((with_reducible refine gate_callee (f := 121) rfl ?_); refine goesL_ (some 21) rfl rfl Tryz.func121 (by kernel_rfl) rfl #[.int .i64 a0, .int .u32 (rd l1 x8_1)] rfl gl ?_; (with_reducible refine (aH.calls k1 a0 (rd l1 x8_1) t551 _ A5.out).mono ?_); rintro e w' ⟨rfl, ⟨nd, rfl⟩⟩; refine ⟨_, rfl, ?_⟩))
        go_roundg k1
        case measure => have := HK1.out; omega
        case rel => exact ⟨(true), ((t551 == 5)), (wrap64 (x8_1 + 1)), (gr_), (gr_), (gr_), H', ⟨by have := HK1.out; omega⟩, gd_⟩
      ·rw [if_neg c8] at H
       have c8b0 : (t551 == 4) = false := beq_eq_false_iff_ne.mpr c8
       have c8b1 : (t551 != 4) = true := bne_iff_ne.mpr c8
       by_cases c10 : x7_1 = true
       ·subst c10
        have H1 : (aI.l0 k1 a0 l1 (t551 == 5) true (wrap64 (x8_1 + 1))) = some (r1, r2) := by rw [if_pos rfl] at H; exact H
        clear H
        have H := H1
        clear H1
        have H' := Aside0.mk H
        clear H
        have p550 : 0 ≤ (x8_1 : Int) := of_decide_eq_true (by first | (with_reducible assumption) | assumption)
        have q550 : x8_1 < (l1.length : Int) := of_decide_eq_true (by first | (with_reducible assumption) | assumption)
        obtain ⟨ad550, e550, hx550_0⟩ := Kd.at_int HR1.out x8_1 p550 q550
        cases e550
        replace p550 := eq_true p550
        replace q550 := eq_true q550
        go_wp2_with (first | ((with_reducible refine gate_callee (f := 121) rfl ?_); refine goesL_ (some 21) rfl rfl Tryz.func121 (by kernel_rfl) rfl #[.int .i64 a0, .int .u32 (rd l1 x8_1)] rfl gl ?_; (with_reducible refine (aH.calls k1 a0 (rd l1 x8_1) t551 _ A5.out).mono ?_); rintro e w' ⟨rfl, ⟨nd, rfl⟩⟩; refine ⟨_, rfl, ?_⟩))
        go_roundg k1
        case measure => have := HK1.out; omega
        case rel => exact ⟨((t551 == 5)), (true), (wrap64 (x8_1 + 1)), (gr_), (gr_), (gr_), H', ⟨by have := HK1.out; omega⟩, gd_⟩
       ·replace c10 := Bool.eq_false_iff.mpr c10
        subst c10
        have H1 : (aI.l0 k1 a0 l1 (t551 == 5) (t551 == 5) (wrap64 (x8_1 + 1))) = some (r1, r2) := by rw [if_neg (show ¬ (false = true) by decide)] at H; exact H
        clear H
        have H := H1
        clear H1
        have H' := Aside0.mk H
        clear H
        have p550 : 0 ≤ (x8_1 : Int) := of_decide_eq_true (by first | (with_reducible assumption) | assumption)
        have q550 : x8_1 < (l1.length : Int) := of_decide_eq_true (by first | (with_reducible assumption) | assumption)
        obtain ⟨ad550, e550, hx550_0⟩ := Kd.at_int HR1.out x8_1 p550 q550
        cases e550
        replace p550 := eq_true p550
        replace q550 := eq_true q550
        go_wp2_with (first | ((with_reducible refine gate_callee (f := 121) rfl ?_); refine goesL_ (some 21) rfl rfl Tryz.func121 (by kernel_rfl) rfl #[.int .i64 a0, .int .u32 (rd l1 x8_1)] rfl gl ?_; (with_reducible refine (aH.calls k1 a0 (rd l1 x8_1) t551 _ A5.out).mono ?_); rintro e w' ⟨rfl, ⟨nd, rfl⟩⟩; refine ⟨_, rfl, ?_⟩))
        go_roundg k1
        case measure => have := HK1.out; omega
        case rel => exact ⟨((t551 == 5)), ((t551 == 5)), (wrap64 (x8_1 + 1)), (gr_), (gr_), (gr_), H', ⟨by have := HK1.out; omega⟩, gd_⟩
    ·rw [if_neg c4] at H
     exact absurd H (by simp)
   ·rw [if_neg c3] at H
    have c3b0 : decide (x8_1 < (l1.length : Int)) = false := decide_eq_false c3
    clear c3
    simp only [Option.some.injEq, Prod.mk.injEq] at H
    obtain ⟨rfl, rfl⟩ := H
    go_wp2
    go_ret2
    exact ⟨gr_, gd_⟩

-- NEED 0
/-! ### bG: function 78 -/
def bG.f (k : Nat) (a0 a1 : Int) : Option (Bool) := (aH.f k a0 a1).bind fun t552 => (some (t552 == 0))
theorem bG.mono : ∀ a0 a1 k, LeO (bG.f k a0 a1) (bG.f (k + 1) a0 a1) := by
 intro a0 a1 k
 unfold bG.f
 repeat' first
   |(with_reducible first|exact aH.mono _ _ _|exact LeO.refl _|exact LeO.none _|refine LeO.ite ?_ ?_|refine LeO.bind ?_ (fun _ => ?_))
   |exact aH.mono _ _ _
   |exact LeO.none _
   |refine LeO.ite ?_ ?_
   |refine LeO.bind ?_ (fun _ => ?_)
theorem bG.calls (k : Nat) (a0 a1 : Int) (r : Bool) (w : World) (h : bG.f k a0 a1 = some r) :
  Calls Tryz.prog 78 #[.int .i64 a0, .int .u32 a1] w fun e w' => e = .returned (.bool r) ∧ Drawn0 w w' := by
 have H : ((aH.f k a0 a1).bind fun t552 => (some (t552 == 0))) = some r := h
 clear h
 replace H := bq_ H
 obtain ⟨t552, A30, H⟩ := H
 replace H : (some (t552 == 0)) = some r := H
 have A3 := Aside0.mk A30
 clear A30
 obtain rfl := Option.some.inj H
 go_enter Tryz.func78, Tryz.ntmps78
 go_wp2_with (first | ((with_reducible refine gate_callee (f := 121) rfl ?_); refine goesL_ (some 7) rfl rfl Tryz.func121 (by kernel_rfl) rfl #[.int .i64 a0, .int .u32 a1] rfl gl ?_; (with_reducible refine (aH.calls k a0 a1 t552 _ A3.out).mono ?_); rintro e w' ⟨rfl, ⟨nd, rfl⟩⟩; refine ⟨_, rfl, ?_⟩))
 go_ret
 exact ⟨gr_, gd_⟩

-- NEED 0
/-! ### bL: function 86 -/
def bL.f (k : Nat) (a0 a1 : Int) : Option (Bool) := (aH.f k a0 a1).bind fun t553 => (some (t553 == 3))
theorem bL.mono : ∀ a0 a1 k, LeO (bL.f k a0 a1) (bL.f (k + 1) a0 a1) := by
 intro a0 a1 k
 unfold bL.f
 repeat' first
   |(with_reducible first|exact aH.mono _ _ _|exact LeO.refl _|exact LeO.none _|refine LeO.ite ?_ ?_|refine LeO.bind ?_ (fun _ => ?_))
   |exact aH.mono _ _ _
   |exact LeO.none _
   |refine LeO.ite ?_ ?_
   |refine LeO.bind ?_ (fun _ => ?_)
theorem bL.calls (k : Nat) (a0 a1 : Int) (r : Bool) (w : World) (h : bL.f k a0 a1 = some r) :
  Calls Tryz.prog 86 #[.int .i64 a0, .int .u32 a1] w fun e w' => e = .returned (.bool r) ∧ Drawn0 w w' := by
 have H : ((aH.f k a0 a1).bind fun t553 => (some (t553 == 3))) = some r := h
 clear h
 replace H := bq_ H
 obtain ⟨t553, A30, H⟩ := H
 replace H : (some (t553 == 3)) = some r := H
 have A3 := Aside0.mk A30
 clear A30
 obtain rfl := Option.some.inj H
 go_enter Tryz.func86, Tryz.ntmps86
 go_wp2_with (first | ((with_reducible refine gate_callee (f := 121) rfl ?_); refine goesL_ (some 7) rfl rfl Tryz.func121 (by kernel_rfl) rfl #[.int .i64 a0, .int .u32 a1] rfl gl ?_; (with_reducible refine (aH.calls k a0 a1 t553 _ A3.out).mono ?_); rintro e w' ⟨rfl, ⟨nd, rfl⟩⟩; refine ⟨_, rfl, ?_⟩))
 go_ret
 exact ⟨gr_, gd_⟩

-- NEED 0
/-! ### bV: function 89 -/
def bV.f (a0 : Int) (a1 : Bool) : Option (Int) := (aD.f a0).bind fun bt554 => ((bW.f a0 a1).bind fun t556 => (if 0 ≤ bt554.1 then (if 0 ≤ bt554.2 then (some (Go.bits .or .u32 t556 (shl .u32 (((shl .u32 1 bt554.1) - 1) % 4294967296) bt554.2))) else (none)) else (none)))
theorem bV.calls (a0 : Int) (a1 : Bool) (r : Int) (w : World) (h : bV.f a0 a1 = some r) :
  Calls Tryz.prog 89 #[.int .i64 a0, .bool a1] w fun e w' => e = .returned (.int .u32 r) ∧ Drawn0 w w' := by
 have H : ((aD.f a0).bind fun bt554 => ((bW.f a0 a1).bind fun t556 => (if 0 ≤ bt554.1 then (if 0 ≤ bt554.2 then (some (Go.bits .or .u32 t556 (shl .u32 (((shl .u32 1 bt554.1) - 1) % 4294967296) bt554.2))) else (none)) else (none)))) = some r := h
 clear h
 replace H := bq_ H
 obtain ⟨⟨t554, t555⟩, A30, H⟩ := H
 replace H : ((bW.f a0 a1).bind fun t556 => (if 0 ≤ t554 then (if 0 ≤ t555 then (some (Go.bits .or .u32 t556 (shl .u32 (((shl .u32 1 t554) - 1) % 4294967296) t555))) else (none)) else (none))) = some r := H
 have A3 := Aside0.mk A30
 clear A30
 replace H := bq_ H
 obtain ⟨t556, A40, H⟩ := H
 replace H : (if 0 ≤ t554 then (if 0 ≤ t555 then (some (Go.bits .or .u32 t556 (shl .u32 (((shl .u32 1 t554) - 1) % 4294967296) t555))) else (none)) else (none)) = some r := H
 have A4 := Aside0.mk A40
 clear A40
 by_cases c5 : 0 ≤ t554
 ·rw [if_pos c5] at H
  have c5b0 := eq_true c5
  have c5b1 : decide (0 ≤ t554) = true := decide_eq_true c5
  clear c5
  obtain ⟨ji6, hji6⟩ : ∃ j_ : Int, (shl .u32 1 t554) = j_ := ⟨_, rfl⟩
  replace H : (if 0 ≤ t555 then (some (Go.bits .or .u32 t556 (shl .u32 (((ji6) - 1) % 4294967296) t555))) else (none)) = some r := by first | (rw [hji6] at H; exact H) | (simp only [hji6] at H ⊢; exact H)
  (try rw [hji6] at A3)
  (try rw [hji6] at A4)
  have hji6_ : (IntKind.u32.wrap (1 * 2 ^ min t554.toNat 32)) = ji6 := hji6
  have hji6z : t554 ≤ 32 → (IntKind.u32.wrap (1 * 2 ^ t554.toNat)) = ji6 := shl_small hji6
  have hji6u : (IntKind.u32.wrap (2 ^ min t554.toNat 32)) = ji6 := by have h_ := hji6_; rw [Int.one_mul] at h_; exact h_
  have hji6v : t554 ≤ 32 → (IntKind.u32.wrap (2 ^ t554.toNat)) = ji6 := fun hle_ => by have h_ := hji6z hle_; rw [Int.one_mul] at h_; exact h_
  obtain ⟨ji7, hji7⟩ : ∃ j_ : Int, (((ji6) - 1) % 4294967296) = j_ := ⟨_, rfl⟩
  replace H : (if 0 ≤ t555 then (some (Go.bits .or .u32 t556 (shl .u32 (ji7) t555))) else (none)) = some r := by first | (rw [hji7] at H; exact H) | (simp only [hji7] at H ⊢; exact H)
  (try rw [hji7] at A3)
  (try rw [hji7] at A4)
  have hji7l : 0 ≤ ji7 := by rw [← hji7]; exact Int.emod_nonneg _ (by decide)
  have hji7h : ji7 ≤ 4294967295 := by have := Int.emod_lt_of_pos (((ji6) - 1)) (show (0 : Int) < 4294967296 by decide); omega
  have hji7w : (IntKind.u32.wrap ((ji6) - 1)) = ji7 := (l7 _).trans hji7
  (try (have hji7_ := hji7; simp only [Int.add_emod_emod, Int.emod_add_emod, Int.sub_emod_emod, Int.emod_sub_emod] at hji7_))
  by_cases c8 : 0 ≤ t555
  ·rw [if_pos c8] at H
   have c8b0 := eq_true c8
   have c8b1 : decide (0 ≤ t555) = true := decide_eq_true c8
   clear c8
   obtain ⟨ji9, hji9⟩ : ∃ j_ : Int, (shl .u32 (ji7) t555) = j_ := ⟨_, rfl⟩
   replace H : (some (Go.bits .or .u32 t556 (ji9))) = some r := by first | (rw [hji9] at H; exact H) | (simp only [hji9] at H ⊢; exact H)
   (try rw [hji9] at A3)
   (try rw [hji9] at A4)
   have hji9_ : (IntKind.u32.wrap ((ji7) * 2 ^ min t555.toNat 32)) = ji9 := hji9
   have hji9z : t555 ≤ 32 → (IntKind.u32.wrap ((ji7) * 2 ^ t555.toNat)) = ji9 := shl_small hji9
   obtain rfl := Option.some.inj H
   go_enter Tryz.func89, Tryz.ntmps89
   go_wp2_with (first | (go_at_call 125; (with_reducible refine (aD.calls a0 t554 t555 _ A3.out).mono ?_); rintro e w' ⟨rfl, ⟨nd, rfl⟩⟩; (try first | exact ⟨rfl, _, World.drewN_drewN _ _ _⟩ | exact ⟨rfl, _, Eq.trans (World.drewN_drewN _ _ _) (congrArg (World.drewN _) (Nat.add_assoc _ _ _))⟩)) | (go_at_call 122; (with_reducible refine (bW.calls a0 a1 t556 _ A4.out).mono ?_); rintro e w' ⟨rfl, ⟨nd, rfl⟩⟩; (try first | exact ⟨rfl, _, World.drewN_drewN _ _ _⟩ | exact ⟨rfl, _, Eq.trans (World.drewN_drewN _ _ _) (congrArg (World.drewN _) (Nat.add_assoc _ _ _))⟩)))
   repeat (go_quiet (first | (go_at_call 125; (with_reducible refine (aD.calls a0 t554 t555 _ A3.out).mono ?_); rintro e w' ⟨rfl, ⟨nd, rfl⟩⟩; (try first | exact ⟨rfl, _, World.drewN_drewN _ _ _⟩ | exact ⟨rfl, _, Eq.trans (World.drewN_drewN _ _ _) (congrArg (World.drewN _) (Nat.add_assoc _ _ _))⟩)) | (go_at_call 122; (with_reducible refine (bW.calls a0 a1 t556 _ A4.out).mono ?_); rintro e w' ⟨rfl, ⟨nd, rfl⟩⟩; (try first | exact ⟨rfl, _, World.drewN_drewN _ _ _⟩ | exact ⟨rfl, _, Eq.trans (World.drewN_drewN _ _ _) (congrArg (World.drewN _) (Nat.add_assoc _ _ _))⟩))); try go_wp2_with (first | (go_at_call 125; (with_reducible refine (aD.calls a0 t554 t555 _ A3.out).mono ?_); rintro e w' ⟨rfl, ⟨nd, rfl⟩⟩; (try first | exact ⟨rfl, _, World.drewN_drewN _ _ _⟩ | exact ⟨rfl, _, Eq.trans (World.drewN_drewN _ _ _) (congrArg (World.drewN _) (Nat.add_assoc _ _ _))⟩)) | (go_at_call 122; (with_reducible refine (bW.calls a0 a1 t556 _ A4.out).mono ?_); rintro e w' ⟨rfl, ⟨nd, rfl⟩⟩; (try first | exact ⟨rfl, _, World.drewN_drewN _ _ _⟩ | exact ⟨rfl, _, Eq.trans (World.drewN_drewN _ _ _) (congrArg (World.drewN _) (Nat.add_assoc _ _ _))⟩))))
   go_ret
   exact ⟨by first | rfl | (simp; done) | (simp only [← hji6, ← hji7, ← hji9] <;> (first | rfl | (simp; done))) | (simp [*]; done) | (congr 1; (try unfold wrap64); omega) | (congr 1; rw [IntKind.wrap_u64]; omega), gd_⟩
  ·rw [if_neg c8] at H
   exact absurd H (by simp)
 ·rw [if_neg c5] at H
  exact absurd H (by simp)

-- NEED 0
/-! ### cK: function 87 -/
def cK.f (a0 : Int) : Option (Int) := (aD.f a0).bind fun bt557 => ((bV.f a0 false).bind fun t559 => (if 0 ≤ (wrap64 (bt557.2 - 1)) then (some (Go.bits .or .u32 t559 (shl .u32 1 (wrap64 (bt557.2 - 1))))) else (none)))
theorem cK.calls (a0 r : Int) (w : World) (h : cK.f a0 = some r) :
  Calls Tryz.prog 87 #[.int .i64 a0] w fun e w' => e = .returned (.int .u32 r) ∧ Drawn0 w w' := by
 have H : ((aD.f a0).bind fun bt557 => ((bV.f a0 false).bind fun t559 => (if 0 ≤ (wrap64 (bt557.2 - 1)) then (some (Go.bits .or .u32 t559 (shl .u32 1 (wrap64 (bt557.2 - 1))))) else (none)))) = some r := h
 clear h
 replace H := bq_ H
 obtain ⟨⟨t557, t558⟩, A20, H⟩ := H
 replace H : ((bV.f a0 false).bind fun t559 => (if 0 ≤ (wrap64 (t558 - 1)) then (some (Go.bits .or .u32 t559 (shl .u32 1 (wrap64 (t558 - 1))))) else (none))) = some r := H
 have A2 := Aside0.mk A20
 clear A20
 replace H := bq_ H
 obtain ⟨t559, A30, H⟩ := H
 replace H : (if 0 ≤ (wrap64 (t558 - 1)) then (some (Go.bits .or .u32 t559 (shl .u32 1 (wrap64 (t558 - 1))))) else (none)) = some r := H
 have A3 := Aside0.mk A30
 clear A30
 obtain ⟨ji4, hji4⟩ : ∃ j_ : Int, (wrap64 (t558 - 1)) = j_ := ⟨_, rfl⟩
 replace H : (if 0 ≤ (ji4) then (some (Go.bits .or .u32 t559 (shl .u32 1 (ji4)))) else (none)) = some r := by first | (rw [hji4] at H; exact H) | (simp only [hji4] at H ⊢; exact H)
 (try rw [hji4] at A2)
 (try rw [hji4] at A3)
 have hji4w : (IntKind.i64.wrap (t558 - 1)) = ji4 := (i64_w _).trans hji4
 by_cases c5 : 0 ≤ (ji4)
 ·rw [if_pos c5] at H
  have c5b0 := eq_true c5
  have c5b1 : decide (0 ≤ (ji4)) = true := decide_eq_true c5
  clear c5
  obtain ⟨ji6, hji6⟩ : ∃ j_ : Int, (shl .u32 1 (ji4)) = j_ := ⟨_, rfl⟩
  replace H : (some (Go.bits .or .u32 t559 (ji6))) = some r := by first | (rw [hji6] at H; exact H) | (simp only [hji6] at H ⊢; exact H)
  (try rw [hji6] at A2)
  (try rw [hji6] at A3)
  have hji6_ : (IntKind.u32.wrap (1 * 2 ^ min (ji4).toNat 32)) = ji6 := hji6
  have hji6z : (ji4) ≤ 32 → (IntKind.u32.wrap (1 * 2 ^ (ji4).toNat)) = ji6 := shl_small hji6
  have hji6u : (IntKind.u32.wrap (2 ^ min (ji4).toNat 32)) = ji6 := by have h_ := hji6_; rw [Int.one_mul] at h_; exact h_
  have hji6v : (ji4) ≤ 32 → (IntKind.u32.wrap (2 ^ (ji4).toNat)) = ji6 := fun hle_ => by have h_ := hji6z hle_; rw [Int.one_mul] at h_; exact h_
  obtain rfl := Option.some.inj H
  go_enter Tryz.func87, Tryz.ntmps87
  go_wp2_with (first | (go_at_call 125; (with_reducible refine (aD.calls a0 t557 t558 _ A2.out).mono ?_); rintro e w' ⟨rfl, ⟨nd, rfl⟩⟩; (try first | exact ⟨rfl, _, World.drewN_drewN _ _ _⟩ | exact ⟨rfl, _, Eq.trans (World.drewN_drewN _ _ _) (congrArg (World.drewN _) (Nat.add_assoc _ _ _))⟩)) | (go_at_call 89; (with_reducible refine (bV.calls a0 false t559 _ A3.out).mono ?_); rintro e w' ⟨rfl, ⟨nd, rfl⟩⟩; (try first | exact ⟨rfl, _, World.drewN_drewN _ _ _⟩ | exact ⟨rfl, _, Eq.trans (World.drewN_drewN _ _ _) (congrArg (World.drewN _) (Nat.add_assoc _ _ _))⟩)))
  repeat (go_quiet (first | (go_at_call 125; (with_reducible refine (aD.calls a0 t557 t558 _ A2.out).mono ?_); rintro e w' ⟨rfl, ⟨nd, rfl⟩⟩; (try first | exact ⟨rfl, _, World.drewN_drewN _ _ _⟩ | exact ⟨rfl, _, Eq.trans (World.drewN_drewN _ _ _) (congrArg (World.drewN _) (Nat.add_assoc _ _ _))⟩)) | (go_at_call 89; (with_reducible refine (bV.calls a0 false t559 _ A3.out).mono ?_); rintro e w' ⟨rfl, ⟨nd, rfl⟩⟩; (try first | exact ⟨rfl, _, World.drewN_drewN _ _ _⟩ | exact ⟨rfl, _, Eq.trans (World.drewN_drewN _ _ _) (congrArg (World.drewN _) (Nat.add_assoc _ _ _))⟩))); try go_wp2_with (first | (go_at_call 125; (with_reducible refine (aD.calls a0 t557 t558 _ A2.out).mono ?_); rintro e w' ⟨rfl, ⟨nd, rfl⟩⟩; (try first | exact ⟨rfl, _, World.drewN_drewN _ _ _⟩ | exact ⟨rfl, _, Eq.trans (World.drewN_drewN _ _ _) (congrArg (World.drewN _) (Nat.add_assoc _ _ _))⟩)) | (go_at_call 89; (with_reducible refine (bV.calls a0 false t559 _ A3.out).mono ?_); rintro e w' ⟨rfl, ⟨nd, rfl⟩⟩; (try first | exact ⟨rfl, _, World.drewN_drewN _ _ _⟩ | exact ⟨rfl, _, Eq.trans (World.drewN_drewN _ _ _) (congrArg (World.drewN _) (Nat.add_assoc _ _ _))⟩))))
  go_ret
  exact ⟨by first | rfl | (simp; done) | (simp only [← hji4, ← hji6] <;> (first | rfl | (simp; done))) | (simp [*]; done) | (congr 1; (try unfold wrap64); omega) | (congr 1; rw [IntKind.wrap_u64]; omega), gd_⟩
 ·rw [if_neg c5] at H
  exact absurd H (by simp)


-- NEED 0
/-! ### eB: function 134 -/
def eB.f (a0 : Int) (a1 a2 : Bool) (a3 a4 : Bool) : Option (Bool) := if a0 = 1 then (some false) else (if a0 = 2 then (if a1 = true then (some false) else (if a3 = true then (some true) else (some a4))) else (if a0 = 3 then (if a1 = true then (if a3 = true then (some true) else (some a4)) else (some false)) else (if a0 = 4 then (some a3) else (if a3 = true then (if a4 = true then (some true) else (some a2)) else (some false)))))
theorem eB.calls (a0 : Int) (a1 a2 : Bool) (a3 a4 r : Bool) (w : World) (h : eB.f a0 a1 a2 a3 a4 = some r) :
  Calls Tryz.prog 134 #[.int .i64 a0, .bool a1, .bool a2, .bool a3, .bool a4] w fun e w' => e = .returned (.bool r) ∧ Drawn0 w w' := by
 have H : (if a0 = 1 then (some false) else (if a0 = 2 then (if a1 = true then (some false) else (if a3 = true then (some true) else (some a4))) else (if a0 = 3 then (if a1 = true then (if a3 = true then (some true) else (some a4)) else (some false)) else (if a0 = 4 then (some a3) else (if a3 = true then (if a4 = true then (some true) else (some a2)) else (some false)))))) = some r := h
 clear h
 by_cases c6 : a0 = 1
 ·rw [if_pos c6] at H
  have c6b0 : (a0 == 1) = true := beq_iff_eq.mpr c6
  have c6b1 : (a0 != 1) = false := bne_eq_false_iff_eq.mpr c6
  clear c6
  obtain rfl := Option.some.inj H
  go_enter Tryz.func134, Tryz.ntmps134
  go_wp2
  go_ret
  exact ⟨gr_, gd_⟩
 ·rw [if_neg c6] at H
  have c6b0 : (a0 == 1) = false := beq_eq_false_iff_ne.mpr c6
  have c6b1 : (a0 != 1) = true := bne_iff_ne.mpr c6
  by_cases c7 : a0 = 2
  ·rw [if_pos c7] at H
   have c7b0 : (a0 == 2) = true := beq_iff_eq.mpr c7
   have c7b1 : (a0 != 2) = false := bne_eq_false_iff_eq.mpr c7
   clear c7
   by_cases c8 : a1 = true
   ·subst c8
    have H1 : (some false) = some r := by rw [if_pos rfl] at H; exact H
    clear H
    have H := H1
    clear H1
    obtain rfl := Option.some.inj H
    go_enter Tryz.func134, Tryz.ntmps134
    go_wp2
    go_ret
    exact ⟨gr_, gd_⟩
   ·replace c8 := Bool.eq_false_iff.mpr c8
    subst c8
    have H1 : (if a3 = true then (some true) else (some a4)) = some r := by rw [if_neg (show ¬ (false = true) by decide)] at H; exact H
    clear H
    have H := H1
    clear H1
    by_cases c9 : a3 = true
    ·subst c9
     have H1 : (some true) = some r := by rw [if_pos rfl] at H; exact H
     clear H
     have H := H1
     clear H1
     obtain rfl := Option.some.inj H
     go_enter Tryz.func134, Tryz.ntmps134
     go_wp2
     go_ret
     exact ⟨gr_, gd_⟩
    ·replace c9 := Bool.eq_false_iff.mpr c9
     subst c9
     have H1 : (some a4) = some r := by rw [if_neg (show ¬ (false = true) by decide)] at H; exact H
     clear H
     have H := H1
     clear H1
     obtain rfl := Option.some.inj H
     go_enter Tryz.func134, Tryz.ntmps134
     go_wp2
     go_ret
     exact ⟨gr_, gd_⟩
  ·rw [if_neg c7] at H
   have c7b0 : (a0 == 2) = false := beq_eq_false_iff_ne.mpr c7
   have c7b1 : (a0 != 2) = true := bne_iff_ne.mpr c7
   by_cases c10 : a0 = 3
   ·rw [if_pos c10] at H
    have c10b0 : (a0 == 3) = true := beq_iff_eq.mpr c10
    have c10b1 : (a0 != 3) = false := bne_eq_false_iff_eq.mpr c10
    clear c10
    by_cases c11 : a1 = true
    ·subst c11
     have H1 : (if a3 = true then (some true) else (some a4)) = some r := by rw [if_pos rfl] at H; exact H
     clear H
     have H := H1
     clear H1
     by_cases c12 : a3 = true
     ·subst c12
      have H1 : (some true) = some r := by rw [if_pos rfl] at H; exact H
      clear H
      have H := H1
      clear H1
      obtain rfl := Option.some.inj H
      go_enter Tryz.func134, Tryz.ntmps134
      go_wp2
      go_ret
      exact ⟨gr_, gd_⟩
     ·replace c12 := Bool.eq_false_iff.mpr c12
      subst c12
      have H1 : (some a4) = some r := by rw [if_neg (show ¬ (false = true) by decide)] at H; exact H
      clear H
      have H := H1
      clear H1
      obtain rfl := Option.some.inj H
      go_enter Tryz.func134, Tryz.ntmps134
      go_wp2
      go_ret
      exact ⟨gr_, gd_⟩
    ·replace c11 := Bool.eq_false_iff.mpr c11
     subst c11
     have H1 : (some false) = some r := by rw [if_neg (show ¬ (false = true) by decide)] at H; exact H
     clear H
     have H := H1
     clear H1
     obtain rfl := Option.some.inj H
     go_enter Tryz.func134, Tryz.ntmps134
     go_wp2
     go_ret
     exact ⟨gr_, gd_⟩
   ·rw [if_neg c10] at H
    have c10b0 : (a0 == 3) = false := beq_eq_false_iff_ne.mpr c10
    have c10b1 : (a0 != 3) = true := bne_iff_ne.mpr c10
    by_cases c13 : a0 = 4
    ·rw [if_pos c13] at H
     have c13b0 : (a0 == 4) = true := beq_iff_eq.mpr c13
     have c13b1 : (a0 != 4) = false := bne_eq_false_iff_eq.mpr c13
     clear c13
     obtain rfl := Option.some.inj H
     go_enter Tryz.func134, Tryz.ntmps134
     go_wp2
     go_ret
     exact ⟨gr_, gd_⟩
    ·rw [if_neg c13] at H
     have c13b0 : (a0 == 4) = false := beq_eq_false_iff_ne.mpr c13
     have c13b1 : (a0 != 4) = true := bne_iff_ne.mpr c13
     by_cases c14 : a3 = true
     ·subst c14
      have H1 : (if a4 = true then (some true) else (some a2)) = some r := by rw [if_pos rfl] at H; exact H
      clear H
      have H := H1
      clear H1
      by_cases c15 : a4 = true
      ·subst c15
       have H1 : (some true) = some r := by rw [if_pos rfl] at H; exact H
       clear H
       have H := H1
       clear H1
       obtain rfl := Option.some.inj H
       go_enter Tryz.func134, Tryz.ntmps134
       go_wp2
       go_ret
       exact ⟨gr_, gd_⟩
      ·replace c15 := Bool.eq_false_iff.mpr c15
       subst c15
       have H1 : (some a2) = some r := by rw [if_neg (show ¬ (false = true) by decide)] at H; exact H
       clear H
       have H := H1
       clear H1
       obtain rfl := Option.some.inj H
       go_enter Tryz.func134, Tryz.ntmps134
       go_wp2
       go_ret
       exact ⟨gr_, gd_⟩
     ·replace c14 := Bool.eq_false_iff.mpr c14
      subst c14
      have H1 : (some false) = some r := by rw [if_neg (show ¬ (false = true) by decide)] at H; exact H
      clear H
      have H := H1
      clear H1
      obtain rfl := Option.some.inj H
      go_enter Tryz.func134, Tryz.ntmps134
      go_wp2
      go_ret
      exact ⟨gr_, gd_⟩

-- NEED 0
/-! ### eG: function 169 -/
def eG.f (a0 : Int) (a1 : Bool) : Option (Int) := (bV.f a0 a1).bind fun t601 => (some ((t601 - 1) % 4294967296))
theorem eG.calls (a0 : Int) (a1 : Bool) (r : Int) (w : World) (h : eG.f a0 a1 = some r) :
  Calls Tryz.prog 169 #[.int .i64 a0, .bool a1] w fun e w' => e = .returned (.int .u32 r) ∧ Drawn0 w w' := by
 have H : ((bV.f a0 a1).bind fun t601 => (some ((t601 - 1) % 4294967296))) = some r := h
 clear h
 replace H := bq_ H
 obtain ⟨t601, A30, H⟩ := H
 replace H : (some ((t601 - 1) % 4294967296)) = some r := H
 have A3 := Aside0.mk A30
 clear A30
 obtain ⟨ji4, hji4⟩ : ∃ j_ : Int, ((t601 - 1) % 4294967296) = j_ := ⟨_, rfl⟩
 replace H : (some ji4) = some r := by first | (rw [hji4] at H; exact H) | (simp only [hji4] at H ⊢; exact H)
 (try rw [hji4] at A3)
 have hji4l : 0 ≤ ji4 := by rw [← hji4]; exact Int.emod_nonneg _ (by decide)
 have hji4h : ji4 ≤ 4294967295 := by have := Int.emod_lt_of_pos ((t601 - 1)) (show (0 : Int) < 4294967296 by decide); omega
 have hji4w : (IntKind.u32.wrap (t601 - 1)) = ji4 := (l7 _).trans hji4
 (try (have hji4_ := hji4; simp only [Int.add_emod_emod, Int.emod_add_emod, Int.sub_emod_emod, Int.emod_sub_emod] at hji4_))
 obtain rfl := Option.some.inj H
 go_enter Tryz.func169, Tryz.ntmps169
 go_wp2_with (first | ((with_reducible refine gate_callee (f := 89) rfl ?_); refine goesL_ (some 7) rfl rfl Tryz.func89 (by kernel_rfl) rfl #[.int .i64 a0, .bool a1] rfl gl ?_; (with_reducible refine (bV.calls a0 a1 t601 _ A3.out).mono ?_); rintro e w' ⟨rfl, ⟨nd, rfl⟩⟩; refine ⟨_, rfl, ?_⟩))
 go_ret
 exact ⟨by first | rfl | (simp; done) | (simp only [← hji4] <;> (first | rfl | (simp; done))) | (simp [*]; done) | (congr 1; (try unfold wrap64); omega) | (congr 1; rw [IntKind.wrap_u64]; omega), gd_⟩

-- NEED 0
/-! ### aM: function 135 -/
def aM.j0 : Nat → Int → Bool → Bool → Option (Int)
 |0, _, _, _ => none
 |k + 1, x0, x2, x23 => if x23 = true then ((eG.f x0 x2).bind fun t602 => (some t602)) else ((bV.f x0 x2).bind fun t603 => (some t603))
def aM.f (k : Nat) (a0 a1 : Int) (a2 : Bool) : Option (Int) := if a1 = 1 then (aM.j0 k a0 a2 true) else (if a1 = 2 then (if a2 = true then (aM.j0 k a0 a2 true) else (if a1 = 3 then (aM.j0 k a0 a2 (!a2)) else (aM.j0 k a0 a2 false))) else (if a1 = 3 then (aM.j0 k a0 a2 (!a2)) else (aM.j0 k a0 a2 false)))
theorem aM.eX : ∀ k, (∀ y0 y1 y2, LeO (aM.j0 k y0 y1 y2) (aM.j0 (k + 1) y0 y1 y2))
 |0 => fun _ _ _ r h => by simp [aM.j0] at h
 |k + 1 => by
  have ih0 := aM.eX k
  ·intro y0 y1 y2
   unfold aM.j0
   repeat' first
   |(with_reducible first|exact ih0 _ _ _|exact LeO.refl _|exact LeO.none _|refine LeO.ite ?_ ?_|refine LeO.bind ?_ (fun _ => ?_))
   |exact ih0 _ _ _
   |exact LeO.none _
   |refine LeO.ite ?_ ?_
   |refine LeO.bind ?_ (fun _ => ?_)
theorem aM.mono : ∀ a0 a1 a2 k, LeO (aM.f k a0 a1 a2) (aM.f (k + 1) a0 a1 a2) := by
 intro a0 a1 a2 k
 have ih0 := aM.eX k
 unfold aM.f
 repeat' first
   |(with_reducible first|exact ih0 _ _ _|exact LeO.refl _|exact LeO.none _|refine LeO.ite ?_ ?_|refine LeO.bind ?_ (fun _ => ?_))
   |exact ih0 _ _ _
   |exact LeO.none _
   |refine LeO.ite ?_ ?_
   |refine LeO.bind ?_ (fun _ => ?_)
theorem aM.calls (k : Nat) (a0 a1 : Int) (a2 : Bool) (r : Int) (w : World) (h : aM.f k a0 a1 a2 = some r) :
  Calls Tryz.prog 135 #[.int .i64 a0, .int .i64 a1, .bool a2] w fun e w' => e = .returned (.int .u32 r) ∧ Drawn0 w w' := by
 have H : (if a1 = 1 then (aM.j0 k a0 a2 true) else (if a1 = 2 then (if a2 = true then (aM.j0 k a0 a2 true) else (if a1 = 3 then (aM.j0 k a0 a2 (!a2)) else (aM.j0 k a0 a2 false))) else (if a1 = 3 then (aM.j0 k a0 a2 (!a2)) else (aM.j0 k a0 a2 false)))) = some r := h
 clear h
 have HC4 := Aside0.mk H
 clear H
 go_enter Tryz.func135, Tryz.ntmps135
 go_upto_region 1 with (fail)
 go_cut [23] (fun v23 wc => ∃ (kq : Nat) (x23_3 : Bool), v23 = .bool x23_3 ∧ Aside0 (aM.j0 kq a0 a2 x23_3 = some r) ∧ Aside0 (kq ≤ k) ∧ Drawn0 w wc)
 case first =>
  have H := HC4.out
  clear HC4
  by_cases c5 : a1 = 1
  ·rw [if_pos c5] at H
   have c5b0 : (a1 == 1) = true := beq_iff_eq.mpr c5
   have c5b1 : (a1 != 1) = false := bne_eq_false_iff_eq.mpr c5
   clear c5
   (first | rw [c5b0] | (simp only [i64_w, i32_w]; rw [c5b0]) | skip)
   have H' := Aside0.mk H
   clear H
   go_wp2
   go_meet
   case rel => exact ⟨_, (true), (gr_), H', ⟨by first | omega | exact Nat.le_refl _⟩, gd_⟩
  ·rw [if_neg c5] at H
   have c5b0 : (a1 == 1) = false := beq_eq_false_iff_ne.mpr c5
   have c5b1 : (a1 != 1) = true := bne_iff_ne.mpr c5
   (first | rw [c5b0] | (simp only [i64_w, i32_w]; rw [c5b0]) | skip)
   by_cases c6 : a1 = 2
   ·rw [if_pos c6] at H
    have c6b0 : (a1 == 2) = true := beq_iff_eq.mpr c6
    have c6b1 : (a1 != 2) = false := bne_eq_false_iff_eq.mpr c6
    clear c6
    by_cases c7 : a2 = true
    ·subst c7
     have H1 : (aM.j0 k a0 true true) = some r := by rw [if_pos rfl] at H; exact H
     clear H
     have H := H1
     clear H1
     have H' := Aside0.mk H
     clear H
     go_wp2
     go_meet
     case rel => exact ⟨_, (true), (gr_), H', ⟨by first | omega | exact Nat.le_refl _⟩, gd_⟩
    ·replace c7 := Bool.eq_false_iff.mpr c7
     subst c7
     have H1 : (if a1 = 3 then (aM.j0 k a0 false (!false)) else (aM.j0 k a0 false false)) = some r := by rw [if_neg (show ¬ (false = true) by decide)] at H; exact H
     clear H
     have H := H1
     clear H1
     by_cases c8 : a1 = 3
     ·rw [if_pos c8] at H
      have c8b0 : (a1 == 3) = true := beq_iff_eq.mpr c8
      have c8b1 : (a1 != 3) = false := bne_eq_false_iff_eq.mpr c8
      clear c8
      have H' := Aside0.mk H
      clear H
      go_wp2
      go_meet
      case rel => exact ⟨_, (!false), (gr_), H', ⟨by first | omega | exact Nat.le_refl _⟩, gd_⟩
     ·rw [if_neg c8] at H
      have c8b0 : (a1 == 3) = false := beq_eq_false_iff_ne.mpr c8
      have c8b1 : (a1 != 3) = true := bne_iff_ne.mpr c8
      have H' := Aside0.mk H
      clear H
      go_wp2
      go_meet
      case rel => exact ⟨_, (false), (gr_), H', ⟨by first | omega | exact Nat.le_refl _⟩, gd_⟩
   ·rw [if_neg c6] at H
    have c6b0 : (a1 == 2) = false := beq_eq_false_iff_ne.mpr c6
    have c6b1 : (a1 != 2) = true := bne_iff_ne.mpr c6
    by_cases c9 : a1 = 3
    ·rw [if_pos c9] at H
     have c9b0 : (a1 == 3) = true := beq_iff_eq.mpr c9
     have c9b1 : (a1 != 3) = false := bne_eq_false_iff_eq.mpr c9
     clear c9
     have H' := Aside0.mk H
     clear H
     go_wp2
     go_meet
     case rel => exact ⟨_, (!a2), (gr_), H', ⟨by first | omega | exact Nat.le_refl _⟩, gd_⟩
    ·rw [if_neg c9] at H
     have c9b0 : (a1 == 3) = false := beq_eq_false_iff_ne.mpr c9
     have c9b1 : (a1 != 3) = true := bne_iff_ne.mpr c9
     have H' := Aside0.mk H
     clear H
     go_wp2
     go_meet
     case rel => exact ⟨_, (false), (gr_), H', ⟨by first | omega | exact Nat.le_refl _⟩, gd_⟩
 case rest =>
  clear HC4
  try clear c1 p2 c5 c5b0 c5b1 c6 c6b0 c6b1 p6 c7 c8 c8b0 c8b1 c9 c9b0 c9b1
  obtain ⟨kq, x23_3, rfl, HA, HJ3, ⟨mc3, rfl⟩⟩ := hcut
  cases kq with
  |zero => exact absurd HA.out (by simp [aM.j0])
  |succ kj3 =>
   have H := HA.out
   clear HA
   simp only [aM.j0] at H
   by_cases c10 : x23_3 = true
   ·subst c10
    have H1 : ((eG.f a0 a2).bind fun t602 => (some t602)) = some r := by rw [if_pos rfl] at H; exact H
    clear H
    have H := H1
    clear H1
    replace H := bq_ H
    obtain ⟨t602, A110, H⟩ := H
    replace H : (some t602) = some r := H
    have A11 := Aside0.mk A110
    clear A110
    obtain rfl := Option.some.inj H
    go_wp2_with (first | ((with_reducible refine gate_callee (f := 169) rfl ?_); refine goesL_ (some 26) rfl rfl Tryz.func169 (by kernel_rfl) rfl #[.int .i64 a0, .bool a2] rfl gl ?_; (with_reducible refine (eG.calls a0 a2 t602 _ A11.out).mono ?_); rintro e w' ⟨rfl, ⟨nd, rfl⟩⟩; refine ⟨_, rfl, ?_⟩))
    go_ret
    exact ⟨gr_, gd_⟩
   ·replace c10 := Bool.eq_false_iff.mpr c10
    subst c10
    have H1 : ((bV.f a0 a2).bind fun t603 => (some t603)) = some r := by rw [if_neg (show ¬ (false = true) by decide)] at H; exact H
    clear H
    have H := H1
    clear H1
    replace H := bq_ H
    obtain ⟨t603, A120, H⟩ := H
    replace H : (some t603) = some r := H
    have A12 := Aside0.mk A120
    clear A120
    obtain rfl := Option.some.inj H
    go_wp2_with (first | ((with_reducible refine gate_callee (f := 89) rfl ?_); refine goesL_ (some 29) rfl rfl Tryz.func89 (by kernel_rfl) rfl #[.int .i64 a0, .bool a2] rfl gl ?_; (with_reducible refine (bV.calls a0 a2 t603 _ A12.out).mono ?_); rintro e w' ⟨rfl, ⟨nd, rfl⟩⟩; refine ⟨_, rfl, ?_⟩))
    go_ret
    exact ⟨gr_, gd_⟩

end Go.Proofs.YtolpdiifmacdbaaGreat.P

/- Entries of functions. -/
namespace Go.Proofs.YtolpdiifmacdbaaGreat.L
open Go.RowKit Go.Proofs.YtolpdiifmacdbaaGreat.P Go.Proofs.YtolpdiifmacdbaaGreat.Ek Go.Proofs.YtolpdiifmacdbaaGreatW.PrintWords Go.Proofs.YtolpdiifmacdbaaGreatW.PrintLast Go.Proofs.YtolpdiifmacdbaaGreatW.PrintMore
noncomputable def dO.c : Fc := gT [hI .i64, hB] [hI .u32] (T := Int) (fun y => ((y, ()), ())) fun n x => dO.f x.1.1 x.2.1.1
theorem dO.ok : gI Tryz.prog 173 dO.c := d9 Tryz.func173 (by kernel_rfl) (by kernel_rfl) (by decide) (fun _ => dJ (by decide) _) fun n x y h m w => (dO.calls x.1.1 x.2.1.1 y w h).mono fun e w' he => ⟨he.1, he.2.below⟩
noncomputable def dF.c : Fc := gT [hI .i64, hB] [hI .u32] (T := Int) (fun y => ((y, ()), ())) fun n x => dF.f x.1.1 x.2.1.1
theorem dF.ok : gI Tryz.prog 142 dF.c := d9 Tryz.func142 (by kernel_rfl) (by kernel_rfl) (by decide) (fun _ => dJ (by decide) _) fun n x y h m w => (dF.calls x.1.1 x.2.1.1 y w h).mono fun e w' he => ⟨he.1, he.2.below⟩
noncomputable def bR.cls : Cls := [(173, dO.c), (142, dF.c)]
theorem bR.gU : dG Tryz.prog bR.cls := dG.cons dO.ok (dG.cons dF.ok (dG.nil))
noncomputable def bR.K (v : SV) : Option (Int × Bool × Bool × Bool × Bool × Bool) := (kT [hI .u32, .agg [.b, .b, .b, .b, .b]] v).map (fun z => (z.1.1, z.2.1.1, z.2.1.2.1, z.2.1.2.2.1, z.2.1.2.2.2.1, z.2.1.2.2.2.2.1))
noncomputable def bR.cuts : List Nat := []
noncomputable def bR.f (k : Nat) (a0 a1 : Int) (a2 : Bool) : Option (Int × Bool × Bool × Bool × Bool × Bool) := evF Tryz.prog bR.cls Tryz.f154 bR.cuts k [.one (.i .i64 (.x a0)), .one (.i .i64 (.x a1)), .one (.b (.q a2))] bR.K
noncomputable def bR.c : Fc := gT [hI .i64, hI .i64, hB] [hI .u32, .agg [.b, .b, .b, .b, .b]] (T := Int × Bool × Bool × Bool × Bool × Bool) (fun y => ((y.1, ()), (y.2.1, y.2.2.1, y.2.2.2.1, y.2.2.2.2.1, y.2.2.2.2.2, ()), ())) fun n x => bR.f n x.1.1 x.2.1.1 x.2.2.1.1
theorem bR.ok : gI Tryz.prog 154 bR.c := uT bR.gU Tryz.func154 (by kernel_rfl) (by kernel_rfl) (by decide) (fun _ => rfl) (fun _ _ => rfl)
noncomputable def eD.c : Fc := gT [.agg [.b, .i .i64, .i .u64, .b]] [.agg [.b, .i .i64, .i .u64, .b]] (T := Bool × Int × Int × Bool) (fun y => ((y.1, y.2.1, y.2.2.1, y.2.2.2, ()), ())) fun n x => eD.f n x.1.1 x.1.2.1 x.1.2.2.1 x.1.2.2.2.1
theorem eD.ok : gI Tryz.prog 175 eD.c := d9 Tryz.func175 (by kernel_rfl) (by kernel_rfl) (by decide) (fun _ => dJ (by decide) _) fun n x y h m w => (eD.calls n x.1.1 x.1.2.1 x.1.2.2.1 x.1.2.2.2.1 y.1 y.2.1 y.2.2.1 y.2.2.2 w h).mono fun e w' he => ⟨he.1, he.2⟩
noncomputable def aU.c : Fc := gT [hI .u64, hI .i64] [hI .u64, hB] (T := Int × Bool) (fun y => ((y.1, ()), (y.2, ()), ())) fun n x => aU.f n x.1.1 x.2.1.1
theorem aU.ok : gI Tryz.prog 144 aU.c := d9 Tryz.func144 (by kernel_rfl) (by kernel_rfl) (by decide) (fun _ => dJ (by decide) _) fun n x y h m w => (aU.calls n x.1.1 x.2.1.1 y.1 y.2 w h).mono fun e w' he => ⟨he.1, he.2.below⟩
noncomputable def aT.cls : Cls := [(175, eD.c), (144, aU.c)]
theorem aT.gU : dG Tryz.prog aT.cls := dG.cons eD.ok (dG.cons aU.ok (dG.nil))
noncomputable def aT.K (v : SV) : Option (Bool × Int × Int × Bool) := (kT [.agg [.b, .i .i64, .i .u64, .b]] v).map (fun z => (z.1.1, z.1.2.1, z.1.2.2.1, z.1.2.2.2.1))
noncomputable def aT.cuts : List Nat := [7, 8, 16]
noncomputable def aT.f (k : Nat) (a0_0 : Bool) (a0_1 a0_2 : Int) (a0_3 a1_0 : Bool) (a1_1 a1_2 : Int) (a1_3 : Bool) : Option (Bool × Int × Int × Bool) := evF Tryz.prog aT.cls Tryz.f162 aT.cuts k [.agg [cb a0_0, ci .i64 a0_1, ci .u64 a0_2, cb a0_3], .agg [cb a1_0, ci .i64 a1_1, ci .u64 a1_2, cb a1_3]] aT.K
noncomputable def aT.c : Fc := gT [.agg [.b, .i .i64, .i .u64, .b], .agg [.b, .i .i64, .i .u64, .b]] [.agg [.b, .i .i64, .i .u64, .b]] (T := Bool × Int × Int × Bool) (fun y => ((y.1, y.2.1, y.2.2.1, y.2.2.2, ()), ())) fun n x => aT.f n x.1.1 x.1.2.1 x.1.2.2.1 x.1.2.2.2.1 x.2.1.1 x.2.1.2.1 x.2.1.2.2.1 x.2.1.2.2.2.1
theorem aT.ok : gI Tryz.prog 162 aT.c := uT aT.gU Tryz.func162 (by kernel_rfl) (by kernel_rfl) (by decide) (fun _ => rfl) (fun _ _ => rfl)
noncomputable def aD.c : Fc := gT [hI .i64] [hI .i64, hI .i64] (T := Int × Int) (fun y => ((y.1, ()), (y.2, ()), ())) fun n x => aD.f x.1.1
theorem aD.ok : gI Tryz.prog 125 aD.c := d9 Tryz.func125 (by kernel_rfl) (by kernel_rfl) (by decide) (fun _ => dJ (by decide) _) fun n x y h m w => (aD.calls x.1.1 y.1 y.2 w h).mono fun e w' he => ⟨he.1, he.2.below⟩
noncomputable def bM.c : Fc := gT [hI .i64] [hI .u32] (T := Int) (fun y => ((y, ()), ())) fun n x => bM.f x.1.1
theorem bM.ok : gI Tryz.prog 90 bM.c := d9 Tryz.func90 (by kernel_rfl) (by kernel_rfl) (by decide) (fun _ => dJ (by decide) _) fun n x y h m w => (bM.calls x.1.1 y w h).mono fun e w' he => ⟨he.1, he.2.below⟩
noncomputable def aZ.c : Fc := gT [hI .i64, hB] [hI .u32] (T := Int) (fun y => ((y, ()), ())) fun n x => aZ.f x.1.1 x.2.1.1
theorem aZ.ok : gI Tryz.prog 91 aZ.c := d9 Tryz.func91 (by kernel_rfl) (by kernel_rfl) (by decide) (fun _ => dJ (by decide) _) fun n x y h m w => (aZ.calls x.1.1 x.2.1.1 y w h).mono fun e w' he => ⟨he.1, he.2.below⟩
noncomputable def bP.cls : Cls := [(125, aD.c), (90, bM.c), (91, aZ.c)]
theorem bP.gU : dG Tryz.prog bP.cls := dG.cons aD.ok (dG.cons bM.ok (dG.cons aZ.ok (dG.nil)))
noncomputable def bP.K (v : SV) : Option (Int) := (kT [hI .u32] v).map (fun z => (z.1.1))
noncomputable def bP.cuts : List Nat := []
noncomputable def bP.f (k : Nat) (a0 a1 : Int) : Option (Int) := evF Tryz.prog bP.cls Tryz.f85 bP.cuts k [.one (.i .i64 (.x a0)), .one (.i .u32 (.x a1))] bP.K
noncomputable def bP.c : Fc := gT [hI .i64, hI .u32] [hI .u32] (T := Int) (fun y => ((y, ()), ())) fun n x => bP.f n x.1.1 x.2.1.1
theorem bP.ok : gI Tryz.prog 85 bP.c := uT bP.gU Tryz.func85 (by kernel_rfl) (by kernel_rfl) (by decide) (fun _ => rfl) (fun _ _ => rfl)
noncomputable def bB.c : Fc := gT [hI .i64] [hI .i64] (T := Int) (fun y => ((y, ()), ())) fun n x => bB.f x.1.1
theorem bB.ok : gI Tryz.prog 127 bB.c := d9 Tryz.func127 (by kernel_rfl) (by kernel_rfl) (by decide) (fun _ => dJ (by decide) _) fun n x y h m w => (bB.calls x.1.1 y w h).mono fun e w' he => ⟨he.1, he.2.below⟩
noncomputable def aR.c : Fc := gT [hI .u64] [hI .i64] (T := Int) (fun y => ((y, ()), ())) fun n x => aR.f n x.1.1
theorem aR.ok : gI Tryz.prog 132 aR.c := d9 Tryz.func132 (by kernel_rfl) (by kernel_rfl) (by decide) (fun _ => dJ (by decide) _) fun n x y h m w => (aR.calls n x.1.1 y w h).mono fun e w' he => ⟨he.1, he.2.below⟩
noncomputable def bD.c : Fc := gT [hI .u64, hI .i64] [hI .u64, hB, hB] (T := Int × Bool × Bool) (fun y => ((y.1, ()), (y.2.1, ()), (y.2.2, ()), ())) fun n x => bD.f n x.1.1 x.2.1.1
theorem bD.ok : gI Tryz.prog 133 bD.c := d9 Tryz.func133 (by kernel_rfl) (by kernel_rfl) (by decide) (fun _ => dJ (by decide) _) fun n x y h m w => (bD.calls n x.1.1 x.2.1.1 y.1 y.2.1 y.2.2 w h).mono fun e w' he => ⟨he.1, he.2⟩
noncomputable def eB.c : Fc := gT [hI .i64, hB, hB, hB, hB] [hB] (T := Bool) (fun y => ((y, ()), ())) fun n x => eB.f x.1.1 x.2.1.1 x.2.2.1.1 x.2.2.2.1.1 x.2.2.2.2.1.1
theorem eB.ok : gI Tryz.prog 134 eB.c := d9 Tryz.func134 (by kernel_rfl) (by kernel_rfl) (by decide) (fun _ => dJ (by decide) _) fun n x y h m w => (eB.calls x.1.1 x.2.1.1 x.2.2.1.1 x.2.2.2.1.1 x.2.2.2.2.1.1 y w h).mono fun e w' he => ⟨he.1, he.2.below⟩
noncomputable def bW.c : Fc := gT [hI .i64, hB] [hI .u32] (T := Int) (fun y => ((y, ()), ())) fun n x => bW.f x.1.1 x.2.1.1
theorem bW.ok : gI Tryz.prog 122 bW.c := d9 Tryz.func122 (by kernel_rfl) (by kernel_rfl) (by decide) (fun _ => dJ (by decide) _) fun n x y h m w => (bW.calls x.1.1 x.2.1.1 y w h).mono fun e w' he => ⟨he.1, he.2.below⟩
noncomputable def aM.c : Fc := gT [hI .i64, hI .i64, hB] [hI .u32] (T := Int) (fun y => ((y, ()), ())) fun n x => aM.f n x.1.1 x.2.1.1 x.2.2.1.1
theorem aM.ok : gI Tryz.prog 135 aM.c := d9 Tryz.func135 (by kernel_rfl) (by kernel_rfl) (by decide) (fun _ => dJ (by decide) _) fun n x y h m w => (aM.calls n x.1.1 x.2.1.1 x.2.2.1.1 y w h).mono fun e w' he => ⟨he.1, he.2.below⟩
noncomputable def aA.cls : Cls := [(91, aZ.c), (125, aD.c), (127, bB.c), (132, aR.c), (133, bD.c), (134, eB.c), (122, bW.c), (135, aM.c)]
theorem aA.gU : dG Tryz.prog aA.cls := dG.cons aZ.ok (dG.cons aD.ok (dG.cons bB.ok (dG.cons aR.ok (dG.cons bD.ok (dG.cons eB.ok (dG.cons bW.ok (dG.cons aM.ok (dG.nil))))))))
noncomputable def aA.K (v : SV) : Option (Int × Bool × Bool × Bool × Bool × Bool) := (kT [hI .u32, .agg [.b, .b, .b, .b, .b]] v).map (fun z => (z.1.1, z.2.1.1, z.2.1.2.1, z.2.1.2.2.1, z.2.1.2.2.2.1, z.2.1.2.2.2.2.1))
noncomputable def aA.cuts : List Nat := [3, 9, 12, 13, 15, 18]
noncomputable def aA.f (k : Nat) (a0 a1 : Int) (a2 : Bool) (a3 a4 : Int) (a5 : Bool) : Option (Int × Bool × Bool × Bool × Bool × Bool) := evF Tryz.prog aA.cls Tryz.f97 aA.cuts k [.one (.i .i64 (.x a0)), .one (.i .i64 (.x a1)), .one (.b (.q a2)), .one (.i .i64 (.x a3)), .one (.i .u64 (.x a4)), .one (.b (.q a5))] aA.K
noncomputable def aA.c : Fc := gT [hI .i64, hI .i64, hB, hI .i64, hI .u64, hB] [hI .u32, .agg [.b, .b, .b, .b, .b]] (T := Int × Bool × Bool × Bool × Bool × Bool) (fun y => ((y.1, ()), (y.2.1, y.2.2.1, y.2.2.2.1, y.2.2.2.2.1, y.2.2.2.2.2, ()), ())) fun n x => aA.f n x.1.1 x.2.1.1 x.2.2.1.1 x.2.2.2.1.1 x.2.2.2.2.1.1 x.2.2.2.2.2.1.1
theorem aA.ok : gI Tryz.prog 97 aA.c := uT aA.gU Tryz.func97 (by kernel_rfl) (by kernel_rfl) (by decide) (fun _ => rfl) (fun _ _ => rfl)
/- Functions' trees, printed by a tool of mine out of the reckoner; Lean's kernel checks each. -/
set_option maxRecDepth 100000
theorem bR.eq (n0 : Nat) (a0 a1 : Int) (a2 : Bool) : bR.f n0 a0 a1 a2 = (if a1 = 1 then ((dO.f a0 a2).bind fun t0 => (some ((t0, false, false, true, false, true)))) else (if a1 = 2 then (if a2 = true then ((dO.f a0 a2).bind fun t0 => (some ((t0, false, false, true, false, true)))) else ((dF.f a0 a2).bind fun t0 => (some ((t0, false, false, true, false, true))))) else (if a1 = 3 then (if a2 = true then ((dF.f a0 a2).bind fun t0 => (some ((t0, false, false, true, false, true)))) else ((dO.f a0 a2).bind fun t0 => (some ((t0, false, false, true, false, true))))) else ((dF.f a0 a2).bind fun t0 => (some ((t0, false, false, true, false, true))))))) := by kernel_rfl
noncomputable def aT.j7 (n0 : Nat) (x0 x1 : Bool) (x2 x3 : Int) (x4 x5 : Bool) (x6 x7 : Int) (x8 x9 : Bool) (x10 x11 : Int) (x12 : Bool) := kE Tryz.prog aT.cls Tryz.f162 aT.cuts [1, 1, 1, 0, 1] [n0] n0 ⟨[(39, (.pv (.one (.b (.q x0))))), (4, (.pv (.one (.p 2 0)))), (3, (.pv (.one (.p 1 0)))), (2, (.pv (.one (.p 0 0))))], [(2, (131, [(.c (.b (.q x1))), (.c (.i .i64 (.x x2))), (.c (.i .u64 (.x x3))), (.c (.b (.q x4)))])), (1, (131, [(.c (.b (.q x5))), (.c (.i .i64 (.x x6))), (.c (.i .u64 (.x x7))), (.c (.b (.q x8)))])), (0, (131, [(.c (.b (.q x9))), (.c (.i .i64 (.x x10))), (.c (.i .u64 (.x x11))), (.c (.b (.q x12)))]))], 3⟩ aT.K
noncomputable def aT.j8 (n0 : Nat) (x0 : Bool) (x1 x2 : Int) (x3 x4 : Bool) (x5 x6 : Int) (x7 x8 : Bool) (x9 x10 : Int) (x11 : Bool) := kE Tryz.prog aT.cls Tryz.f162 aT.cuts [1, 1, 1, 1] [n0] n0 ⟨[(4, (.pv (.one (.p 2 0)))), (3, (.pv (.one (.p 1 0)))), (2, (.pv (.one (.p 0 0))))], [(2, (131, [(.c (.b (.q x0))), (.c (.i .i64 (.x x1))), (.c (.i .u64 (.x x2))), (.c (.b (.q x3)))])), (1, (131, [(.c (.b (.q x4))), (.c (.i .i64 (.x x5))), (.c (.i .u64 (.x x6))), (.c (.b (.q x7)))])), (0, (131, [(.c (.b (.q x8))), (.c (.i .i64 (.x x9))), (.c (.i .u64 (.x x10))), (.c (.b (.q x11)))]))], 3⟩ aT.K
noncomputable def aT.j16 (n0 : Nat) (x0 : Bool) (x1 x2 : Int) (x3 x4 : Bool) (x5 x6 : Int) (x7 : Bool) := kE Tryz.prog aT.cls Tryz.f162 aT.cuts [1, 1, 1, 1, 1, 1, 1, 1, 1] [n0] n0 ⟨[(4, (.pv (.one (.p 2 0)))), (2, (.pv (.one (.p 0 0))))], [(2, (131, [(.c (.b (.q x0))), (.c (.i .i64 (.x x1))), (.c (.i .u64 (.x x2))), (.c (.b (.q x3)))])), (0, (131, [(.c (.b (.q x4))), (.c (.i .i64 (.x x5))), (.c (.i .u64 (.x x6))), (.c (.b (.q x7)))]))], 3⟩ aT.K
theorem aT.eq (n0 : Nat) (a0_0 : Bool) (a0_1 a0_2 : Int) (a0_3 a1_0 : Bool) (a1_1 a1_2 : Int) (a1_3 : Bool) : aT.f n0 a0_0 a0_1 a0_2 a0_3 a1_0 a1_1 a1_2 a1_3 = (if a0_2 = 0 then (some ((a1_0, a1_1, a1_2, a1_3))) else (if a1_2 = 0 then (some ((a0_0, a0_1, a0_2, a0_3))) else ((eD.f n0 a0_0 a0_1 a0_2 a0_3).bind fun t0 => ((eD.f n0 a1_0 a1_1 a1_2 a1_3).bind fun t1 => (if t0.2.1 < t1.2.1 then (aT.j7 n0 (true) (false) (Int.ofNat 0) (Int.ofNat 0) (false) (t1.1) t1.2.1 t1.2.2.1 (t1.2.2.2) (t0.1) t0.2.1 t0.2.2.1 (t0.2.2.2)) else (if t0.2.1 = t1.2.1 then (aT.j7 n0 (Decidable.rec (fun h => false) (fun h => true) (Int.decLt t0.2.2.1 t1.2.2.1)) (false) (Int.ofNat 0) (Int.ofNat 0) (false) (t1.1) t1.2.1 t1.2.2.1 (t1.2.2.2) (t0.1) t0.2.1 t0.2.2.1 (t0.2.2.2)) else (aT.j7 n0 (false) (false) (Int.ofNat 0) (Int.ofNat 0) (false) (t1.1) t1.2.1 t1.2.2.1 (t1.2.2.2) (t0.1) t0.2.1 t0.2.2.1 (t0.2.2.2)))))))) := by kernel_rfl
theorem aT.j7_eq (n0 : Nat) (x0 x1 : Bool) (x2 x3 : Int) (x4 x5 : Bool) (x6 x7 : Int) (x8 x9 : Bool) (x10 x11 : Int) (x12 : Bool) : aT.j7 n0 x0 x1 x2 x3 x4 x5 x6 x7 x8 x9 x10 x11 x12 = (if x0 = true then (aT.j8 n0 (x1) (x2) (x3) (x4) (x9) (x10) (x11) (x12) (x5) (x6) (x7) (x8)) else (aT.j8 n0 (x1) (x2) (x3) (x4) (x5) (x6) (x7) (x8) (x9) (x10) (x11) (x12))) := by kernel_rfl
theorem aT.j8_eq (n0 : Nat) (x0 : Bool) (x1 x2 : Int) (x3 x4 : Bool) (x5 x6 : Int) (x7 x8 : Bool) (x9 x10 : Int) (x11 : Bool) : aT.j8 n0 x0 x1 x2 x3 x4 x5 x6 x7 x8 x9 x10 x11 = ((aU.f n0 x6 (wrap64 (x9 - x5))).bind fun t0 => (if (x8 == x4) = true then (some ((x8, x9, IntKind.wrap IntKind.u64 (x10 + t0.1), t0.2))) else (if t0.2 = true then (aT.j16 n0 (x0) (x1) (x2) (x3) (x8) (x9) (IntKind.wrap IntKind.u64 (IntKind.wrap IntKind.u64 (x10 - t0.1) - 1)) (t0.2)) else (aT.j16 n0 (x0) (x1) (x2) (x3) (x8) (x9) (IntKind.wrap IntKind.u64 (x10 - t0.1)) (t0.2))))) := by kernel_rfl
theorem aT.j16_eq (n0 : Nat) (x0 : Bool) (x1 x2 : Int) (x3 x4 : Bool) (x5 x6 : Int) (x7 : Bool) : aT.j16 n0 x0 x1 x2 x3 x4 x5 x6 x7 = (some ((x4, x5, x6, x7))) := by kernel_rfl
theorem bP.eq (n0 : Nat) (a0 a1 : Int) : bP.f n0 a0 a1 = ((aD.f a0).bind fun t0 => (if 0 ≤ t0.1 then (if 0 ≤ t0.2 then (if 0 ≤ t0.2 then (if 0 ≤ t0.2 then (if 0 ≤ t0.2 then (if 0 ≤ t0.2 then (if shl IntKind.u32 3 t0.2 = 0 then none else (if 0 ≤ t0.2 then (if 0 ≤ t0.2 then (if 0 ≤ t0.2 then (if 0 ≤ t0.2 then (if 0 ≤ wrap64 (t0.2 - 1) then (if 0 ≤ t0.2 then (if shl IntKind.u32 9 t0.2 = 0 then none else (if 0 ≤ Int.tmod a1 15 then (if Int.tmod a1 15 < ↑15 then ((bM.f a0).bind fun t1 => (if shr IntKind.u32 a1 31 = 1 then ((aZ.f a0 true).bind fun t2 => (some (bits BinOp.or IntKind.u32 (bits BinOp.and IntKind.u32 (rd [0, 1, (shl IntKind.u32 1 t0.2 - 1) % 4294967296, shl IntKind.u32 1 t0.2, shl IntKind.u32 (shr IntKind.u32 ((shl IntKind.u32 1 t0.1 - 1) % 4294967296) 1) t0.2, (shl IntKind.u32 (shr IntKind.u32 ((shl IntKind.u32 1 t0.1 - 1) % 4294967296) 1) t0.2 + 1) % 4294967296, (shl IntKind.u32 (shr IntKind.u32 ((shl IntKind.u32 1 t0.1 - 1) % 4294967296) 1) t0.2 - 1) % 4294967296, (shl IntKind.u32 (shr IntKind.u32 ((shl IntKind.u32 1 t0.1 - 1) % 4294967296) 1) t0.2 + shl IntKind.u32 1 t0.2) % 4294967296, (shl IntKind.u32 (shr IntKind.u32 ((shl IntKind.u32 1 t0.1 - 1) % 4294967296) 1) t0.2 + Int.tmod (shr IntKind.u32 a1 4) (shl IntKind.u32 3 t0.2)) % 4294967296, (shl IntKind.u32 ((shl IntKind.u32 1 t0.1 - 1) % 4294967296) t0.2 - 1) % 4294967296, shl IntKind.u32 ((shl IntKind.u32 1 t0.1 - 1) % 4294967296) t0.2, bits BinOp.or IntKind.u32 (shl IntKind.u32 ((shl IntKind.u32 1 t0.1 - 1) % 4294967296) t0.2) 1, bits BinOp.or IntKind.u32 (shl IntKind.u32 ((shl IntKind.u32 1 t0.1 - 1) % 4294967296) t0.2) (shl IntKind.u32 1 (wrap64 (t0.2 - 1))), (shl IntKind.u32 (shr IntKind.u32 ((shl IntKind.u32 1 t0.1 - 1) % 4294967296) 1) t0.2 - Int.tmod (shr IntKind.u32 a1 4) (shl IntKind.u32 9 t0.2)) % 4294967296, shr IntKind.u32 a1 4] (Int.tmod a1 15)) t1) t2))) else (some (bits BinOp.and IntKind.u32 (rd [0, 1, (shl IntKind.u32 1 t0.2 - 1) % 4294967296, shl IntKind.u32 1 t0.2, shl IntKind.u32 (shr IntKind.u32 ((shl IntKind.u32 1 t0.1 - 1) % 4294967296) 1) t0.2, (shl IntKind.u32 (shr IntKind.u32 ((shl IntKind.u32 1 t0.1 - 1) % 4294967296) 1) t0.2 + 1) % 4294967296, (shl IntKind.u32 (shr IntKind.u32 ((shl IntKind.u32 1 t0.1 - 1) % 4294967296) 1) t0.2 - 1) % 4294967296, (shl IntKind.u32 (shr IntKind.u32 ((shl IntKind.u32 1 t0.1 - 1) % 4294967296) 1) t0.2 + shl IntKind.u32 1 t0.2) % 4294967296, (shl IntKind.u32 (shr IntKind.u32 ((shl IntKind.u32 1 t0.1 - 1) % 4294967296) 1) t0.2 + Int.tmod (shr IntKind.u32 a1 4) (shl IntKind.u32 3 t0.2)) % 4294967296, (shl IntKind.u32 ((shl IntKind.u32 1 t0.1 - 1) % 4294967296) t0.2 - 1) % 4294967296, shl IntKind.u32 ((shl IntKind.u32 1 t0.1 - 1) % 4294967296) t0.2, bits BinOp.or IntKind.u32 (shl IntKind.u32 ((shl IntKind.u32 1 t0.1 - 1) % 4294967296) t0.2) 1, bits BinOp.or IntKind.u32 (shl IntKind.u32 ((shl IntKind.u32 1 t0.1 - 1) % 4294967296) t0.2) (shl IntKind.u32 1 (wrap64 (t0.2 - 1))), (shl IntKind.u32 (shr IntKind.u32 ((shl IntKind.u32 1 t0.1 - 1) % 4294967296) 1) t0.2 - Int.tmod (shr IntKind.u32 a1 4) (shl IntKind.u32 9 t0.2)) % 4294967296, shr IntKind.u32 a1 4] (Int.tmod a1 15)) t1)))) else none) else none)) else none) else none) else none) else none) else none) else none)) else none) else none) else none) else none) else none) else none)) := by kernel_rfl
noncomputable def aA.j3 (n0 : Nat) (x0 x1 : Bool) (x2 x3 : Int) (x4 : Bool) (x5 x6 : Int) (x7 x8 : Bool) (x9 x10 x11 : Bool) := kE Tryz.prog aA.cls Tryz.f97 aA.cuts [1, 1, 0, 1] [n0] n0 ⟨[(35, (.pv (.one (.b (.q x0))))), (13, (.pv (.one (.p 0 0)))), (5, (.pv (.one (.b (.q x1))))), (4, (.pv (.one (.i .u64 (.x x2))))), (3, (.pv (.one (.i .i64 (.x x3))))), (2, (.pv (.one (.b (.q x4))))), (1, (.pv (.one (.i .i64 (.x x5))))), (0, (.pv (.one (.i .i64 (.x x6)))))], [(0, (62, [(.c (.b (.q x7))), (.c (.b (.q x8))), (.c (.b (.q x9))), (.c (.b (.q x10))), (.c (.b (.q x11)))]))], 1⟩ aA.K
noncomputable def aA.j9 (n0 : Nat) (x0 x1 x2 : Int) (x3 : Bool) (x4 x5 : Int) (x6 : Bool) (x7 x8 : Int) (x9 x10 : Bool) (x11 x12 x13 : Bool) := kE Tryz.prog aA.cls Tryz.f97 aA.cuts [1, 1, 1, 1, 1, 1, 1] [n0] n0 ⟨[(17, (.pv (.one (.i .i64 (.x x0))))), (16, (.pv (.one (.i .i64 (.x x1))))), (15, (.pv (.one (.i .i64 (.x x2))))), (13, (.pv (.one (.p 0 0)))), (5, (.pv (.one (.b (.q x3))))), (4, (.pv (.one (.i .u64 (.x x4))))), (3, (.pv (.one (.i .i64 (.x x5))))), (2, (.pv (.one (.b (.q x6))))), (1, (.pv (.one (.i .i64 (.x x7))))), (0, (.pv (.one (.i .i64 (.x x8)))))], [(0, (62, [(.c (.b (.q x9))), (.c (.b (.q x10))), (.c (.b (.q x11))), (.c (.b (.q x12))), (.c (.b (.q x13)))]))], 1⟩ aA.K
noncomputable def aA.j12 (n0 : Nat) (x0 x1 : Bool) (x2 x3 : Int) (x4 x5 x6 : Int) (x7 : Bool) (x8 x9 : Int) (x10 x11 : Bool) (x12 x13 x14 : Bool) := kE Tryz.prog aA.cls Tryz.f97 aA.cuts [1, 1, 1, 1, 1, 1, 1, 1, 1, 1] [n0] n0 ⟨[(21, (.pv (.one (.b (.q x0))))), (20, (.pv (.one (.b (.q x1))))), (19, (.pv (.one (.i .u64 (.x x2))))), (18, (.pv (.one (.i .i64 (.x x3))))), (17, (.pv (.one (.i .i64 (.x x4))))), (16, (.pv (.one (.i .i64 (.x x5))))), (15, (.pv (.one (.i .i64 (.x x6))))), (13, (.pv (.one (.p 0 0)))), (2, (.pv (.one (.b (.q x7))))), (1, (.pv (.one (.i .i64 (.x x8))))), (0, (.pv (.one (.i .i64 (.x x9)))))], [(0, (62, [(.c (.b (.q x10))), (.c (.b (.q x11))), (.c (.b (.q x12))), (.c (.b (.q x13))), (.c (.b (.q x14)))]))], 1⟩ aA.K
noncomputable def aA.j13 (n0 : Nat) (x0 x1 x2 : Bool) (x3 x4 : Int) (x5 x6 x7 : Int) (x8 : Bool) (x9 x10 : Int) (x11 x12 : Bool) (x13 x14 x15 : Bool) := kE Tryz.prog aA.cls Tryz.f97 aA.cuts [1, 1, 1, 1, 1, 1, 1, 1, 1, 1, 1] [n0] n0 ⟨[(22, (.pv (.one (.b (.q x0))))), (21, (.pv (.one (.b (.q x1))))), (20, (.pv (.one (.b (.q x2))))), (19, (.pv (.one (.i .u64 (.x x3))))), (18, (.pv (.one (.i .i64 (.x x4))))), (17, (.pv (.one (.i .i64 (.x x5))))), (16, (.pv (.one (.i .i64 (.x x6))))), (15, (.pv (.one (.i .i64 (.x x7))))), (13, (.pv (.one (.p 0 0)))), (2, (.pv (.one (.b (.q x8))))), (1, (.pv (.one (.i .i64 (.x x9))))), (0, (.pv (.one (.i .i64 (.x x10)))))], [(0, (62, [(.c (.b (.q x11))), (.c (.b (.q x12))), (.c (.b (.q x13))), (.c (.b (.q x14))), (.c (.b (.q x15)))]))], 1⟩ aA.K
noncomputable def aA.j15 (n0 : Nat) (x0 : Bool) (x1 x2 : Int) (x3 x4 x5 : Int) (x6 : Bool) (x7 x8 : Int) (x9 x10 : Bool) (x11 x12 x13 : Bool) := kE Tryz.prog aA.cls Tryz.f97 aA.cuts [1, 1, 1, 1, 1, 1, 1, 1, 1, 1, 1, 1] [n0] n0 ⟨[(22, (.pv (.one (.b (.q x0))))), (19, (.pv (.one (.i .u64 (.x x1))))), (18, (.pv (.one (.i .i64 (.x x2))))), (17, (.pv (.one (.i .i64 (.x x3))))), (16, (.pv (.one (.i .i64 (.x x4))))), (15, (.pv (.one (.i .i64 (.x x5))))), (13, (.pv (.one (.p 0 0)))), (2, (.pv (.one (.b (.q x6))))), (1, (.pv (.one (.i .i64 (.x x7))))), (0, (.pv (.one (.i .i64 (.x x8)))))], [(0, (62, [(.c (.b (.q x9))), (.c (.b (.q x10))), (.c (.b (.q x11))), (.c (.b (.q x12))), (.c (.b (.q x13)))]))], 1⟩ aA.K
noncomputable def aA.j18 (n0 : Nat) (x0 x1 x2 : Int) (x3 : Bool) (x4 x5 : Int) (x6 x7 : Bool) (x8 x9 : Bool) (x10 x11 : Bool) (x12 x13 : Bool) (x14 x15 : Bool) := kE Tryz.prog aA.cls Tryz.f97 aA.cuts [1, 1, 1, 1, 1, 1, 1, 1, 1, 1, 1, 1, 1, 1] [n0] n0 ⟨[(23, (.pv (.one (.p 1 0)))), (19, (.pv (.one (.i .u64 (.x x0))))), (18, (.pv (.one (.i .i64 (.x x1))))), (15, (.pv (.one (.i .i64 (.x x2))))), (13, (.pv (.one (.p 0 0)))), (2, (.pv (.one (.b (.q x3))))), (1, (.pv (.one (.i .i64 (.x x4))))), (0, (.pv (.one (.i .i64 (.x x5)))))], [(1, (62, [(.c (.b (.q x6))), (.c (.b (.q x7))), (.c (.b (.q x8))), (.c (.b (.q x9))), (.c (.b (.q x10)))])), (0, (62, [(.c (.b (.q x11))), (.c (.b (.q x12))), (.c (.b (.q x13))), (.c (.b (.q x14))), (.c (.b (.q x15)))]))], 2⟩ aA.K
theorem aA.eq (n0 : Nat) (a0 a1 : Int) (a2 : Bool) (a3 a4 : Int) (a5 : Bool) : aA.f n0 a0 a1 a2 a3 a4 a5 = (if a4 = 0 then (aA.j3 n0 (!(a5)) (a5) (a4) (mn (mx a3 (-10000)) 10000) (a2) (a1) (a0) (false) (false) (false) (false) (false)) else (aA.j3 n0 (false) (a5) (a4) (mn (mx a3 (-10000)) 10000) (a2) (a1) (a0) (false) (false) (false) (false) (false))) := by kernel_rfl
theorem aA.j3_eq (n0 : Nat) (x0 x1 : Bool) (x2 x3 : Int) (x4 : Bool) (x5 x6 : Int) (x7 x8 : Bool) (x9 x10 x11 : Bool) : aA.j3 n0 x0 x1 x2 x3 x4 x5 x6 x7 x8 x9 x10 x11 = (if x0 = true then ((aZ.f x6 x4).bind fun t0 => (some ((t0, false, false, false, false, false)))) else ((aD.f x6).bind fun t0 => ((bB.f x6).bind fun t1 => ((aR.f n0 x2).bind fun t2 => (if x2 = 0 then (aA.j9 n0 (Int.negSucc 19999) (wrap64 (1 - t1)) t0.2 (x1) (x2) (x3) (x4) (x5) (x6) (x7) (x8) (x9) (x10) (x11)) else (aA.j9 n0 (wrap64 (wrap64 (x3 + t2) - 1)) (wrap64 (1 - t1)) t0.2 (x1) (x2) (x3) (x4) (x5) (x6) (x7) (x8) (x9) (x10) (x11))))))) := by kernel_rfl
theorem aA.j9_eq (n0 : Nat) (x0 x1 x2 : Int) (x3 : Bool) (x4 x5 : Int) (x6 : Bool) (x7 x8 : Int) (x9 x10 : Bool) (x11 x12 x13 : Bool) : aA.j9 n0 x0 x1 x2 x3 x4 x5 x6 x7 x8 x9 x10 x11 x12 x13 = ((bD.f n0 x4 (wrap64 (wrap64 (mx x0 x1 - x2) - x5))).bind fun t0 => (if t0.2.2 = true then (aA.j12 n0 (true) (t0.2.1) t0.1 (wrap64 (mx x0 x1 - x2)) (x0) (x1) (x2) (x6) (x7) (x8) (x9) (x10) (x11) (x12) (x13)) else (aA.j12 n0 (x3) (t0.2.1) t0.1 (wrap64 (mx x0 x1 - x2)) (x0) (x1) (x2) (x6) (x7) (x8) (x9) (x10) (x11) (x12) (x13)))) := by kernel_rfl
theorem aA.j12_eq (n0 : Nat) (x0 x1 : Bool) (x2 x3 : Int) (x4 x5 x6 : Int) (x7 : Bool) (x8 x9 : Int) (x10 x11 : Bool) (x12 x13 x14 : Bool) : aA.j12 n0 x0 x1 x2 x3 x4 x5 x6 x7 x8 x9 x10 x11 x12 x13 x14 = (if x1 = true then (aA.j13 n0 (true) (x0) (x1) (x2) (x3) (x4) (x5) (x6) (x7) (x8) (x9) (x10) (x11) (x12) (x13) (x14)) else (aA.j13 n0 (x0) (x0) (x1) (x2) (x3) (x4) (x5) (x6) (x7) (x8) (x9) (x10) (x11) (x12) (x13) (x14))) := by kernel_rfl
theorem aA.j13_eq (n0 : Nat) (x0 x1 x2 : Bool) (x3 x4 : Int) (x5 x6 x7 : Int) (x8 : Bool) (x9 x10 : Int) (x11 x12 : Bool) (x13 x14 x15 : Bool) : aA.j13 n0 x0 x1 x2 x3 x4 x5 x6 x7 x8 x9 x10 x11 x12 x13 x14 x15 = ((eB.f x9 x8 (bits BinOp.and IntKind.u64 x3 1 == 1) x2 x1).bind fun t0 => (if t0 = true then (aA.j15 n0 (x0) (IntKind.wrap IntKind.u64 (x3 + 1)) (x4) (x5) (x6) (x7) (x8) (x9) (x10) (x11) (x12) (x13) (x14) (x15)) else (aA.j15 n0 (x0) (x3) (x4) (x5) (x6) (x7) (x8) (x9) (x10) (x11) (x12) (x13) (x14) (x15)))) := by kernel_rfl
theorem aA.aAD (n0 : Nat) (x0 : Bool) (x1 x2 : Int) (x3 x4 x5 : Int) (x6 : Bool) (x7 x8 : Int) (x9 x10 : Bool) (x11 x12 x13 : Bool) : aA.j15 n0 x0 x1 x2 x3 x4 x5 x6 x7 x8 x9 x10 x11 x12 x13 = (if x0 = true then (if 0 ≤ wrap64 (x5 + 1) then (if x1 = shl IntKind.u64 1 (wrap64 (x5 + 1)) then (aA.j18 n0 (shr IntKind.u64 x1 1) (wrap64 (x2 + 1)) (x5) (x6) (x7) (x8) (false) (false) (false) (Decidable.rec (fun h => false) (fun h => true) (Int.decLt x3 x4)) (x0) (x9) (x10) (x11) (x12) (x13)) else (aA.j18 n0 (x1) (x2) (x5) (x6) (x7) (x8) (false) (false) (false) (Decidable.rec (fun h => false) (fun h => true) (Int.decLt x3 x4)) (x0) (x9) (x10) (x11) (x12) (x13))) else none) else (if 0 ≤ wrap64 (x5 + 1) then (if x1 = shl IntKind.u64 1 (wrap64 (x5 + 1)) then (aA.j18 n0 (shr IntKind.u64 x1 1) (wrap64 (x2 + 1)) (x5) (x6) (x7) (x8) (false) (false) (false) (false) (x0) (x9) (x10) (x11) (x12) (x13)) else (aA.j18 n0 (x1) (x2) (x5) (x6) (x7) (x8) (false) (false) (false) (false) (x0) (x9) (x10) (x11) (x12) (x13))) else none)) := by kernel_rfl
theorem aA.j18_eq (n0 : Nat) (x0 x1 x2 : Int) (x3 : Bool) (x4 x5 : Int) (x6 x7 : Bool) (x8 x9 : Bool) (x10 x11 : Bool) (x12 x13 : Bool) (x14 x15 : Bool) : aA.j18 n0 x0 x1 x2 x3 x4 x5 x6 x7 x8 x9 x10 x11 x12 x13 x14 x15 = (if 0 ≤ x2 then (if x0 < shl IntKind.u64 1 x2 then ((bW.f x5 x3).bind fun t0 => (some ((bits BinOp.or IntKind.u32 t0 (x0 % 4294967296), x6, x7, x8, x9, x10)))) else ((bB.f x5).bind fun t0 => ((aD.f x5).bind fun t1 => (if 0 ≤ t1.1 then (if wrap64 (shl IntKind.i64 1 t1.1 - 1) ≤ wrap64 (wrap64 (x1 + x2) + t0) then ((aM.f n0 x5 x4 x3).bind fun t2 => (some ((t2, false, false, true, false, true)))) else (if 0 ≤ x2 then (if 0 ≤ x2 then ((bW.f x5 x3).bind fun t2 => (some ((bits BinOp.or IntKind.u32 (bits BinOp.or IntKind.u32 t2 (shl IntKind.u32 (wrap64 (wrap64 (x1 + x2) + t0) % 4294967296) x2)) (bits BinOp.and IntKind.u64 x0 (IntKind.wrap IntKind.u64 (shl IntKind.u64 1 x2 - 1)) % 4294967296), x6, x7, x8, x9, x10)))) else none) else none)) else none)))) else none) := by kernel_rfl
end Go.Proofs.YtolpdiifmacdbaaGreat.L

-- Printed by a program of this session's out of Lean's print of the translation; Lean checks it.
namespace Go.Proofs.YtolpdiifmacdbaaGreat.P
open Go.RowKit Go.Proofs.YtolpdiifmacdbaaGreatW.PrintWords Go.Proofs.YtolpdiifmacdbaaGreatW.PrintLast Go.Proofs.YtolpdiifmacdbaaGreatW.PrintMore
attribute [local go_sem] max2_int min2_int max_two min_two max_three min_three max_four min_four

-- NEED 0
/-! ### aT: function 162 -/
mutual
def aT.j0 : Nat → Bool → Bool → Int → Int → Bool → Bool → Int → Int → Bool → Option (Bool × Int × Int × Bool)
 |0, _, _, _, _, _, _, _, _, _ => none
 |k + 1, x39, x281000, x281001, x281002, x281003, x282000, x282001, x282002, x282003 => if x39 = true then (aT.j1 k x282000 x282001 x282002 x282003 x281000 x281001 x281002 x281003) else (aT.j1 k x281000 x281001 x281002 x281003 x282000 x282001 x282002 x282003)
def aT.j1 : Nat → Bool → Int → Int → Bool → Bool → Int → Int → Bool → Option (Bool × Int × Int × Bool)
 |0, _, _, _, _, _, _, _, _ => none
 |k + 1, x281000, x281001, x281002, x281003, x282000, x282001, x282002, x282003 => (aU.f k x282002 (wrap64 (x281001 - x282001))).bind fun bt291 => (if (x281000 == x282000) = true then (some (x281000, x281001, IntKind.u64.wrap (x281002 + bt291.1), bt291.2)) else (if bt291.2 = true then (aT.j2 k x281000 x281001 (IntKind.u64.wrap ((IntKind.u64.wrap (x281002 - bt291.1)) - 1)) bt291.2) else (aT.j2 k x281000 x281001 (IntKind.u64.wrap (x281002 - bt291.1)) bt291.2)))
def aT.j2 : Nat → Bool → Int → Int → Bool → Option (Bool × Int × Int × Bool)
 |0, _, _, _, _ => none
 |k + 1, x281000, x281001, x281002, x281003 => some (x281000, x281001, x281002, x281003)
end
def aT.f (k : Nat) (a0_0 : Bool) (a0_1 a0_2 : Int) (a0_3 a1_0 : Bool) (a1_1 a1_2 : Int) (a1_3 : Bool) : Option (Bool × Int × Int × Bool) := if a0_2 = 0 then (some (a1_0, a1_1, a1_2, a1_3)) else (if a1_2 = 0 then (some (a0_0, a0_1, a0_2, a0_3)) else ((eD.f k a0_0 a0_1 a0_2 a0_3).bind fun bt283 => ((eD.f k a1_0 a1_1 a1_2 a1_3).bind fun bt287 => (if bt283.2.1 < bt287.2.1 then (aT.j0 k true bt283.1 bt283.2.1 bt283.2.2.1 bt283.2.2.2 bt287.1 bt287.2.1 bt287.2.2.1 bt287.2.2.2) else (if bt283.2.1 = bt287.2.1 then (aT.j0 k (decide (bt283.2.2.1 < bt287.2.2.1)) bt283.1 bt283.2.1 bt283.2.2.1 bt283.2.2.2 bt287.1 bt287.2.1 bt287.2.2.1 bt287.2.2.2) else (aT.j0 k false bt283.1 bt283.2.1 bt283.2.2.1 bt283.2.2.2 bt287.1 bt287.2.1 bt287.2.2.1 bt287.2.2.2))))))
-- NEED 0
/-! ### fB: function 163 -/
def fB.f (a0 a1 : Int) (a2 a3 : Bool) : Option (Int) := if (a2 == a3) = true then ((dN.f a0 a2).bind fun t293 => (some t293)) else ((dN.f a0 (a1 == 3)).bind fun t294 => (some t294))
theorem fB.calls (a0 a1 : Int) (a2 a3 : Bool) (r : Int) (w : World) (h : fB.f a0 a1 a2 a3 = some r) :
  Calls Tryz.prog 163 #[.int .i64 a0, .int .i64 a1, .bool a2, .bool a3] w fun e w' => e = .returned (.int .u32 r) ∧ Drawn0 w w' := by
 have H : (if (a2 == a3) = true then ((dN.f a0 a2).bind fun t293 => (some t293)) else ((dN.f a0 (a1 == 3)).bind fun t294 => (some t294))) = some r := h
 clear h
 by_cases c5 : (a2 == a3) = true
 ·rw [if_pos c5] at H
  have c5b0 : (a2 == a3) = true := c5
  (try (have c5b1 : decide (a2 = a3) = true := by simpa using c5))
  (try (have c5b2 : (a2 == a3) = true := by simpa using c5))
  clear c5
  replace H := bq_ H
  obtain ⟨t293, A60, H⟩ := H
  replace H : (some t293) = some r := H
  have A6 := Aside0.mk A60
  clear A60
  obtain rfl := Option.some.inj H
  go_enter Tryz.func163, Tryz.ntmps163
  go_wp2_with (first | ((with_reducible refine gate_callee (f := 139) rfl ?_); refine goesL_ (some 14) rfl rfl Tryz.func139 (by kernel_rfl) rfl #[.int .i64 a0, .bool a2] rfl gl ?_; (with_reducible refine (dN.calls a0 a2 t293 _ A6.out).mono ?_); rintro e w' ⟨rfl, ⟨nd, rfl⟩⟩; refine ⟨_, rfl, ?_⟩))
  go_ret
  exact ⟨gr_, gd_⟩
 ·rw [if_neg c5] at H
  have c5b0 : (a2 == a3) = false := by simpa using c5
  (try (have c5b1 : decide (a2 = a3) = false := by simpa using c5))
  (try (have c5b2 : (a2 == a3) = false := by simpa using c5))
  (try (have c5b3 : ¬ (a2 = a3) := by simpa using c5))
  clear c5
  replace H := bq_ H
  obtain ⟨t294, A70, H⟩ := H
  replace H : (some t294) = some r := H
  have A7 := Aside0.mk A70
  clear A70
  obtain rfl := Option.some.inj H
  go_enter Tryz.func163, Tryz.ntmps163
  go_wp2_with (first | ((with_reducible refine gate_callee (f := 139) rfl ?_); refine goesL_ (some 18) rfl rfl Tryz.func139 (by kernel_rfl) rfl #[.int .i64 a0, .bool (a1 == 3)] rfl gl ?_; (with_reducible refine (dN.calls a0 (a1 == 3) t294 _ A7.out).mono ?_); rintro e w' ⟨rfl, ⟨nd, rfl⟩⟩; refine ⟨_, rfl, ?_⟩))
  go_ret
  exact ⟨gr_, gd_⟩


-- NEED 0
/-! ### aA: function 97 -/
mutual
def aA.j0 : Nat → Int → Int → Bool → Int → Int → Bool → Bool → Option (Int × Bool × Bool × Bool × Bool × Bool)
 |0, _, _, _, _, _, _, _ => none
 |k + 1, x0, x1, x2, x3, x4, x5, x35 => if x35 = true then ((aZ.f x0 x2).bind fun t605 => (some (t605, false, false, false, false, false))) else ((aD.f x0).bind fun bt606 => ((bB.f x0).bind fun t608 => ((aR.f k x4).bind fun t609 => (if x4 = 0 then (aA.j1 k x0 x1 x2 x3 x4 x5 bt606.2 (wrap64 (1 - t608)) (-20000)) else (aA.j1 k x0 x1 x2 x3 x4 x5 bt606.2 (wrap64 (1 - t608)) (wrap64 ((wrap64 (x3 + t609)) - 1)))))))
def aA.j1 : Nat → Int → Int → Bool → Int → Int → Bool → Int → Int → Int → Option (Int × Bool × Bool × Bool × Bool × Bool)
 |0, _, _, _, _, _, _, _, _, _ => none
 |k + 1, x0, x1, x2, x3, x4, x5, x15, x16, x17 => (bD.f k x4 (wrap64 ((wrap64 ((mx x17 x16) - x15)) - x3))).bind fun bt610 => (if bt610.2.2 = true then (aA.j2 k x0 x1 x2 x15 x16 x17 (wrap64 ((mx x17 x16) - x15)) bt610.1 bt610.2.1 true) else (aA.j2 k x0 x1 x2 x15 x16 x17 (wrap64 ((mx x17 x16) - x15)) bt610.1 bt610.2.1 x5))
def aA.j2 : Nat → Int → Int → Bool → Int → Int → Int → Int → Int → Bool → Bool → Option (Int × Bool × Bool × Bool × Bool × Bool)
 |0, _, _, _, _, _, _, _, _, _, _ => none
 |k + 1, x0, x1, x2, x15, x16, x17, x18, x19, x20, x21 => if x20 = true then (aA.j3 k x0 x1 x2 x15 x16 x17 x18 x19 x20 x21 true) else (aA.j3 k x0 x1 x2 x15 x16 x17 x18 x19 x20 x21 x21)
def aA.j3 : Nat → Int → Int → Bool → Int → Int → Int → Int → Int → Bool → Bool → Bool → Option (Int × Bool × Bool × Bool × Bool × Bool)
 |0, _, _, _, _, _, _, _, _, _, _, _ => none
 |k + 1, x0, x1, x2, x15, x16, x17, x18, x19, x20, x21, x22 => (eB.f x1 x2 ((Go.bits .and .u64 x19 1) == 1) x20 x21).bind fun t613 => (if t613 = true then (aA.j4 k x0 x1 x2 x15 x16 x17 x18 (IntKind.u64.wrap (x19 + 1)) x22) else (aA.j4 k x0 x1 x2 x15 x16 x17 x18 x19 x22))
def aA.j4 : Nat → Int → Int → Bool → Int → Int → Int → Int → Int → Bool → Option (Int × Bool × Bool × Bool × Bool × Bool)
 |0, _, _, _, _, _, _, _, _, _ => none
 |k + 1, x0, x1, x2, x15, x16, x17, x18, x19, x22 => if x22 = true then (if 0 ≤ (wrap64 (x15 + 1)) then (if x19 = (shl .u64 1 (wrap64 (x15 + 1))) then (aA.j5 k x0 x1 x2 x15 (wrap64 (x18 + 1)) (x19 / 2) false false false (decide (x17 < x16)) x22) else (aA.j5 k x0 x1 x2 x15 x18 x19 false false false (decide (x17 < x16)) x22)) else (none)) else (if 0 ≤ (wrap64 (x15 + 1)) then (if x19 = (shl .u64 1 (wrap64 (x15 + 1))) then (aA.j6 k x0 x1 x2 x15 (wrap64 (x18 + 1)) (x19 / 2) false false false false x22) else (aA.j6 k x0 x1 x2 x15 x18 x19 false false false false x22)) else (none))
def aA.j5 : Nat → Int → Int → Bool → Int → Int → Int → Bool → Bool → Bool → Bool → Bool → Option (Int × Bool × Bool × Bool × Bool × Bool)
 |0, _, _, _, _, _, _, _, _, _, _, _ => none
 |k + 1, x0, x1, x2, x15, x18, x19, x615000, x615001, x615002, x615003, x615004 => if 0 ≤ x15 then (if x19 < (shl .u64 1 x15) then ((bW.f x0 x2).bind fun t615 => (some (Go.bits .or .u32 t615 ((x19) % 4294967296), x615000, x615001, x615002, x615003, x615004))) else ((bB.f x0).bind fun t616 => ((aD.f x0).bind fun bt617 => (if 0 ≤ bt617.1 then (if (wrap64 ((wrap64 (x18 + x15)) + t616)) ≥ (wrap64 ((shl .i64 1 bt617.1) - 1)) then ((aM.f k x0 x1 x2).bind fun t619 => (some (t619, false, false, true, false, true))) else ((bW.f x0 x2).bind fun t620 => (some (Go.bits .or .u32 (Go.bits .or .u32 t620 (shl .u32 ((wrap64 ((wrap64 (x18 + x15)) + t616)) % 4294967296) x15)) ((Go.bits .and .u64 x19 (IntKind.u64.wrap ((shl .u64 1 x15) - 1))) % 4294967296), x615000, x615001, x615002, x615003, x615004)))) else (none))))) else (none)
def aA.j6 : Nat → Int → Int → Bool → Int → Int → Int → Bool → Bool → Bool → Bool → Bool → Option (Int × Bool × Bool × Bool × Bool × Bool)
 |0, _, _, _, _, _, _, _, _, _, _, _ => none
 |k + 1, x0, x1, x2, x15, x18, x19, x622000, x622001, x622002, x622003, x622004 => if 0 ≤ x15 then (if x19 < (shl .u64 1 x15) then ((bW.f x0 x2).bind fun t622 => (some (Go.bits .or .u32 t622 ((x19) % 4294967296), x622000, x622001, x622002, x622003, x622004))) else ((bB.f x0).bind fun t623 => ((aD.f x0).bind fun bt624 => (if 0 ≤ bt624.1 then (if (wrap64 ((wrap64 (x18 + x15)) + t623)) ≥ (wrap64 ((shl .i64 1 bt624.1) - 1)) then ((aM.f k x0 x1 x2).bind fun t626 => (some (t626, false, false, true, false, true))) else ((bW.f x0 x2).bind fun t627 => (some (Go.bits .or .u32 (Go.bits .or .u32 t627 (shl .u32 ((wrap64 ((wrap64 (x18 + x15)) + t623)) % 4294967296) x15)) ((Go.bits .and .u64 x19 (IntKind.u64.wrap ((shl .u64 1 x15) - 1))) % 4294967296), x622000, x622001, x622002, x622003, x622004)))) else (none))))) else (none)
end
def aA.f (k : Nat) (a0 a1 : Int) (a2 : Bool) (a3 a4 : Int) (a5 : Bool) : Option (Int × Bool × Bool × Bool × Bool × Bool) := if a4 = 0 then (aA.j0 k a0 a1 a2 (mn (mx a3 (-10000)) 10000) a4 a5 (!a5)) else (aA.j0 k a0 a1 a2 (mn (mx a3 (-10000)) 10000) a4 a5 false)
-- NOT PRINTED: function 130 (aK)

-- NOT PRINTED: function 93 (dB)

-- NOT PRINTED: function 94 (bY)

/- What the reckoner tells of printed functions. -/
set_option maxRecDepth 100000
set_option maxHeartbeats 4000000 in
theorem bR.le {k n : Nat} (hk : k ≤ n) {a0 a1 : Int} {a2 : Bool} : LeO (bR.f a0 a1 a2) (L.bR.f n a0 a1 a2) := by
 unfold bR.f
 rw [L.bR.eq]
 try simp only [Bool.and_true]
 repeat' first
  |(with_reducible exact LeO.refl _)
  |exact LeO.none _
  |(with_reducible first|refine LeO.bind ?_ (fun _ => ?_)|refine LeO.iI Iff.rfl (fun _ => ?_) (fun _ => ?_))
  |exact LeO.refl _
  |(with_reducible first|refine LeO.pos (by assumption) ?_|refine LeO.neg (by assumption) ?_|refine LeO.mY (by assumption) ?_|refine LeO.mZ (by assumption) ?_|refine LeO.iI (by omega) (fun _ => ?_) (fun _ => ?_))
theorem aT.iV {k n : Nat} (hk : k ≤ n) {x281000 : Bool} {x281001 x281002 : Int} {x281003 ex0 : Bool} {ex1 ex2 : Int} {ex3 : Bool} : LeO (aT.j2 k x281000 x281001 x281002 x281003) (L.aT.j16 n ex0 ex1 ex2 ex3 x281000 x281001 x281002 x281003) := by
 cases k with
 |zero => rw [aT.j2]; exact LeO.none _
 |succ k =>
 replace hk := Nat.le_of_succ_le hk
 rw [aT.j2, L.aT.j16_eq]
 repeat' first
  |(with_reducible exact LeO.refl _)
  |exact LeO.none _
  |(with_reducible first|exact fun r h => at_rounds (eD.mono _ _ _ _) hk h|exact fun r h => at_rounds (aU.mono _ _) hk h|refine LeO.bind ?_ (fun _ => ?_)|refine LeO.iI Iff.rfl (fun _ => ?_) (fun _ => ?_))
  |exact fun r h => at_rounds (eD.mono _ _ _ _) hk h
  |exact fun r h => at_rounds (aU.mono _ _) hk h
  |exact LeO.refl _
  |(with_reducible first|refine LeO.pos (by assumption) ?_|refine LeO.neg (by assumption) ?_|refine LeO.mY (by assumption) ?_|refine LeO.mZ (by assumption) ?_|refine LeO.iI (by omega) (fun _ => ?_) (fun _ => ?_))
theorem aT.jR {k n : Nat} (hk : k ≤ n) {x281000 : Bool} {x281001 x281002 : Int} {x281003 x282000 : Bool} {x282001 x282002 : Int} {x282003 ex0 : Bool} {ex1 ex2 : Int} {ex3 : Bool} : LeO (aT.j1 k x281000 x281001 x281002 x281003 x282000 x282001 x282002 x282003) (L.aT.j8 n ex0 ex1 ex2 ex3 x282000 x282001 x282002 x282003 x281000 x281001 x281002 x281003) := by
 cases k with
 |zero => rw [aT.j1]; exact LeO.none _
 |succ k =>
 replace hk := Nat.le_of_succ_le hk
 rw [aT.j1, L.aT.j8_eq]
 repeat' first
  |(with_reducible exact LeO.refl _)
  |exact LeO.none _
  |(with_reducible first|exact aT.iV hk|exact fun r h => at_rounds (eD.mono _ _ _ _) hk h|exact fun r h => at_rounds (aU.mono _ _) hk h|refine LeO.bind ?_ (fun _ => ?_)|refine LeO.iI Iff.rfl (fun _ => ?_) (fun _ => ?_))
  |exact aT.iV hk
  |exact fun r h => at_rounds (eD.mono _ _ _ _) hk h
  |exact fun r h => at_rounds (aU.mono _ _) hk h
  |exact LeO.refl _
  |(with_reducible first|refine LeO.pos (by assumption) ?_|refine LeO.neg (by assumption) ?_|refine LeO.mY (by assumption) ?_|refine LeO.mZ (by assumption) ?_|refine LeO.iI (by omega) (fun _ => ?_) (fun _ => ?_))
theorem aT.mF {k n : Nat} (hk : k ≤ n) {x39 x281000 : Bool} {x281001 x281002 : Int} {x281003 x282000 : Bool} {x282001 x282002 : Int} {x282003 ex1 : Bool} {ex2 ex3 : Int} {ex4 : Bool} : LeO (aT.j0 k x39 x281000 x281001 x281002 x281003 x282000 x282001 x282002 x282003) (L.aT.j7 n x39 ex1 ex2 ex3 ex4 x282000 x282001 x282002 x282003 x281000 x281001 x281002 x281003) := by
 cases k with
 |zero => rw [aT.j0]; exact LeO.none _
 |succ k =>
 replace hk := Nat.le_of_succ_le hk
 rw [aT.j0, L.aT.j7_eq]
 repeat' first
  |(with_reducible exact LeO.refl _)
  |exact LeO.none _
  |(with_reducible first|exact aT.iV hk|exact aT.jR hk|exact fun r h => at_rounds (eD.mono _ _ _ _) hk h|exact fun r h => at_rounds (aU.mono _ _) hk h|refine LeO.bind ?_ (fun _ => ?_)|refine LeO.iI Iff.rfl (fun _ => ?_) (fun _ => ?_))
  |exact aT.iV hk
  |exact aT.jR hk
  |exact fun r h => at_rounds (eD.mono _ _ _ _) hk h
  |exact fun r h => at_rounds (aU.mono _ _) hk h
  |exact LeO.refl _
  |(with_reducible first|refine LeO.pos (by assumption) ?_|refine LeO.neg (by assumption) ?_|refine LeO.mY (by assumption) ?_|refine LeO.mZ (by assumption) ?_|refine LeO.iI (by omega) (fun _ => ?_) (fun _ => ?_))
set_option maxHeartbeats 4000000 in
theorem aT.le {k n : Nat} (hk : k ≤ n) {a0_0 : Bool} {a0_1 a0_2 : Int} {a0_3 a1_0 : Bool} {a1_1 a1_2 : Int} {a1_3 : Bool} : LeO (aT.f k a0_0 a0_1 a0_2 a0_3 a1_0 a1_1 a1_2 a1_3) (L.aT.f n a0_0 a0_1 a0_2 a0_3 a1_0 a1_1 a1_2 a1_3) := by
 unfold aT.f
 rw [L.aT.eq]
 try simp only [Bool.and_true]
 repeat' first
  |(with_reducible exact LeO.refl _)
  |exact LeO.none _
  |(with_reducible first|exact aT.iV hk|exact aT.jR hk|exact aT.mF hk|exact fun r h => at_rounds (eD.mono _ _ _ _) hk h|exact fun r h => at_rounds (aU.mono _ _) hk h|refine LeO.bind ?_ (fun _ => ?_)|refine LeO.iI Iff.rfl (fun _ => ?_) (fun _ => ?_))
  |exact aT.iV hk
  |exact aT.jR hk
  |exact aT.mF hk
  |exact fun r h => at_rounds (eD.mono _ _ _ _) hk h
  |exact fun r h => at_rounds (aU.mono _ _) hk h
  |exact LeO.refl _
  |(with_reducible first|refine LeO.pos (by assumption) ?_|refine LeO.neg (by assumption) ?_|refine LeO.mY (by assumption) ?_|refine LeO.mZ (by assumption) ?_|refine LeO.iI (by omega) (fun _ => ?_) (fun _ => ?_))
set_option maxHeartbeats 4000000 in
theorem bP.le {k n : Nat} (hk : k ≤ n) {a0 a1 : Int} : LeO (bP.f a0 a1) (L.bP.f n a0 a1) := by
 unfold bP.f
 rw [L.bP.eq]
 try simp only [Bool.and_true]
 repeat' first
  |(with_reducible exact LeO.refl _)
  |exact LeO.none _
  |(with_reducible first|refine LeO.bind ?_ (fun _ => ?_)|refine LeO.iI Iff.rfl (fun _ => ?_) (fun _ => ?_))
  |exact LeO.refl _
  |(with_reducible first|refine LeO.pos (by assumption) ?_|refine LeO.neg (by assumption) ?_|refine LeO.mY (by assumption) ?_|refine LeO.mZ (by assumption) ?_|refine LeO.iI (by omega) (fun _ => ?_) (fun _ => ?_))
theorem bP.calls (a0 a1 r : Int) (w : World) (h : bP.f a0 a1 = some r) :
  Calls Tryz.prog 85 #[.int .i64 a0, .int .u32 a1] w fun e w' => e = .returned (.int .u32 r) ∧ Below w.heap.size w w' :=
 Go.Proofs.YtolpdiifmacdbaaGreat.Ek.kI L.bP.ok 0 ((a0, ()), (a1, ()), ()) r rfl (bP.le (Nat.le_refl _) _ h) w
theorem aA.nT {k n : Nat} (hk : k ≤ n) {x0 x1 : Int} {x2 : Bool} {x15 x18 x19 : Int} {x622000 x622001 : Bool} {x622002 x622003 : Bool} {x622004 ex11 : Bool} {ex12 ex13 : Bool} {ex14 ex15 : Bool} : LeO (aA.j6 k x0 x1 x2 x15 x18 x19 x622000 x622001 x622002 x622003 x622004) (L.aA.j18 n x19 x18 x15 x2 x1 x0 x622000 x622001 x622002 x622003 x622004 ex11 ex12 ex13 ex14 ex15) := by
 cases k with
 |zero => rw [aA.j6]; exact LeO.none _
 |succ k =>
 replace hk := Nat.le_of_succ_le hk
 rw [aA.j6, L.aA.j18_eq]
 repeat' first
  |(with_reducible exact LeO.refl _)
  |exact LeO.none _
  |(with_reducible first|exact fun r h => at_rounds (aR.mono _) hk h|exact fun r h => at_rounds (bD.mono _ _) hk h|exact fun r h => at_rounds (aM.mono _ _ _) hk h|refine LeO.bind ?_ (fun _ => ?_)|refine LeO.iI Iff.rfl (fun _ => ?_) (fun _ => ?_))
  |exact fun r h => at_rounds (aR.mono _) hk h
  |exact fun r h => at_rounds (bD.mono _ _) hk h
  |exact fun r h => at_rounds (aM.mono _ _ _) hk h
  |exact LeO.refl _
  |(with_reducible first|refine LeO.pos (by assumption) ?_|refine LeO.neg (by assumption) ?_|refine LeO.mY (by assumption) ?_|refine LeO.mZ (by assumption) ?_|refine LeO.iI (by omega) (fun _ => ?_) (fun _ => ?_))
theorem aA.pG {k n : Nat} (hk : k ≤ n) {x0 x1 : Int} {x2 : Bool} {x15 x18 x19 : Int} {x615000 x615001 : Bool} {x615002 x615003 : Bool} {x615004 ex11 : Bool} {ex12 ex13 : Bool} {ex14 ex15 : Bool} : LeO (aA.j5 k x0 x1 x2 x15 x18 x19 x615000 x615001 x615002 x615003 x615004) (L.aA.j18 n x19 x18 x15 x2 x1 x0 x615000 x615001 x615002 x615003 x615004 ex11 ex12 ex13 ex14 ex15) := by
 cases k with
 |zero => rw [aA.j5]; exact LeO.none _
 |succ k =>
 replace hk := Nat.le_of_succ_le hk
 rw [aA.j5, L.aA.j18_eq]
 repeat' first
  |(with_reducible exact LeO.refl _)
  |exact LeO.none _
  |(with_reducible first|exact aA.nT hk|exact fun r h => at_rounds (aR.mono _) hk h|exact fun r h => at_rounds (bD.mono _ _) hk h|exact fun r h => at_rounds (aM.mono _ _ _) hk h|refine LeO.bind ?_ (fun _ => ?_)|refine LeO.iI Iff.rfl (fun _ => ?_) (fun _ => ?_))
  |exact aA.nT hk
  |exact fun r h => at_rounds (aR.mono _) hk h
  |exact fun r h => at_rounds (bD.mono _ _) hk h
  |exact fun r h => at_rounds (aM.mono _ _ _) hk h
  |exact LeO.refl _
  |(with_reducible first|refine LeO.pos (by assumption) ?_|refine LeO.neg (by assumption) ?_|refine LeO.mY (by assumption) ?_|refine LeO.mZ (by assumption) ?_|refine LeO.iI (by omega) (fun _ => ?_) (fun _ => ?_))
theorem aA.sG {k n : Nat} (hk : k ≤ n) {x0 x1 : Int} {x2 : Bool} {x15 x16 : Int} {x17 x18 x19 : Int} {x22 ex9 : Bool} {ex10 ex11 : Bool} {ex12 ex13 : Bool} : LeO (aA.j4 k x0 x1 x2 x15 x16 x17 x18 x19 x22) (L.aA.j15 n x22 x19 x18 x17 x16 x15 x2 x1 x0 ex9 ex10 ex11 ex12 ex13) := by
 cases k with
 |zero => rw [aA.j4]; exact LeO.none _
 |succ k =>
 replace hk := Nat.le_of_succ_le hk
 rw [aA.j4, L.aA.aAD]
 repeat' first
  |(with_reducible exact LeO.refl _)
  |exact LeO.none _
  |(with_reducible first|exact aA.nT hk|exact aA.pG hk|exact fun r h => at_rounds (aR.mono _) hk h|exact fun r h => at_rounds (bD.mono _ _) hk h|exact fun r h => at_rounds (aM.mono _ _ _) hk h|refine LeO.bind ?_ (fun _ => ?_)|refine LeO.iI Iff.rfl (fun _ => ?_) (fun _ => ?_))
  |exact aA.nT hk
  |exact aA.pG hk
  |exact fun r h => at_rounds (aR.mono _) hk h
  |exact fun r h => at_rounds (bD.mono _ _) hk h
  |exact fun r h => at_rounds (aM.mono _ _ _) hk h
  |exact LeO.refl _
  |(with_reducible first|refine LeO.pos (by assumption) ?_|refine LeO.neg (by assumption) ?_|refine LeO.mY (by assumption) ?_|refine LeO.mZ (by assumption) ?_|refine LeO.iI (by omega) (fun _ => ?_) (fun _ => ?_))
theorem aA.mD {k n : Nat} (hk : k ≤ n) {x0 x1 : Int} {x2 : Bool} {x15 x16 : Int} {x17 x18 x19 : Int} {x20 x21 : Bool} {x22 ex11 : Bool} {ex12 ex13 : Bool} {ex14 ex15 : Bool} : LeO (aA.j3 k x0 x1 x2 x15 x16 x17 x18 x19 x20 x21 x22) (L.aA.j13 n x22 x21 x20 x19 x18 x17 x16 x15 x2 x1 x0 ex11 ex12 ex13 ex14 ex15) := by
 cases k with
 |zero => rw [aA.j3]; exact LeO.none _
 |succ k =>
 replace hk := Nat.le_of_succ_le hk
 rw [aA.j3, L.aA.j13_eq]
 repeat' first
  |(with_reducible exact LeO.refl _)
  |exact LeO.none _
  |(with_reducible first|exact aA.nT hk|exact aA.pG hk|exact aA.sG hk|exact fun r h => at_rounds (aR.mono _) hk h|exact fun r h => at_rounds (bD.mono _ _) hk h|exact fun r h => at_rounds (aM.mono _ _ _) hk h|refine LeO.bind ?_ (fun _ => ?_)|refine LeO.iI Iff.rfl (fun _ => ?_) (fun _ => ?_))
  |exact aA.nT hk
  |exact aA.pG hk
  |exact aA.sG hk
  |exact fun r h => at_rounds (aR.mono _) hk h
  |exact fun r h => at_rounds (bD.mono _ _) hk h
  |exact fun r h => at_rounds (aM.mono _ _ _) hk h
  |exact LeO.refl _
  |(with_reducible first|refine LeO.pos (by assumption) ?_|refine LeO.neg (by assumption) ?_|refine LeO.mY (by assumption) ?_|refine LeO.mZ (by assumption) ?_|refine LeO.iI (by omega) (fun _ => ?_) (fun _ => ?_))
theorem aA.iV {k n : Nat} (hk : k ≤ n) {x0 x1 : Int} {x2 : Bool} {x15 x16 : Int} {x17 x18 x19 : Int} {x20 x21 : Bool} {ex10 ex11 : Bool} {ex12 ex13 ex14 : Bool} : LeO (aA.j2 k x0 x1 x2 x15 x16 x17 x18 x19 x20 x21) (L.aA.j12 n x21 x20 x19 x18 x17 x16 x15 x2 x1 x0 ex10 ex11 ex12 ex13 ex14) := by
 cases k with
 |zero => rw [aA.j2]; exact LeO.none _
 |succ k =>
 replace hk := Nat.le_of_succ_le hk
 rw [aA.j2, L.aA.j12_eq]
 repeat' first
  |(with_reducible exact LeO.refl _)
  |exact LeO.none _
  |(with_reducible first|exact aA.nT hk|exact aA.pG hk|exact aA.sG hk|exact aA.mD hk|exact fun r h => at_rounds (aR.mono _) hk h|exact fun r h => at_rounds (bD.mono _ _) hk h|exact fun r h => at_rounds (aM.mono _ _ _) hk h|refine LeO.bind ?_ (fun _ => ?_)|refine LeO.iI Iff.rfl (fun _ => ?_) (fun _ => ?_))
  |exact aA.nT hk
  |exact aA.pG hk
  |exact aA.sG hk
  |exact aA.mD hk
  |exact fun r h => at_rounds (aR.mono _) hk h
  |exact fun r h => at_rounds (bD.mono _ _) hk h
  |exact fun r h => at_rounds (aM.mono _ _ _) hk h
  |exact LeO.refl _
  |(with_reducible first|refine LeO.pos (by assumption) ?_|refine LeO.neg (by assumption) ?_|refine LeO.mY (by assumption) ?_|refine LeO.mZ (by assumption) ?_|refine LeO.iI (by omega) (fun _ => ?_) (fun _ => ?_))
theorem aA.jR {k n : Nat} (hk : k ≤ n) {x0 x1 : Int} {x2 : Bool} {x3 x4 : Int} {x5 : Bool} {x15 x16 x17 : Int} {ex9 ex10 : Bool} {ex11 ex12 ex13 : Bool} : LeO (aA.j1 k x0 x1 x2 x3 x4 x5 x15 x16 x17) (L.aA.j9 n x17 x16 x15 x5 x4 x3 x2 x1 x0 ex9 ex10 ex11 ex12 ex13) := by
 cases k with
 |zero => rw [aA.j1]; exact LeO.none _
 |succ k =>
 replace hk := Nat.le_of_succ_le hk
 rw [aA.j1, L.aA.j9_eq]
 repeat' first
  |(with_reducible exact LeO.refl _)
  |exact LeO.none _
  |(with_reducible first|exact aA.nT hk|exact aA.pG hk|exact aA.sG hk|exact aA.mD hk|exact aA.iV hk|exact fun r h => at_rounds (aR.mono _) hk h|exact fun r h => at_rounds (bD.mono _ _) hk h|exact fun r h => at_rounds (aM.mono _ _ _) hk h|refine LeO.bind ?_ (fun _ => ?_)|refine LeO.iI Iff.rfl (fun _ => ?_) (fun _ => ?_))
  |exact aA.nT hk
  |exact aA.pG hk
  |exact aA.sG hk
  |exact aA.mD hk
  |exact aA.iV hk
  |exact fun r h => at_rounds (aR.mono _) hk h
  |exact fun r h => at_rounds (bD.mono _ _) hk h
  |exact fun r h => at_rounds (aM.mono _ _ _) hk h
  |exact LeO.refl _
  |(with_reducible first|refine LeO.pos (by assumption) ?_|refine LeO.neg (by assumption) ?_|refine LeO.mY (by assumption) ?_|refine LeO.mZ (by assumption) ?_|refine LeO.iI (by omega) (fun _ => ?_) (fun _ => ?_))
theorem aA.mF {k n : Nat} (hk : k ≤ n) {x0 x1 : Int} {x2 : Bool} {x3 x4 : Int} {x5 x35 : Bool} {ex7 ex8 : Bool} {ex9 ex10 ex11 : Bool} : LeO (aA.j0 k x0 x1 x2 x3 x4 x5 x35) (L.aA.j3 n x35 x5 x4 x3 x2 x1 x0 ex7 ex8 ex9 ex10 ex11) := by
 cases k with
 |zero => rw [aA.j0]; exact LeO.none _
 |succ k =>
 replace hk := Nat.le_of_succ_le hk
 rw [aA.j0, L.aA.j3_eq]
 repeat' first
  |(with_reducible exact LeO.refl _)
  |exact LeO.none _
  |(with_reducible first|exact aA.nT hk|exact aA.pG hk|exact aA.sG hk|exact aA.mD hk|exact aA.iV hk|exact aA.jR hk|exact fun r h => at_rounds (aR.mono _) hk h|exact fun r h => at_rounds (bD.mono _ _) hk h|exact fun r h => at_rounds (aM.mono _ _ _) hk h|refine LeO.bind ?_ (fun _ => ?_)|refine LeO.iI Iff.rfl (fun _ => ?_) (fun _ => ?_))
  |exact aA.nT hk
  |exact aA.pG hk
  |exact aA.sG hk
  |exact aA.mD hk
  |exact aA.iV hk
  |exact aA.jR hk
  |exact fun r h => at_rounds (aR.mono _) hk h
  |exact fun r h => at_rounds (bD.mono _ _) hk h
  |exact fun r h => at_rounds (aM.mono _ _ _) hk h
  |exact LeO.refl _
  |(with_reducible first|refine LeO.pos (by assumption) ?_|refine LeO.neg (by assumption) ?_|refine LeO.mY (by assumption) ?_|refine LeO.mZ (by assumption) ?_|refine LeO.iI (by omega) (fun _ => ?_) (fun _ => ?_))
set_option maxHeartbeats 4000000 in
theorem aA.le {k n : Nat} (hk : k ≤ n) {a0 a1 : Int} {a2 : Bool} {a3 a4 : Int} {a5 : Bool} : LeO (aA.f k a0 a1 a2 a3 a4 a5) (L.aA.f n a0 a1 a2 a3 a4 a5) := by
 unfold aA.f
 rw [L.aA.eq]
 try simp only [Bool.and_true]
 repeat' first
  |(with_reducible exact LeO.refl _)
  |exact LeO.none _
  |(with_reducible first|exact aA.nT hk|exact aA.pG hk|exact aA.sG hk|exact aA.mD hk|exact aA.iV hk|exact aA.jR hk|exact aA.mF hk|exact fun r h => at_rounds (aR.mono _) hk h|exact fun r h => at_rounds (bD.mono _ _) hk h|exact fun r h => at_rounds (aM.mono _ _ _) hk h|refine LeO.bind ?_ (fun _ => ?_)|refine LeO.iI Iff.rfl (fun _ => ?_) (fun _ => ?_))
  |exact aA.nT hk
  |exact aA.pG hk
  |exact aA.sG hk
  |exact aA.mD hk
  |exact aA.iV hk
  |exact aA.jR hk
  |exact aA.mF hk
  |exact fun r h => at_rounds (aR.mono _) hk h
  |exact fun r h => at_rounds (bD.mono _ _) hk h
  |exact fun r h => at_rounds (aM.mono _ _ _) hk h
  |exact LeO.refl _
  |(with_reducible first|refine LeO.pos (by assumption) ?_|refine LeO.neg (by assumption) ?_|refine LeO.mY (by assumption) ?_|refine LeO.mZ (by assumption) ?_|refine LeO.iI (by omega) (fun _ => ?_) (fun _ => ?_))
theorem aA.calls (k : Nat) (a0 a1 : Int) (a2 : Bool) (a3 a4 : Int) (a5 : Bool) (r1 : Int) (r2 r3 : Bool) (r4 r5 r6 : Bool) (w : World) (h : aA.f k a0 a1 a2 a3 a4 a5 = some (r1, r2, r3, r4, r5, r6)) :
  Calls Tryz.prog 97 #[.int .i64 a0, .int .i64 a1, .bool a2, .int .i64 a3, .int .u64 a4, .bool a5] w fun e w' => e = .returned (.tuple #[.int .u32 r1, .agg #[.bool r2, .bool r3, .bool r4, .bool r5, .bool r6]]) ∧ Below w.heap.size w w' :=
 Go.Proofs.YtolpdiifmacdbaaGreat.Ek.kI L.aA.ok k ((a0, ()), (a1, ()), (a2, ()), (a3, ()), (a4, ()), (a5, ()), ()) (r1, r2, r3, r4, r5, r6) rfl (aA.le (Nat.le_refl _) _ h) w
end Go.Proofs.YtolpdiifmacdbaaGreat.P

/- Entries of functions. -/
namespace Go.Proofs.YtolpdiifmacdbaaGreat.E
open Go.RowKit Go.Proofs.YtolpdiifmacdbaaGreat.P Go.Proofs.YtolpdiifmacdbaaGreat.Ek Go.Proofs.YtolpdiifmacdbaaGreatW.PrintWords Go.Proofs.YtolpdiifmacdbaaGreatW.PrintLast Go.Proofs.YtolpdiifmacdbaaGreatW.PrintMore
noncomputable def aI.c : Fc := mkFcA [.s (hI .i64), .sl .u32] [hB, hB] (T := Bool × Bool) (fun y => ((y.1, ()), (y.2, ()), ())) fun n x => aI.f n x.1.1 x.2.1
theorem aI.ok : gI Tryz.prog 77 aI.c := xU Tryz.func77 (by kernel_rfl) (by kernel_rfl) (by decide) (fun _ => dJ (by decide) _) fun n x y h m w vs ha => by obtain ⟨q0, e0, ha⟩ := ha; subst e0; obtain ⟨A1, c1, q1, e1, R1, D1, ha⟩ := ha; subst e1; subst ha; exact (aI.calls n x.1.1 A1 c1 x.2.1 y.1 y.2 w R1 D1 h).mono fun e w' he => ⟨he.1, he.2.below⟩
noncomputable def cK.c : Fc := gT [hI .i64] [hI .u32] (T := Int) (fun y => ((y, ()), ())) fun n x => cK.f x.1.1
theorem cK.ok : gI Tryz.prog 87 cK.c := d9 Tryz.func87 (by kernel_rfl) (by kernel_rfl) (by decide) (fun _ => dJ (by decide) _) fun n x y h m w => (cK.calls x.1.1 y w h).mono fun e w' he => ⟨he.1, he.2.below⟩
noncomputable def bL.c : Fc := gT [hI .i64, hI .u32] [hB] (T := Bool) (fun y => ((y, ()), ())) fun n x => bL.f n x.1.1 x.2.1.1
theorem bL.ok : gI Tryz.prog 86 bL.c := d9 Tryz.func86 (by kernel_rfl) (by kernel_rfl) (by decide) (fun _ => dJ (by decide) _) fun n x y h m w => (bL.calls n x.1.1 x.2.1.1 y w h).mono fun e w' he => ⟨he.1, he.2.below⟩
noncomputable def bU.c : Fc := gT [hI .i64, hI .u32] [hB] (T := Bool) (fun y => ((y, ()), ())) fun n x => bU.f x.1.1 x.2.1.1
theorem bU.ok : gI Tryz.prog 88 bU.c := d9 Tryz.func88 (by kernel_rfl) (by kernel_rfl) (by decide) (fun _ => dJ (by decide) _) fun n x y h m w => (bU.calls x.1.1 x.2.1.1 y w h).mono fun e w' he => ⟨he.1, he.2.below⟩
noncomputable def bM.c : Fc := gT [hI .i64] [hI .u32] (T := Int) (fun y => ((y, ()), ())) fun n x => bM.f x.1.1
theorem bM.ok : gI Tryz.prog 90 bM.c := d9 Tryz.func90 (by kernel_rfl) (by kernel_rfl) (by decide) (fun _ => dJ (by decide) _) fun n x y h m w => (bM.calls x.1.1 y w h).mono fun e w' he => ⟨he.1, he.2.below⟩
noncomputable def bG.c : Fc := gT [hI .i64, hI .u32] [hB] (T := Bool) (fun y => ((y, ()), ())) fun n x => bG.f n x.1.1 x.2.1.1
theorem bG.ok : gI Tryz.prog 78 bG.c := d9 Tryz.func78 (by kernel_rfl) (by kernel_rfl) (by decide) (fun _ => dJ (by decide) _) fun n x y h m w => (bG.calls n x.1.1 x.2.1.1 y w h).mono fun e w' he => ⟨he.1, he.2.below⟩
noncomputable def bE.c : Fc := gT [hI .i64, hI .u32] [hB, hI .i64, hI .u64] (T := Bool × Int × Int) (fun y => ((y.1, ()), (y.2.1, ()), (y.2.2, ()), ())) fun n x => bE.f n x.1.1 x.2.1.1
theorem bE.ok : gI Tryz.prog 92 bE.c := d9 Tryz.func92 (by kernel_rfl) (by kernel_rfl) (by decide) (fun _ => dJ (by decide) _) fun n x y h m w => (bE.calls n x.1.1 x.2.1.1 y.1 y.2.1 y.2.2 w h).mono fun e w' he => ⟨he.1, he.2.below⟩
noncomputable def bY.cls : Cls := []
theorem bY.gU : dG Tryz.prog bY.cls := dG.nil
noncomputable def bY.K (v : SV) : Option (Bool × List Int) := (kT [.agg [.b, .a .u64 10]] v).map (fun z => (z.1.1, z.1.2.1))
noncomputable def bY.cuts : List Nat := []
noncomputable def bY.f (k : Nat) (a0 : Bool) (a1 a2 : Int) : Option (Bool × List Int) := evF Tryz.prog bY.cls Tryz.f94 bY.cuts k [.one (.b (.q a0)), .one (.i .i64 (.x a1)), .one (.i .u64 (.x a2))] bY.K
noncomputable def bY.c : Fc := gT [hB, hI .i64, hI .u64] [.agg [.b, .a .u64 10]] (T := Bool × List Int) (fun y => ((y.1, y.2, ()), ())) fun n x => bY.f n x.1.1 x.2.1.1 x.2.2.1.1
theorem bY.ok : gI Tryz.prog 94 bY.c := uT bY.gU Tryz.func94 (by kernel_rfl) (by kernel_rfl) (by decide) (fun _ => rfl) (fun _ _ => rfl)
noncomputable def bO.cls : Cls := []
theorem bO.gU : dG Tryz.prog bO.cls := dG.nil
noncomputable def bO.K (v : SV) : Option (Bool) := (kT [hB] v).map (fun z => (z.1.1))
noncomputable def bO.cuts : List Nat := []
noncomputable def bO.f (k : Nat) (a0_0 : Bool) (a0_1 : List Int) (a1_0 : Bool) (a1_1 : List Int) : Option (Bool) := evF Tryz.prog bO.cls Tryz.f178 bO.cuts k [.agg [cb a0_0, .a .u64 a0_1 10], .agg [cb a1_0, .a .u64 a1_1 10]] bO.K
noncomputable def bO.c : Fc := gT [.agg [.b, .a .u64 10], .agg [.b, .a .u64 10]] [hB] (T := Bool) (fun y => ((y, ()), ())) fun n x => bO.f n x.1.1 x.1.2.1 x.2.1.1 x.2.1.2.1
theorem bO.ok : gI Tryz.prog 178 bO.c := uT bO.gU Tryz.func178 (by kernel_rfl) (by kernel_rfl) (by decide) (fun _ => rfl) (fun _ _ => rfl)
noncomputable def bF.cls : Cls := [(178, bO.c)]
theorem bF.gU : dG Tryz.prog bF.cls := dG.cons bO.ok (dG.nil)
noncomputable def bF.K (v : SV) : Option (Bool × List Int) := (kT [.agg [.b, .a .u64 10]] v).map (fun z => (z.1.1, z.1.2.1))
noncomputable def bF.cuts : List Nat := []
noncomputable def bF.f (k : Nat) (a0_0 : Bool) (a0_1 : List Int) (a1_0 : Bool) (a1_1 : List Int) : Option (Bool × List Int) := evF Tryz.prog bF.cls Tryz.f167 bF.cuts k [.agg [cb a0_0, .a .u64 a0_1 10], .agg [cb a1_0, .a .u64 a1_1 10]] bF.K
noncomputable def bF.c : Fc := gT [.agg [.b, .a .u64 10], .agg [.b, .a .u64 10]] [.agg [.b, .a .u64 10]] (T := Bool × List Int) (fun y => ((y.1, y.2, ()), ())) fun n x => bF.f n x.1.1 x.1.2.1 x.2.1.1 x.2.1.2.1
theorem bF.ok : gI Tryz.prog 167 bF.c := uT bF.gU Tryz.func167 (by kernel_rfl) (by kernel_rfl) (by decide) (fun _ => rfl) (fun _ _ => rfl)
noncomputable def bK.cls : Cls := [(167, bF.c)]
theorem bK.gU : dG Tryz.prog bK.cls := dG.cons bF.ok (dG.nil)
noncomputable def bK.K (v : SV) : Option (Bool × List Int) := (kT [.agg [.b, .a .u64 10]] v).map (fun z => (z.1.1, z.1.2.1))
noncomputable def bK.cuts : List Nat := []
noncomputable def bK.f (k : Nat) (a0_0 : Bool) (a0_1 : List Int) (a1_0 : Bool) (a1_1 : List Int) : Option (Bool × List Int) := evF Tryz.prog bK.cls Tryz.f128 bK.cuts k [.agg [cb a0_0, .a .u64 a0_1 10], .agg [cb a1_0, .a .u64 a1_1 10]] bK.K
noncomputable def bK.c : Fc := gT [.agg [.b, .a .u64 10], .agg [.b, .a .u64 10]] [.agg [.b, .a .u64 10]] (T := Bool × List Int) (fun y => ((y.1, y.2, ()), ())) fun n x => bK.f n x.1.1 x.1.2.1 x.2.1.1 x.2.1.2.1
theorem bK.ok : gI Tryz.prog 128 bK.c := uT bK.gU Tryz.func128 (by kernel_rfl) (by kernel_rfl) (by decide) (fun _ => rfl) (fun _ _ => rfl)
noncomputable def cB.cls : Cls := []
theorem cB.gU : dG Tryz.prog cB.cls := dG.nil
noncomputable def cB.K (v : SV) : Option (Bool) := (kT [hB] v).map (fun z => (z.1.1))
noncomputable def cB.cuts : List Nat := []
noncomputable def cB.f (k : Nat) (a0_0 : Bool) (a0_1 : List Int) : Option (Bool) := evF Tryz.prog cB.cls Tryz.f129 cB.cuts k [.agg [cb a0_0, .a .u64 a0_1 10]] cB.K
noncomputable def cB.c : Fc := gT [.agg [.b, .a .u64 10]] [hB] (T := Bool) (fun y => ((y, ()), ())) fun n x => cB.f n x.1.1 x.1.2.1
theorem cB.ok : gI Tryz.prog 129 cB.c := uT cB.gU Tryz.func129 (by kernel_rfl) (by kernel_rfl) (by decide) (fun _ => rfl) (fun _ _ => rfl)
noncomputable def aZ.c : Fc := gT [hI .i64, hB] [hI .u32] (T := Int) (fun y => ((y, ()), ())) fun n x => aZ.f x.1.1 x.2.1.1
theorem aZ.ok : gI Tryz.prog 91 aZ.c := d9 Tryz.func91 (by kernel_rfl) (by kernel_rfl) (by decide) (fun _ => dJ (by decide) _) fun n x y h m w => (aZ.calls x.1.1 x.2.1.1 y w h).mono fun e w' he => ⟨he.1, he.2.below⟩
noncomputable def aR.c : Fc := gT [hI .u64] [hI .i64] (T := Int) (fun y => ((y, ()), ())) fun n x => aR.f n x.1.1
theorem aR.ok : gI Tryz.prog 132 aR.c := d9 Tryz.func132 (by kernel_rfl) (by kernel_rfl) (by decide) (fun _ => dJ (by decide) _) fun n x y h m w => (aR.calls n x.1.1 y w h).mono fun e w' he => ⟨he.1, he.2.below⟩
noncomputable def aA.c : Fc := gT [hI .i64, hI .i64, hB, hI .i64, hI .u64, hB] [hI .u32, .agg [.b, .b, .b, .b, .b]] (T := Int × Bool × Bool × Bool × Bool × Bool) (fun y => ((y.1, ()), (y.2.1, y.2.2.1, y.2.2.2.1, y.2.2.2.2.1, y.2.2.2.2.2, ()), ())) fun n x => aA.f n x.1.1 x.2.1.1 x.2.2.1.1 x.2.2.2.1.1 x.2.2.2.2.1.1 x.2.2.2.2.2.1.1
theorem aA.ok : gI Tryz.prog 97 aA.c := d9 Tryz.func97 (by kernel_rfl) (by kernel_rfl) (by decide) (fun _ => dJ (by decide) _) fun n x y h m w => (aA.calls n x.1.1 x.2.1.1 x.2.2.1.1 x.2.2.2.1.1 x.2.2.2.2.1.1 x.2.2.2.2.2.1.1 y.1 y.2.1 y.2.2.1 y.2.2.2.1 y.2.2.2.2.1 y.2.2.2.2.2 w h).mono fun e w' he => ⟨he.1, he.2⟩
noncomputable def aK.cls : Cls := [(132, aR.c), (97, aA.c)]
theorem aK.gU : dG Tryz.prog aK.cls := dG.cons aR.ok (dG.cons aA.ok (dG.nil))
noncomputable def aK.K (v : SV) : Option (Int × Bool × Bool × Bool × Bool × Bool) := (kT [hI .u32, .agg [.b, .b, .b, .b, .b]] v).map (fun z => (z.1.1, z.2.1.1, z.2.1.2.1, z.2.1.2.2.1, z.2.1.2.2.2.1, z.2.1.2.2.2.2.1))
noncomputable def aK.cuts : List Nat := []
noncomputable def aK.f (k : Nat) (a0 a1 : Int) (a2_0 : Bool) (a2_1 : List Int) : Option (Int × Bool × Bool × Bool × Bool × Bool) := evF Tryz.prog aK.cls Tryz.f130 aK.cuts k [.one (.i .i64 (.x a0)), .one (.i .i64 (.x a1)), .agg [cb a2_0, .a .u64 a2_1 10]] aK.K
noncomputable def aK.c : Fc := gT [hI .i64, hI .i64, .agg [.b, .a .u64 10]] [hI .u32, .agg [.b, .b, .b, .b, .b]] (T := Int × Bool × Bool × Bool × Bool × Bool) (fun y => ((y.1, ()), (y.2.1, y.2.2.1, y.2.2.2.1, y.2.2.2.2.1, y.2.2.2.2.2, ()), ())) fun n x => aK.f n x.1.1 x.2.1.1 x.2.2.1.1 x.2.2.1.2.1
theorem aK.ok : gI Tryz.prog 130 aK.c := uT aK.gU Tryz.func130 (by kernel_rfl) (by kernel_rfl) (by decide) (fun _ => rfl) (fun _ _ => rfl)
noncomputable def dB.cls : Cls := [(128, bK.c), (129, cB.c), (91, aZ.c), (130, aK.c)]
theorem dB.gU : dG Tryz.prog dB.cls := dG.cons bK.ok (dG.cons cB.ok (dG.cons aZ.ok (dG.cons aK.ok (dG.nil))))
noncomputable def dB.K (v : SV) : Option (Int × Bool × Bool × Bool × Bool × Bool) := (kT [hI .u32, .agg [.b, .b, .b, .b, .b]] v).map (fun z => (z.1.1, z.2.1.1, z.2.1.2.1, z.2.1.2.2.1, z.2.1.2.2.2.1, z.2.1.2.2.2.2.1))
noncomputable def dB.cuts : List Nat := []
noncomputable def dB.f (k : Nat) (a0 a1 : Int) (a2_0 : Bool) (a2_1 : List Int) (a3_0 : Bool) (a3_1 : List Int) : Option (Int × Bool × Bool × Bool × Bool × Bool) := evF Tryz.prog dB.cls Tryz.f93 dB.cuts k [.one (.i .i64 (.x a0)), .one (.i .i64 (.x a1)), .agg [cb a2_0, .a .u64 a2_1 10], .agg [cb a3_0, .a .u64 a3_1 10]] dB.K
noncomputable def dB.c : Fc := gT [hI .i64, hI .i64, .agg [.b, .a .u64 10], .agg [.b, .a .u64 10]] [hI .u32, .agg [.b, .b, .b, .b, .b]] (T := Int × Bool × Bool × Bool × Bool × Bool) (fun y => ((y.1, ()), (y.2.1, y.2.2.1, y.2.2.2.1, y.2.2.2.2.1, y.2.2.2.2.2, ()), ())) fun n x => dB.f n x.1.1 x.2.1.1 x.2.2.1.1 x.2.2.1.2.1 x.2.2.2.1.1 x.2.2.2.1.2.1
theorem dB.ok : gI Tryz.prog 93 dB.c := uT dB.gU Tryz.func93 (by kernel_rfl) (by kernel_rfl) (by decide) (fun _ => rfl) (fun _ _ => rfl)
noncomputable def bV.c : Fc := gT [hI .i64, hB] [hI .u32] (T := Int) (fun y => ((y, ()), ())) fun n x => bV.f x.1.1 x.2.1.1
theorem bV.ok : gI Tryz.prog 89 bV.c := d9 Tryz.func89 (by kernel_rfl) (by kernel_rfl) (by decide) (fun _ => dJ (by decide) _) fun n x y h m w => (bV.calls x.1.1 x.2.1.1 y w h).mono fun e w' he => ⟨he.1, he.2.below⟩
noncomputable def aN.cls : Cls := [(78, bG.c), (86, bL.c), (77, aI.c), (87, cK.c), (88, bU.c), (89, bV.c), (90, bM.c), (91, aZ.c), (92, bE.c), (94, bY.c), (93, dB.c)]
theorem aN.gU : dG Tryz.prog aN.cls := dG.cons bG.ok (dG.cons bL.ok (dG.cons aI.ok (dG.cons cK.ok (dG.cons bU.ok (dG.cons bV.ok (dG.cons bM.ok (dG.cons aZ.ok (dG.cons bE.ok (dG.cons bY.ok (dG.cons dB.ok (dG.nil)))))))))))
noncomputable def aN.K (v : SV) : Option (Int × Bool × Bool × Bool × Bool × Bool) := (kT [hI .u32, .agg [.b, .b, .b, .b, .b]] v).map (fun z => (z.1.1, z.2.1.1, z.2.1.2.1, z.2.1.2.2.1, z.2.1.2.2.2.1, z.2.1.2.2.2.2.1))
noncomputable def aN.cuts : List Nat := [2, 5, 14]
noncomputable def aN.f (k : Nat) (a0 a1 : Int) (a2 a3 a4 : Int) : Option (Int × Bool × Bool × Bool × Bool × Bool) := evF Tryz.prog aN.cls Tryz.f34 aN.cuts k [.one (.i .i64 (.x a0)), .one (.i .i64 (.x a1)), .one (.i .u32 (.x a2)), .one (.i .u32 (.x a3)), .one (.i .u32 (.x a4))] aN.K
noncomputable def aN.c : Fc := gT [hI .i64, hI .i64, hI .u32, hI .u32, hI .u32] [hI .u32, .agg [.b, .b, .b, .b, .b]] (T := Int × Bool × Bool × Bool × Bool × Bool) (fun y => ((y.1, ()), (y.2.1, y.2.2.1, y.2.2.2.1, y.2.2.2.2.1, y.2.2.2.2.2, ()), ())) fun n x => aN.f n x.1.1 x.2.1.1 x.2.2.1.1 x.2.2.2.1.1 x.2.2.2.2.1.1
theorem aN.ok : gI Tryz.prog 34 aN.c := uT aN.gU Tryz.func34 (by kernel_rfl) (by kernel_rfl) (by decide) (fun _ => rfl) (fun _ _ => rfl)
end Go.Proofs.YtolpdiifmacdbaaGreat.E
