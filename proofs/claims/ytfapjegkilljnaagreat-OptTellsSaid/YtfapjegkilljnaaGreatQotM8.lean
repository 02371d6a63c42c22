import Derived.Test.YtfapjegkilljnaaGreatQotZ
import Derived.Test.YtfapjegkilljnaaGreatQotM5
import Derived.Test.YtfapjegkilljnaaGreatQotM6
import Derived.Test.YtfapjegkilljnaaGreatQotM4
import Derived.Test.YtfapjegkilljnaaGreatProg
import Derived.Test.YtfapjegkilljnaaGreatQotM7
import Derived.Test.YtfapjegkilljnaaGreatQotWMore
-- Printed by a program of this session's out of Lean's print of the translation; Lean checks it.
set_option linter.unusedVariables false
set_option linter.unusedSimpArgs false
set_option maxRecDepth 100000
set_option maxHeartbeats 8000000
namespace Go.Proofs.YtfapjegkilljnaaGreat.P
open Go.RowKit Go.Proofs.YtfapjegkilljnaaGreatW.PrintWords Go.Proofs.YtfapjegkilljnaaGreatW.PrintLast Go.Proofs.YtfapjegkilljnaaGreatW.PrintMore
attribute [local go_sem] max2_int min2_int max_two min_two max_three min_three max_four min_four

-- NEED 0
/-! ### aD: function 68 -/
def aD.l0 : Nat → Int → List Int → Bool → Bool → Int → Option (Bool × Bool)
 |0, _, _, _, _, _ => none
 |k + 1, x0, x1, x6, x7, x8 => if x8 < (x1.length : Int) then (if 0 ≤ x8 then ((aI.f k x0 (rd x1 x8)).bind fun t742 => (if x6 = true then (if x7 = true then (aD.l0 k x0 x1 true true (wrap64 (x8 + 1))) else (aD.l0 k x0 x1 true (t742 == 5) (wrap64 (x8 + 1)))) else (if t742 = 4 then (if x7 = true then (aD.l0 k x0 x1 true true (wrap64 (x8 + 1))) else (aD.l0 k x0 x1 true (t742 == 5) (wrap64 (x8 + 1)))) else (if x7 = true then (aD.l0 k x0 x1 (t742 == 5) true (wrap64 (x8 + 1))) else (aD.l0 k x0 x1 (t742 == 5) (t742 == 5) (wrap64 (x8 + 1))))))) else (none)) else (some (x6, x7))
def aD.f (k : Nat) (a0 : Int) (l1 : List Int) : Option (Bool × Bool) := aD.l0 k a0 l1 false false 0
theorem aD.fB : ∀ k, (∀ y0 y1 y2 y3 y4, LeO (aD.l0 k y0 y1 y2 y3 y4) (aD.l0 (k + 1) y0 y1 y2 y3 y4))
 |0 => fun _ _ _ _ _ r h => by simp [aD.l0] at h
 |k + 1 => by
  have ih0 := aD.fB k
  ·intro y0 y1 y2 y3 y4
   unfold aD.l0
   repeat' first
   |(with_reducible first|exact ih0 _ _ _ _ _|exact aI.mono _ _ _|exact LeO.refl _|exact LeO.none _|refine LeO.ite ?_ ?_|refine LeO.bind ?_ (fun _ => ?_))
   |exact ih0 _ _ _ _ _
   |exact aI.mono _ _ _
   |exact LeO.none _
   |refine LeO.ite ?_ ?_
   |refine LeO.bind ?_ (fun _ => ?_)
theorem aD.mono : ∀ a0 a1 k, LeO (aD.f k a0 a1) (aD.f (k + 1) a0 a1) := by
 intro a0 a1 k
 have ih0 := aD.fB k
 unfold aD.f
 repeat' first
   |(with_reducible first|exact ih0 _ _ _ _ _|exact aI.mono _ _ _|exact LeO.refl _|exact LeO.none _|refine LeO.ite ?_ ?_|refine LeO.bind ?_ (fun _ => ?_))
   |exact ih0 _ _ _ _ _
   |exact aI.mono _ _ _
   |exact LeO.none _
   |refine LeO.ite ?_ ?_
   |refine LeO.bind ?_ (fun _ => ?_)
theorem aD.calls (k : Nat) (a0 : Int) (A1 : Option Addr) (c1 : Nat) (l1 : List Int) (r1 r2 : Bool) (w : World) (hr1 : Kd.C (Kd.int .u32) w A1 l1.length l1) (hc1 : l1.length ≤ c1) (h : aD.f k a0 l1 = some (r1, r2)) :
  Calls Tryz.prog 68 #[.int .i64 a0, .slice A1 l1.length c1] w fun e w' => e = .returned (.tuple #[.bool r1, .bool r2]) ∧ Drawn0 w w' := by
 have HR1 := Aside0.mk hr1
 have HC1 := Aside0.mk hc1
 clear hr1 hc1
 have H : (aD.l0 k a0 l1 false false 0) = some (r1, r2) := h
 clear h
 have H' := Aside0.mk H
 clear H
 go_enter Tryz.func68, Tryz.ntmps68
 go_wp2
 go_loopg [6, 7, 8] k (fun kq v6 v7 v8 w' => ∃ (x6_1 : Bool) (x7_1 : Bool) (x8_1 : Int), v6 = .bool x6_1 ∧ v7 = .bool x7_1 ∧ v8 = .int .i64 x8_1 ∧ Aside0 (aD.l0 kq a0 l1 x6_1 x7_1 x8_1 = some (r1, r2)) ∧ Aside0 (kq ≤ k) ∧ Drawn0 w w')
 case atStart => exact ⟨(false), (false), (0), (gr_), (gr_), (gr_), H', ⟨Nat.le_refl _⟩, gd_⟩
 case round =>
  clear H'
  try clear c1 p2
  obtain ⟨x6_1, x7_1, x8_1, rfl, rfl, rfl, HA, HK1, ⟨m1, rfl⟩⟩ := hrel
  cases gk with
  |zero => exact absurd HA.out (by simp [aD.l0])
  |succ k1 =>
   have H := HA.out
   clear HA
   simp only [aD.l0] at H
   by_cases c3 : x8_1 < (l1.length : Int)
   ·rw [if_pos c3] at H
    have c3b0 : decide (x8_1 < (l1.length : Int)) = true := decide_eq_true c3
    clear c3
    by_cases c4 : 0 ≤ x8_1
    ·rw [if_pos c4] at H
     have c4b0 : decide (0 ≤ x8_1) = true := decide_eq_true c4
     clear c4
     replace H := bq_ H
     obtain ⟨t742, A50, H⟩ := H
     replace H : (if x6_1 = true then (if x7_1 = true then (aD.l0 k1 a0 l1 true true (wrap64 (x8_1 + 1))) else (aD.l0 k1 a0 l1 true (t742 == 5) (wrap64 (x8_1 + 1)))) else (if t742 = 4 then (if x7_1 = true then (aD.l0 k1 a0 l1 true true (wrap64 (x8_1 + 1))) else (aD.l0 k1 a0 l1 true (t742 == 5) (wrap64 (x8_1 + 1)))) else (if x7_1 = true then (aD.l0 k1 a0 l1 (t742 == 5) true (wrap64 (x8_1 + 1))) else (aD.l0 k1 a0 l1 (t742 == 5) (t742 == 5) (wrap64 (x8_1 + 1)))))) = some (r1, r2) := H
     have A5 := Aside0.mk A50
     clear A50
     by_cases c6 : x6_1 = true
     ·subst c6
      have H1 : (if x7_1 = true then (aD.l0 k1 a0 l1 true true (wrap64 (x8_1 + 1))) else (aD.l0 k1 a0 l1 true (t742 == 5) (wrap64 (x8_1 + 1)))) = some (r1, r2) := by rw [if_pos rfl] at H; exact H
      clear H
      have H := H1
      clear H1
      by_cases c7 : x7_1 = true
      ·subst c7
       have H1 : (aD.l0 k1 a0 l1 true true (wrap64 (x8_1 + 1))) = some (r1, r2) := by rw [if_pos rfl] at H; exact H
       clear H
       have H := H1
       clear H1
       have H' := Aside0.mk H
       clear H
       have p741 : 0 ≤ (x8_1 : Int) := of_decide_eq_true (by first | (with_reducible assumption) | assumption)
       have q741 : x8_1 < (l1.length : Int) := of_decide_eq_true (by first | (with_reducible assumption) | assumption)
       obtain ⟨ad741, e741, hx741_0⟩ := Kd.at_int HR1.out x8_1 p741 q741
       cases e741
       replace p741 := eq_true p741
       replace q741 := eq_true q741
       go_wp2_with (first | ((with_reducible refine gate_callee (f := 100) rfl ?_); refine goesL_ (some 21) rfl rfl Tryz.func100 (by kernel_rfl) rfl #[.int .i64 a0, .int .u32 (rd l1 x8_1)] rfl gl ?_; (with_reducible refine (aI.calls k1 a0 (rd l1 x8_1) t742 _ A5.out).mono ?_); rintro e w' ⟨rfl, ⟨nd, rfl⟩⟩; refine ⟨_, rfl, ?_⟩))
       go_roundg k1
       case measure => have := HK1.out; omega
       case rel => exact ⟨(true), (true), (wrap64 (x8_1 + 1)), (gr_), (gr_), (gr_), H', ⟨by have := HK1.out; omega⟩, gd_⟩
      ·replace c7 := Bool.eq_false_iff.mpr c7
       subst c7
       have H1 : (aD.l0 k1 a0 l1 true (t742 == 5) (wrap64 (x8_1 + 1))) = some (r1, r2) := by rw [if_neg (show ¬ (false = true) by decide)] at H; exact H
       clear H
       have H := H1
       clear H1
       have H' := Aside0.mk H
       clear H
       have p741 : 0 ≤ (x8_1 : Int) := of_decide_eq_true (by first | (with_reducible assumption) | assumption)
       have q741 : x8_1 < (l1.length : Int) := of_decide_eq_true (by first | (with_reducible assumption) | assumption)
       obtain ⟨ad741, e741, hx741_0⟩ := Kd.at_int HR1.out x8_1 p741 q741
       cases e741
       replace p741 := eq_true p741
       replace q741 := eq_true q741
       go_wp2_with (first | ((with_reducible refine gate_callee (f := 100) rfl ?_); refine goesL_ (some 21) rfl rfl Tryz.func100 (by kernel_rfl) rfl #[.int .i64 a0, .int .u32 (rd l1 x8_1)] rfl gl ?_; (with_reducible refine (aI.calls k1 a0 (rd l1 x8_1) t742 _ A5.out).mono ?_); rintro e w' ⟨rfl, ⟨nd, rfl⟩⟩; refine ⟨_, rfl, ?_⟩))
       go_roundg k1
       case measure => have := HK1.out; omega
       case rel => exact ⟨(true), ((t742 == 5)), (wrap64 (x8_1 + 1)), (gr_), (gr_), (gr_), H', ⟨by have := HK1.out; omega⟩, gd_⟩
     ·replace c6 := Bool.eq_false_iff.mpr c6
      subst c6
      have H1 : (if t742 = 4 then (if x7_1 = true then (aD.l0 k1 a0 l1 true true (wrap64 (x8_1 + 1))) else (aD.l0 k1 a0 l1 true (t742 == 5) (wrap64 (x8_1 + 1)))) else (if x7_1 = true then (aD.l0 k1 a0 l1 (t742 == 5) true (wrap64 (x8_1 + 1))) else (aD.l0 k1 a0 l1 (t742 == 5) (t742 == 5) (wrap64 (x8_1 + 1))))) = some (r1, r2) := by rw [if_neg (show ¬ (false = true) by decide)] at H; exact H
      clear H
      have H := H1
      clear H1
      by_cases c8 : t742 = 4
      ·rw [if_pos c8] at H
       have c8b0 : (t742 == 4) = true := beq_iff_eq.mpr c8
       have c8b1 : (t742 != 4) = false := bne_eq_false_iff_eq.mpr c8
       clear c8
       by_cases c9 : x7_1 = true
       ·subst c9
        have H1 : (aD.l0 k1 a0 l1 true true (wrap64 (x8_1 + 1))) = some (r1, r2) := by rw [if_pos rfl] at H; exact H
        clear H
        have H := H1
        clear H1
        have H' := Aside0.mk H
        clear H
        have p741 : 0 ≤ (x8_1 : Int) := of_decide_eq_true (by first | (with_reducible assumption) | assumption)
        have q741 : x8_1 < (l1.length : Int) := of_decide_eq_true (by first | (with_reducible assumption) | assumption)
        obtain ⟨ad741, e741, hx741_0⟩ := Kd.at_int HR1.out x8_1 p741 q741
        cases e741
        replace p741 := eq_true p741
        replace q741 := eq_true q741
        go_wp2_with (first | ((with_reducible refine gate_callee (f := 100) rfl ?_); refine goesL_ (some 21) rfl rfl Tryz.func100 (by kernel_rfl) rfl #[.int .i64 a0, .int .u32 (rd l1 x8_1)] rfl gl ?_; (with_reducible refine (aI.calls k1 a0 (rd l1 x8_1) t742 _ A5.out).mono ?_); rintro e w' ⟨rfl, ⟨nd, rfl⟩⟩; refine ⟨_, rfl, ?_⟩))
        go_roundg k1
        case measure => have := HK1.out; omega
        case rel => exact ⟨(true), (true), (wrap64 (x8_1 + 1)), (gr_), (gr_), (gr_), H', ⟨by have := HK1.out; omega⟩, gd_⟩
       ·replace c9 := Bool.eq_false_iff.mpr c9
        subst c9
        have H1 : (aD.l0 k1 a0 l1 true (t742 == 5) (wrap64 (x8_1 + 1))) = some (r1, r2) := by rw [if_neg (show ¬ (false = true) by decide)] at H; exact H
        clear H
        have H := H1
        clear H1
        have H' := Aside0.mk H
        clear H
        have p741 : 0 ≤ (x8_1 : Int) := of_decide_eq_true (by first | (with_reducible assumption) | assumption)
        have q741 : x8_1 < (l1.length : Int) := of_decide_eq_true (by first | (with_reducible assumption) | assumption)
        obtain ⟨ad741, e741, hx741_0⟩ := Kd.at_int HR1.out x8_1 p741 q741
        cases e741
        replace p741 := eq_true p741
        replace q741 := eq_true q741
        go_wp2_with (first | ((with_reducible refine gate_callee (f := 100) rfl ?_); refine goesL_ (some 21) rfl rfl Tryz.func100 (by kernel_rfl) rfl #[.int .i64 a0, .int .u32 (rd l1 x8_1)] rfl gl ?_; (with_reducible refine (aI.calls k1 a0 (rd l1 x8_1) t742 _ A5.out).mono ?_); rintro e w' ⟨rfl, ⟨nd, rfl⟩⟩; refine ⟨_, rfl, ?_⟩))
        go_roundg k1
        case measure => have := HK1.out; omega
        case rel => exact ⟨(true), ((t742 == 5)), (wrap64 (x8_1 + 1)), (gr_), (gr_), (gr_), H', ⟨by have := HK1.out; omega⟩, gd_⟩
      ·rw [if_neg c8] at H
       have c8b0 : (t742 == 4) = false := beq_eq_false_iff_ne.mpr c8
       have c8b1 : (t742 != 4) = true := bne_iff_ne.mpr c8
       by_cases c10 : x7_1 = true
       ·subst c10
        have H1 : (aD.l0 k1 a0 l1 (t742 == 5) true (wrap64 (x8_1 + 1))) = some (r1, r2) := by rw [if_pos rfl] at H; exact H
        clear H
        have H := H1
        clear H1
        have H' := Aside0.mk H
        clear H
        have p741 : 0 ≤ (x8_1 : Int) := of_decide_eq_true (by first | (with_reducible assumption) | assumption)
        have q741 : x8_1 < (l1.length : Int) := of_decide_eq_true (by first | (with_reducible assumption) | assumption)
        obtain ⟨ad741, e741, hx741_0⟩ := Kd.at_int HR1.out x8_1 p741 q741
        cases e741
        replace p741 := eq_true p741
        replace q741 := eq_true q741
        go_wp2_with (first | ((with_reducible refine gate_callee (f := 100) rfl ?_); refine goesL_ (some 21) rfl rfl Tryz.func100 (by kernel_rfl) rfl #[.int .i64 a0, .int .u32 (rd l1 x8_1)] rfl gl ?_; (with_reducible refine (aI.calls k1 a0 (rd l1 x8_1) t742 _ A5.out).mono ?_); rintro e w' ⟨rfl, ⟨nd, rfl⟩⟩; refine ⟨_, rfl, ?_⟩))
        go_roundg k1
        case measure => have := HK1.out; omega
        case rel => exact ⟨((t742 == 5)), (true), (wrap64 (x8_1 + 1)), (gr_), (gr_), (gr_), H', ⟨by have := HK1.out; omega⟩, gd_⟩
       ·replace c10 := Bool.eq_false_iff.mpr c10
        subst c10
        have H1 : (aD.l0 k1 a0 l1 (t742 == 5) (t742 == 5) (wrap64 (x8_1 + 1))) = some (r1, r2) := by rw [if_neg (show ¬ (false = true) by decide)] at H; exact H
        clear H
        have H := H1
        clear H1
        have H' := Aside0.mk H
        clear H
        have p741 : 0 ≤ (x8_1 : Int) := of_decide_eq_true (by first | (with_reducible assumption) | assumption)
        have q741 : x8_1 < (l1.length : Int) := of_decide_eq_true (by first | (with_reducible assumption) | assumption)
        obtain ⟨ad741, e741, hx741_0⟩ := Kd.at_int HR1.out x8_1 p741 q741
        cases e741
        replace p741 := eq_true p741
        replace q741 := eq_true q741
        go_wp2_with (first | ((with_reducible refine gate_callee (f := 100) rfl ?_); refine goesL_ (some 21) rfl rfl Tryz.func100 (by kernel_rfl) rfl #[.int .i64 a0, .int .u32 (rd l1 x8_1)] rfl gl ?_; (with_reducible refine (aI.calls k1 a0 (rd l1 x8_1) t742 _ A5.out).mono ?_); rintro e w' ⟨rfl, ⟨nd, rfl⟩⟩; refine ⟨_, rfl, ?_⟩))
        go_roundg k1
        case measure => have := HK1.out; omega
        case rel => exact ⟨((t742 == 5)), ((t742 == 5)), (wrap64 (x8_1 + 1)), (gr_), (gr_), (gr_), H', ⟨by have := HK1.out; omega⟩, gd_⟩
    ·rw [if_neg c4] at H
     exact absurd H (by simp)
   ·rw [if_neg c3] at H
    have c3b0 : decide (x8_1 < (l1.length : Int)) = false := decide_eq_false c3
    clear c3
    simp only [Option.some.injEq, Prod.mk.injEq] at H
    obtain ⟨rfl, rfl⟩ := H
    go_wp2
    go_ret2
    exact ⟨gr_, gd_⟩

-- NEED 0
/-! ### dQ: function 36 -/
def dQ.f (k : Nat) (a0 a1 : Int) : Option (Int) := (aD.f k a0 (([a1] : List Int))).bind fun bt746 => (if bt746.1 = true then ((aU.f a0).bind fun t748 => (some (Go.bits .and .u32 a1 t748))) else ((bQ.f a0 true).bind fun t749 => ((aU.f a0).bind fun t750 => (some (Go.bits .and .u32 (Go.bits .xor .u32 a1 t749) t750)))))
theorem dQ.calls (k : Nat) (a0 a1 r : Int) (w : World) (h : dQ.f k a0 a1 = some r) :
  Calls Tryz.prog 36 #[.int .i64 a0, .int .u32 a1] w fun e w' => e = .returned (.int .u32 r) ∧ Below w.heap.size w w' := by
 have HB := Aside0.mk (Below.refl w.heap.size w)
 have H : ((aD.f k a0 (([a1] : List Int))).bind fun bt746 => (if bt746.1 = true then ((aU.f a0).bind fun t748 => (some (Go.bits .and .u32 a1 t748))) else ((bQ.f a0 true).bind fun t749 => ((aU.f a0).bind fun t750 => (some (Go.bits .and .u32 (Go.bits .xor .u32 a1 t749) t750)))))) = some r := h
 clear h
 obtain ⟨y743, hy743⟩ : ∃ y_ : List Int, y_ = (([a1] : List Int)) := ⟨_, rfl⟩
 replace H : ((aD.f k a0 y743).bind fun bt746 => (if bt746.1 = true then ((aU.f a0).bind fun t748 => (some (Go.bits .and .u32 a1 t748))) else ((bQ.f a0 true).bind fun t749 => ((aU.f a0).bind fun t750 => (some (Go.bits .and .u32 (Go.bits .xor .u32 a1 t749) t750)))))) = some r := by first | (rw [hy743]; with_reducible exact H) | (have H2_ := (Option.bind_some _ _).symm.trans H; rw [hy743]; with_reducible exact H2_) | (have H2_ := (Option.bind_some _ _).symm.trans H; with_reducible exact H2_) | with_reducible exact H | (rw [hy743]; exact H) | exact H
 have Ny743 := Aside0.mk hy743
 clear hy743
 replace H := bq_ H
 obtain ⟨⟨t746, t747⟩, A30, H⟩ := H
 replace H : (if t746 = true then ((aU.f a0).bind fun t748 => (some (Go.bits .and .u32 a1 t748))) else ((bQ.f a0 true).bind fun t749 => ((aU.f a0).bind fun t750 => (some (Go.bits .and .u32 (Go.bits .xor .u32 a1 t749) t750))))) = some r := H
 have A3 := Aside0.mk A30
 clear A30
 by_cases c4 : t746 = true
 ·subst c4
  have H1 : ((aU.f a0).bind fun t748 => (some (Go.bits .and .u32 a1 t748))) = some r := by rw [if_pos rfl] at H; exact H
  clear H
  have H := H1
  clear H1
  replace H := bq_ H
  obtain ⟨t748, A50, H⟩ := H
  replace H : (some (Go.bits .and .u32 a1 t748)) = some r := H
  have A5 := Aside0.mk A50
  clear A50
  obtain rfl := Option.some.inj H
  go_enter Tryz.func36, Tryz.ntmps36
  go_wp2_with (first | ((with_reducible refine gate_dst (N := 10) rfl ?_); refine Kd.R_lit (Kd.int .u32) _ 22 ?hg (N := 10) ?hd (xs := ([a1] : List Int)) (inner := [.int .u32 a1]) (ok := fun _ => True) (okp := fun _ => True) ?hr ?hp (fun _ hk => hk) trivial (Below.refl _ _) (Nat.le_refl _) (by simp) ?_; (case hd => rfl); (case hg => rfl); (case hr => first | (go_simp; done) | (go_simp; rfl)); (case hp => exact (Reps.one (show Kd.M (Kd.int .u32) _ _ _ a1 [.int .u32 a1] from rfl) (Reps.none _ _))); intro v744 w6 ho7 hb hg_ hnew_; clear hg_ hnew_; (first | rw [← Ny743.out] at ho7 | (simp only [Int.reduceToNat] at ho7; rw [← Ny743.out] at ho7)); have n0_ := Aside0.mk (Kd.R_lower ho7 (below_size (bl0 HB.out))); have n1_ := Aside0.mk (below_step (bl0 HB.out) hb); clear HB; have HO745 := n0_; have HB := n1_; clear n0_ n1_; clear hb ho7; obtain ⟨Ao8, co8, eo8⟩ := Kd.R_slice HO745.out; subst eo8) | ((with_reducible refine gate_callee (f := 68) rfl ?_); refine goesL_ (some 11) rfl rfl Tryz.func68 (by kernel_rfl) rfl #[.int .i64 a0, .slice Ao8 y743.length co8] rfl gl ?_; (with_reducible refine (aD.calls k a0 _ _ y743 true t747 _ ?side1 ?side2 A3.out).mono ?_); (case side1 => repeat (first | exact (Kd.R_reads' HO745.out).2.2 | (with_reducible refine Kd.C_alloc ?_ _) | (with_reducible refine Kd.C_drewN ?_ _) | (with_reducible refine Kd.C_drew ?_))); (case side2 => exact (Kd.R_reads' HO745.out).2.1); rintro e w' ⟨rfl, ⟨nd, rfl⟩⟩; refine ⟨_, rfl, ?_⟩) | ((with_reducible refine gate_callee (f := 14) rfl ?_); refine goesL_ (some 17) rfl rfl Tryz.func14 (by kernel_rfl) rfl #[.int .i64 a0] rfl gl ?_; (with_reducible refine (aU.calls a0 t748 _ A5.out).mono ?_); rintro e w' ⟨rfl, ⟨nd, rfl⟩⟩; refine ⟨_, rfl, ?_⟩))
  go_ret
  exact ⟨by first | rfl | (simp [bT, bU] <;> rfl) | (simp [*, bT, bU] <;> rfl), bl0 HB.out⟩
 ·replace c4 := Bool.eq_false_iff.mpr c4
  subst c4
  have H1 : ((bQ.f a0 true).bind fun t749 => ((aU.f a0).bind fun t750 => (some (Go.bits .and .u32 (Go.bits .xor .u32 a1 t749) t750)))) = some r := by rw [if_neg (show ¬ (false = true) by decide)] at H; exact H
  clear H
  have H := H1
  clear H1
  replace H := bq_ H
  obtain ⟨t749, A90, H⟩ := H
  replace H : ((aU.f a0).bind fun t750 => (some (Go.bits .and .u32 (Go.bits .xor .u32 a1 t749) t750))) = some r := H
  have A9 := Aside0.mk A90
  clear A90
  replace H := bq_ H
  obtain ⟨t750, A100, H⟩ := H
  replace H : (some (Go.bits .and .u32 (Go.bits .xor .u32 a1 t749) t750)) = some r := H
  have A10 := Aside0.mk A100
  clear A100
  obtain rfl := Option.some.inj H
  go_enter Tryz.func36, Tryz.ntmps36
  go_wp2_with (first | ((with_reducible refine gate_dst (N := 10) rfl ?_); refine Kd.R_lit (Kd.int .u32) _ 22 ?hg (N := 10) ?hd (xs := ([a1] : List Int)) (inner := [.int .u32 a1]) (ok := fun _ => True) (okp := fun _ => True) ?hr ?hp (fun _ hk => hk) trivial (Below.refl _ _) (Nat.le_refl _) (by simp) ?_; (case hd => rfl); (case hg => rfl); (case hr => first | (go_simp; done) | (go_simp; rfl)); (case hp => exact (Reps.one (show Kd.M (Kd.int .u32) _ _ _ a1 [.int .u32 a1] from rfl) (Reps.none _ _))); intro v744 w11 ho12 hb hg_ hnew_; clear hg_ hnew_; (first | rw [← Ny743.out] at ho12 | (simp only [Int.reduceToNat] at ho12; rw [← Ny743.out] at ho12)); have n0_ := Aside0.mk (Kd.R_lower ho12 (below_size (bl0 HB.out))); have n1_ := Aside0.mk (below_step (bl0 HB.out) hb); clear HB; have HO745 := n0_; have HB := n1_; clear n0_ n1_; clear hb ho12; obtain ⟨Ao13, co13, eo13⟩ := Kd.R_slice HO745.out; subst eo13) | ((with_reducible refine gate_callee (f := 68) rfl ?_); refine goesL_ (some 11) rfl rfl Tryz.func68 (by kernel_rfl) rfl #[.int .i64 a0, .slice Ao13 y743.length co13] rfl gl ?_; (with_reducible refine (aD.calls k a0 _ _ y743 false t747 _ ?side1 ?side2 A3.out).mono ?_); (case side1 => repeat (first | exact (Kd.R_reads' HO745.out).2.2 | (with_reducible refine Kd.C_alloc ?_ _) | (with_reducible refine Kd.C_drewN ?_ _) | (with_reducible refine Kd.C_drew ?_))); (case side2 => exact (Kd.R_reads' HO745.out).2.1); rintro e w' ⟨rfl, ⟨nd, rfl⟩⟩; refine ⟨_, rfl, ?_⟩) | ((with_reducible refine gate_callee (f := 29) rfl ?_); refine goesL_ (some 21) rfl rfl Tryz.func29 (by kernel_rfl) rfl #[.int .i64 a0, .bool true] rfl gl ?_; (with_reducible refine (bQ.calls a0 true t749 _ A9.out).mono ?_); rintro e w' ⟨rfl, ⟨nd, rfl⟩⟩; refine ⟨_, rfl, ?_⟩) | ((with_reducible refine gate_callee (f := 14) rfl ?_); refine goesL_ (some 24) rfl rfl Tryz.func14 (by kernel_rfl) rfl #[.int .i64 a0] rfl gl ?_; (with_reducible refine (aU.calls a0 t750 _ A10.out).mono ?_); rintro e w' ⟨rfl, ⟨nd, rfl⟩⟩; refine ⟨_, rfl, ?_⟩))
  go_ret
  exact ⟨by first | rfl | (simp [bT, bU] <;> rfl) | (simp [*, bT, bU] <;> rfl), bl0 HB.out⟩

-- NEED 0
/-! ### fP: function 18 -/
def fP.f (k : Nat) (a0 : Int) : Option (Int) := (dQ.f k 2 a0).bind fun t751 => (some t751)
theorem fP.calls (k : Nat) (a0 r : Int) (w : World) (h : fP.f k a0 = some r) :
  Calls Tryz.prog 18 #[.int .u32 a0] w fun e w' => e = .returned (.int .u32 r) ∧ Below w.heap.size w w' := by
 have HB := Aside0.mk (Below.refl w.heap.size w)
 have H : ((dQ.f k 2 a0).bind fun t751 => (some t751)) = some r := h
 clear h
 replace H := bq_ H
 obtain ⟨t751, A20, H⟩ := H
 replace H : (some t751) = some r := H
 have A2 := Aside0.mk A20
 clear A20
 obtain rfl := Option.some.inj H
 go_enter Tryz.func18, Tryz.ntmps18
 go_wp2_with (first | ((with_reducible refine gate_callee (f := 36) rfl ?_); refine goesL_ (some 4) rfl rfl Tryz.func36 (by kernel_rfl) rfl #[.int .i64 2, .int .u32 a0] rfl gl ?_; (with_reducible refine (dQ.calls k 2 a0 t751 _ A2.out).mono ?_); rintro e w3 ⟨rfl, hb⟩; refine ⟨_, rfl, ?_⟩; have n0_ := Aside0.mk (below_step (bl0 HB.out) hb); clear HB; have HB := n0_; clear n0_))
 go_ret
 exact ⟨by first | rfl | (simp [bT, bU] <;> rfl) | (simp [*, bT, bU] <;> rfl), bl0 HB.out⟩

-- NEED 0
/-! ### aK: function 69 -/
def aK.f (k : Nat) (a0 a1 : Int) : Option (Bool) := (aI.f k a0 a1).bind fun t752 => (some (t752 == 0))
theorem aK.mono : ∀ a0 a1 k, LeO (aK.f k a0 a1) (aK.f (k + 1) a0 a1) := by
 intro a0 a1 k
 unfold aK.f
 repeat' first
   |(with_reducible first|exact aI.mono _ _ _|exact LeO.refl _|exact LeO.none _|refine LeO.ite ?_ ?_|refine LeO.bind ?_ (fun _ => ?_))
   |exact aI.mono _ _ _
   |exact LeO.none _
   |refine LeO.ite ?_ ?_
   |refine LeO.bind ?_ (fun _ => ?_)
theorem aK.calls (k : Nat) (a0 a1 : Int) (r : Bool) (w : World) (h : aK.f k a0 a1 = some r) :
  Calls Tryz.prog 69 #[.int .i64 a0, .int .u32 a1] w fun e w' => e = .returned (.bool r) ∧ Drawn0 w w' := by
 have H : ((aI.f k a0 a1).bind fun t752 => (some (t752 == 0))) = some r := h
 clear h
 replace H := bq_ H
 obtain ⟨t752, A30, H⟩ := H
 replace H : (some (t752 == 0)) = some r := H
 have A3 := Aside0.mk A30
 clear A30
 obtain rfl := Option.some.inj H
 go_enter Tryz.func69, Tryz.ntmps69
 go_wp2_with (first | ((with_reducible refine gate_callee (f := 100) rfl ?_); refine goesL_ (some 7) rfl rfl Tryz.func100 (by kernel_rfl) rfl #[.int .i64 a0, .int .u32 a1] rfl gl ?_; (with_reducible refine (aI.calls k a0 a1 t752 _ A3.out).mono ?_); rintro e w' ⟨rfl, ⟨nd, rfl⟩⟩; refine ⟨_, rfl, ?_⟩))
 go_ret
 exact ⟨gr_, gd_⟩

-- NEED 0
/-! ### aG: function 70 -/
def aG.f (k : Nat) (a0 a1 : Int) : Option (Bool) := (aI.f k a0 a1).bind fun t753 => (some (t753 == 3))
theorem aG.mono : ∀ a0 a1 k, LeO (aG.f k a0 a1) (aG.f (k + 1) a0 a1) := by
 intro a0 a1 k
 unfold aG.f
 repeat' first
   |(with_reducible first|exact aI.mono _ _ _|exact LeO.refl _|exact LeO.none _|refine LeO.ite ?_ ?_|refine LeO.bind ?_ (fun _ => ?_))
   |exact aI.mono _ _ _
   |exact LeO.none _
   |refine LeO.ite ?_ ?_
   |refine LeO.bind ?_ (fun _ => ?_)
theorem aG.calls (k : Nat) (a0 a1 : Int) (r : Bool) (w : World) (h : aG.f k a0 a1 = some r) :
  Calls Tryz.prog 70 #[.int .i64 a0, .int .u32 a1] w fun e w' => e = .returned (.bool r) ∧ Drawn0 w w' := by
 have H : ((aI.f k a0 a1).bind fun t753 => (some (t753 == 3))) = some r := h
 clear h
 replace H := bq_ H
 obtain ⟨t753, A30, H⟩ := H
 replace H : (some (t753 == 3)) = some r := H
 have A3 := Aside0.mk A30
 clear A30
 obtain rfl := Option.some.inj H
 go_enter Tryz.func70, Tryz.ntmps70
 go_wp2_with (first | ((with_reducible refine gate_callee (f := 100) rfl ?_); refine goesL_ (some 7) rfl rfl Tryz.func100 (by kernel_rfl) rfl #[.int .i64 a0, .int .u32 a1] rfl gl ?_; (with_reducible refine (aI.calls k a0 a1 t753 _ A3.out).mono ?_); rintro e w' ⟨rfl, ⟨nd, rfl⟩⟩; refine ⟨_, rfl, ?_⟩))
 go_ret
 exact ⟨gr_, gd_⟩

end Go.Proofs.YtfapjegkilljnaaGreat.P

/- Entries of functions. -/
namespace Go.Proofs.YtfapjegkilljnaaGreat.E
open Go.RowKit Go.Proofs.YtfapjegkilljnaaGreat.P Go.Proofs.YtfapjegkilljnaaGreat.Ek Go.Proofs.YtfapjegkilljnaaGreatW.PrintWords Go.Proofs.YtfapjegkilljnaaGreatW.PrintLast Go.Proofs.YtfapjegkilljnaaGreatW.PrintMore
noncomputable def aD.c : Fc := mkFcA [.s (hI .i64), .sl .u32] [hB, hB] (T := Bool × Bool) (fun y => ((y.1, ()), (y.2, ()), ())) fun n x => aD.f n x.1.1 x.2.1
theorem aD.ok : gI Tryz.prog 68 aD.c := xZ Tryz.func68 (by kernel_rfl) (by kernel_rfl) (by decide) (fun _ => dF (by decide) _) fun n x y h m w vs ha => by obtain ⟨q0, e0, ha⟩ := ha; subst e0; obtain ⟨A1, c1, q1, e1, R1, D1, ha⟩ := ha; subst e1; subst ha; exact (aD.calls n x.1.1 A1 c1 x.2.1 y.1 y.2 w R1 D1 h).mono fun e w' he => ⟨he.1, he.2.below⟩
noncomputable def bH.c : Fc := gX [hI .i64] [hI .u32] (T := Int) (fun y => ((y, ()), ())) fun n x => bH.f x.1.1
theorem bH.ok : gI Tryz.prog 71 bH.c := eB Tryz.func71 (by kernel_rfl) (by kernel_rfl) (by decide) (fun _ => dF (by decide) _) fun n x y h m w => (bH.calls x.1.1 y w h).mono fun e w' he => ⟨he.1, he.2.below⟩
noncomputable def aG.c : Fc := gX [hI .i64, hI .u32] [hB] (T := Bool) (fun y => ((y, ()), ())) fun n x => aG.f n x.1.1 x.2.1.1
theorem aG.ok : gI Tryz.prog 70 aG.c := eB Tryz.func70 (by kernel_rfl) (by kernel_rfl) (by decide) (fun _ => dF (by decide) _) fun n x y h m w => (aG.calls n x.1.1 x.2.1.1 y w h).mono fun e w' he => ⟨he.1, he.2.below⟩
noncomputable def bA.c : Fc := gX [hI .i64, hI .u32] [hB] (T := Bool) (fun y => ((y, ()), ())) fun n x => bA.f x.1.1 x.2.1.1
theorem bA.ok : gI Tryz.prog 72 bA.c := eB Tryz.func72 (by kernel_rfl) (by kernel_rfl) (by decide) (fun _ => dF (by decide) _) fun n x y h m w => (bA.calls x.1.1 x.2.1.1 y w h).mono fun e w' he => ⟨he.1, he.2.below⟩
noncomputable def aU.c : Fc := gX [hI .i64] [hI .u32] (T := Int) (fun y => ((y, ()), ())) fun n x => aU.f x.1.1
theorem aU.ok : gI Tryz.prog 14 aU.c := eB Tryz.func14 (by kernel_rfl) (by kernel_rfl) (by decide) (fun _ => dF (by decide) _) fun n x y h m w => (aU.calls x.1.1 y w h).mono fun e w' he => ⟨he.1, he.2.below⟩
noncomputable def aK.c : Fc := gX [hI .i64, hI .u32] [hB] (T := Bool) (fun y => ((y, ()), ())) fun n x => aK.f n x.1.1 x.2.1.1
theorem aK.ok : gI Tryz.prog 69 aK.c := eB Tryz.func69 (by kernel_rfl) (by kernel_rfl) (by decide) (fun _ => dF (by decide) _) fun n x y h m w => (aK.calls n x.1.1 x.2.1.1 y w h).mono fun e w' he => ⟨he.1, he.2.below⟩
noncomputable def aH.c : Fc := gX [hI .i64, hI .u32] [hB, hI .i64, hI .u64] (T := Bool × Int × Int) (fun y => ((y.1, ()), (y.2.1, ()), (y.2.2, ()), ())) fun n x => aH.f n x.1.1 x.2.1.1
theorem aH.ok : gI Tryz.prog 74 aH.c := eB Tryz.func74 (by kernel_rfl) (by kernel_rfl) (by decide) (fun _ => dF (by decide) _) fun n x y h m w => (aH.calls n x.1.1 x.2.1.1 y.1 y.2.1 y.2.2 w h).mono fun e w' he => ⟨he.1, he.2.below⟩
noncomputable def bR.cls : Cls := []
theorem bR.fU : bS Tryz.prog bR.cls := bS.nil
noncomputable def bR.K (v : SV) : Option (Bool × List Int) := (kJ [.agg [.b, .a .u64 10]] v).map (fun z => (z.1.1, z.1.2.1))
noncomputable def bR.cuts : List Nat := []
noncomputable def bR.f (k : Nat) (a0 : Bool) (a1 a2 : Int) : Option (Bool × List Int) := evF Tryz.prog bR.cls Tryz.f76 bR.cuts k [.one (.b (.q a0)), .one (.i .i64 (.x a1)), .one (.i .u64 (.x a2))] bR.K
noncomputable def bR.c : Fc := gX [hB, hI .i64, hI .u64] [.agg [.b, .a .u64 10]] (T := Bool × List Int) (fun y => ((y.1, y.2, ()), ())) fun n x => bR.f n x.1.1 x.2.1.1 x.2.2.1.1
theorem bR.ok : gI Tryz.prog 76 bR.c := rC bR.fU Tryz.func76 (by kernel_rfl) (by kernel_rfl) (by decide) (fun _ => rfl) (fun _ _ => rfl)
noncomputable def bP.cls : Cls := []
theorem bP.fU : bS Tryz.prog bP.cls := bS.nil
noncomputable def bP.K (v : SV) : Option (Bool) := (kJ [hB] v).map (fun z => (z.1.1))
noncomputable def bP.cuts : List Nat := []
noncomputable def bP.f (k : Nat) (a0_0 : Bool) (a0_1 : List Int) (a1_0 : Bool) (a1_1 : List Int) : Option (Bool) := evF Tryz.prog bP.cls Tryz.f117 bP.cuts k [.agg [cb a0_0, .a .u64 a0_1 10], .agg [cb a1_0, .a .u64 a1_1 10]] bP.K
noncomputable def bP.c : Fc := gX [.agg [.b, .a .u64 10], .agg [.b, .a .u64 10]] [hB] (T := Bool) (fun y => ((y, ()), ())) fun n x => bP.f n x.1.1 x.1.2.1 x.2.1.1 x.2.1.2.1
theorem bP.ok : gI Tryz.prog 117 bP.c := rC bP.fU Tryz.func117 (by kernel_rfl) (by kernel_rfl) (by decide) (fun _ => rfl) (fun _ _ => rfl)
noncomputable def bK.cls : Cls := [(117, bP.c)]
theorem bK.fU : bS Tryz.prog bK.cls := bS.cons bP.ok (bS.nil)
noncomputable def bK.K (v : SV) : Option (Bool × List Int) := (kJ [.agg [.b, .a .u64 10]] v).map (fun z => (z.1.1, z.1.2.1))
noncomputable def bK.cuts : List Nat := []
noncomputable def bK.f (k : Nat) (a0_0 : Bool) (a0_1 : List Int) (a1_0 : Bool) (a1_1 : List Int) : Option (Bool × List Int) := evF Tryz.prog bK.cls Tryz.f113 bK.cuts k [.agg [cb a0_0, .a .u64 a0_1 10], .agg [cb a1_0, .a .u64 a1_1 10]] bK.K
noncomputable def bK.c : Fc := gX [.agg [.b, .a .u64 10], .agg [.b, .a .u64 10]] [.agg [.b, .a .u64 10]] (T := Bool × List Int) (fun y => ((y.1, y.2, ()), ())) fun n x => bK.f n x.1.1 x.1.2.1 x.2.1.1 x.2.1.2.1
theorem bK.ok : gI Tryz.prog 113 bK.c := rC bK.fU Tryz.func113 (by kernel_rfl) (by kernel_rfl) (by decide) (fun _ => rfl) (fun _ _ => rfl)
noncomputable def bN.cls : Cls := [(113, bK.c)]
theorem bN.fU : bS Tryz.prog bN.cls := bS.cons bK.ok (bS.nil)
noncomputable def bN.K (v : SV) : Option (Bool × List Int) := (kJ [.agg [.b, .a .u64 10]] v).map (fun z => (z.1.1, z.1.2.1))
noncomputable def bN.cuts : List Nat := []
noncomputable def bN.f (k : Nat) (a0_0 : Bool) (a0_1 : List Int) (a1_0 : Bool) (a1_1 : List Int) : Option (Bool × List Int) := evF Tryz.prog bN.cls Tryz.f103 bN.cuts k [.agg [cb a0_0, .a .u64 a0_1 10], .agg [cb a1_0, .a .u64 a1_1 10]] bN.K
noncomputable def bN.c : Fc := gX [.agg [.b, .a .u64 10], .agg [.b, .a .u64 10]] [.agg [.b, .a .u64 10]] (T := Bool × List Int) (fun y => ((y.1, y.2, ()), ())) fun n x => bN.f n x.1.1 x.1.2.1 x.2.1.1 x.2.1.2.1
theorem bN.ok : gI Tryz.prog 103 bN.c := rC bN.fU Tryz.func103 (by kernel_rfl) (by kernel_rfl) (by decide) (fun _ => rfl) (fun _ _ => rfl)
noncomputable def cO.cls : Cls := []
theorem cO.fU : bS Tryz.prog cO.cls := bS.nil
noncomputable def cO.K (v : SV) : Option (Bool) := (kJ [hB] v).map (fun z => (z.1.1))
noncomputable def cO.cuts : List Nat := []
noncomputable def cO.f (k : Nat) (a0_0 : Bool) (a0_1 : List Int) : Option (Bool) := evF Tryz.prog cO.cls Tryz.f104 cO.cuts k [.agg [cb a0_0, .a .u64 a0_1 10]] cO.K
noncomputable def cO.c : Fc := gX [.agg [.b, .a .u64 10]] [hB] (T := Bool) (fun y => ((y, ()), ())) fun n x => cO.f n x.1.1 x.1.2.1
theorem cO.ok : gI Tryz.prog 104 cO.c := rC cO.fU Tryz.func104 (by kernel_rfl) (by kernel_rfl) (by decide) (fun _ => rfl) (fun _ _ => rfl)
noncomputable def aW.c : Fc := gX [hI .i64, hB] [hI .u32] (T := Int) (fun y => ((y, ()), ())) fun n x => aW.f x.1.1 x.2.1.1
theorem aW.ok : gI Tryz.prog 13 aW.c := eB Tryz.func13 (by kernel_rfl) (by kernel_rfl) (by decide) (fun _ => dF (by decide) _) fun n x y h m w => (aW.calls x.1.1 x.2.1.1 y w h).mono fun e w' he => ⟨he.1, he.2.below⟩
noncomputable def aS.c : Fc := gX [hI .u64] [hI .i64] (T := Int) (fun y => ((y, ()), ())) fun n x => aS.f n x.1.1
theorem aS.ok : gI Tryz.prog 106 aS.c := eB Tryz.func106 (by kernel_rfl) (by kernel_rfl) (by decide) (fun _ => dF (by decide) _) fun n x y h m w => (aS.calls n x.1.1 y w h).mono fun e w' he => ⟨he.1, he.2.below⟩
noncomputable def aA.c : Fc := gX [hI .i64, hI .i64, hB, hI .i64, hI .u64, hB] [hI .u32, .agg [.b, .b, .b, .b, .b]] (T := Int × Bool × Bool × Bool × Bool × Bool) (fun y => ((y.1, ()), (y.2.1, y.2.2.1, y.2.2.2.1, y.2.2.2.2.1, y.2.2.2.2.2, ()), ())) fun n x => aA.f n x.1.1 x.2.1.1 x.2.2.1.1 x.2.2.2.1.1 x.2.2.2.2.1.1 x.2.2.2.2.2.1.1
theorem aA.ok : gI Tryz.prog 77 aA.c := eB Tryz.func77 (by kernel_rfl) (by kernel_rfl) (by decide) (fun _ => dF (by decide) _) fun n x y h m w => (aA.calls n x.1.1 x.2.1.1 x.2.2.1.1 x.2.2.2.1.1 x.2.2.2.2.1.1 x.2.2.2.2.2.1.1 y.1 y.2.1 y.2.2.1 y.2.2.2.1 y.2.2.2.2.1 y.2.2.2.2.2 w h).mono fun e w' he => ⟨he.1, he.2⟩
noncomputable def aM.cls : Cls := [(106, aS.c), (77, aA.c)]
theorem aM.fU : bS Tryz.prog aM.cls := bS.cons aS.ok (bS.cons aA.ok (bS.nil))
noncomputable def aM.K (v : SV) : Option (Int × Bool × Bool × Bool × Bool × Bool) := (kJ [hI .u32, .agg [.b, .b, .b, .b, .b]] v).map (fun z => (z.1.1, z.2.1.1, z.2.1.2.1, z.2.1.2.2.1, z.2.1.2.2.2.1, z.2.1.2.2.2.2.1))
noncomputable def aM.cuts : List Nat := []
noncomputable def aM.f (k : Nat) (a0 a1 : Int) (a2_0 : Bool) (a2_1 : List Int) : Option (Int × Bool × Bool × Bool × Bool × Bool) := evF Tryz.prog aM.cls Tryz.f105 aM.cuts k [.one (.i .i64 (.x a0)), .one (.i .i64 (.x a1)), .agg [cb a2_0, .a .u64 a2_1 10]] aM.K
noncomputable def aM.c : Fc := gX [hI .i64, hI .i64, .agg [.b, .a .u64 10]] [hI .u32, .agg [.b, .b, .b, .b, .b]] (T := Int × Bool × Bool × Bool × Bool × Bool) (fun y => ((y.1, ()), (y.2.1, y.2.2.1, y.2.2.2.1, y.2.2.2.2.1, y.2.2.2.2.2, ()), ())) fun n x => aM.f n x.1.1 x.2.1.1 x.2.2.1.1 x.2.2.1.2.1
theorem aM.ok : gI Tryz.prog 105 aM.c := rC aM.fU Tryz.func105 (by kernel_rfl) (by kernel_rfl) (by decide) (fun _ => rfl) (fun _ _ => rfl)
noncomputable def bZ.cls : Cls := [(103, bN.c), (104, cO.c), (13, aW.c), (105, aM.c)]
theorem bZ.fU : bS Tryz.prog bZ.cls := bS.cons bN.ok (bS.cons cO.ok (bS.cons aW.ok (bS.cons aM.ok (bS.nil))))
noncomputable def bZ.K (v : SV) : Option (Int × Bool × Bool × Bool × Bool × Bool) := (kJ [hI .u32, .agg [.b, .b, .b, .b, .b]] v).map (fun z => (z.1.1, z.2.1.1, z.2.1.2.1, z.2.1.2.2.1, z.2.1.2.2.2.1, z.2.1.2.2.2.2.1))
noncomputable def bZ.cuts : List Nat := []
noncomputable def bZ.f (k : Nat) (a0 a1 : Int) (a2_0 : Bool) (a2_1 : List Int) (a3_0 : Bool) (a3_1 : List Int) : Option (Int × Bool × Bool × Bool × Bool × Bool) := evF Tryz.prog bZ.cls Tryz.f75 bZ.cuts k [.one (.i .i64 (.x a0)), .one (.i .i64 (.x a1)), .agg [cb a2_0, .a .u64 a2_1 10], .agg [cb a3_0, .a .u64 a3_1 10]] bZ.K
noncomputable def bZ.c : Fc := gX [hI .i64, hI .i64, .agg [.b, .a .u64 10], .agg [.b, .a .u64 10]] [hI .u32, .agg [.b, .b, .b, .b, .b]] (T := Int × Bool × Bool × Bool × Bool × Bool) (fun y => ((y.1, ()), (y.2.1, y.2.2.1, y.2.2.2.1, y.2.2.2.2.1, y.2.2.2.2.2, ()), ())) fun n x => bZ.f n x.1.1 x.2.1.1 x.2.2.1.1 x.2.2.1.2.1 x.2.2.2.1.1 x.2.2.2.1.2.1
theorem bZ.ok : gI Tryz.prog 75 bZ.c := rC bZ.fU Tryz.func75 (by kernel_rfl) (by kernel_rfl) (by decide) (fun _ => rfl) (fun _ _ => rfl)
noncomputable def aY.cls : Cls := [(68, aD.c), (71, bH.c), (70, aG.c), (72, bA.c), (14, aU.c), (69, aK.c), (74, aH.c), (76, bR.c), (75, bZ.c)]
theorem aY.fU : bS Tryz.prog aY.cls := bS.cons aD.ok (bS.cons bH.ok (bS.cons aG.ok (bS.cons bA.ok (bS.cons aU.ok (bS.cons aK.ok (bS.cons aH.ok (bS.cons bR.ok (bS.cons bZ.ok (bS.nil)))))))))
noncomputable def aY.K (v : SV) : Option (Int × Bool × Bool × Bool × Bool × Bool) := (kJ [hI .u32, .agg [.b, .b, .b, .b, .b]] v).map (fun z => (z.1.1, z.2.1.1, z.2.1.2.1, z.2.1.2.2.1, z.2.1.2.2.2.1, z.2.1.2.2.2.2.1))
noncomputable def aY.cuts : List Nat := [6, 12]
noncomputable def aY.f (k : Nat) (a0 a1 : Int) (a2 a3 : Int) : Option (Int × Bool × Bool × Bool × Bool × Bool) := evF Tryz.prog aY.cls Tryz.f41 aY.cuts k [.one (.i .i64 (.x a0)), .one (.i .i64 (.x a1)), .one (.i .u32 (.x a2)), .one (.i .u32 (.x a3))] aY.K
noncomputable def aY.c : Fc := gX [hI .i64, hI .i64, hI .u32, hI .u32] [hI .u32, .agg [.b, .b, .b, .b, .b]] (T := Int × Bool × Bool × Bool × Bool × Bool) (fun y => ((y.1, ()), (y.2.1, y.2.2.1, y.2.2.2.1, y.2.2.2.2.1, y.2.2.2.2.2, ()), ())) fun n x => aY.f n x.1.1 x.2.1.1 x.2.2.1.1 x.2.2.2.1.1
theorem aY.ok : gI Tryz.prog 41 aY.c := rC aY.fU Tryz.func41 (by kernel_rfl) (by kernel_rfl) (by decide) (fun _ => rfl) (fun _ _ => rfl)
noncomputable def bF.c : Fc := gX [hI .i64, hB] [hI .u32] (T := Int) (fun y => ((y, ()), ())) fun n x => bF.f x.1.1 x.2.1.1
theorem bF.ok : gI Tryz.prog 73 bF.c := eB Tryz.func73 (by kernel_rfl) (by kernel_rfl) (by decide) (fun _ => dF (by decide) _) fun n x y h m w => (bF.calls x.1.1 x.2.1.1 y w h).mono fun e w' he => ⟨he.1, he.2.below⟩
noncomputable def aP.cls : Cls := [(69, aK.c), (70, aG.c), (68, aD.c), (71, bH.c), (72, bA.c), (73, bF.c), (14, aU.c), (13, aW.c), (74, aH.c), (76, bR.c), (75, bZ.c)]
theorem aP.fU : bS Tryz.prog aP.cls := bS.cons aK.ok (bS.cons aG.ok (bS.cons aD.ok (bS.cons bH.ok (bS.cons bA.ok (bS.cons bF.ok (bS.cons aU.ok (bS.cons aW.ok (bS.cons aH.ok (bS.cons bR.ok (bS.cons bZ.ok (bS.nil)))))))))))
noncomputable def aP.K (v : SV) : Option (Int × Bool × Bool × Bool × Bool × Bool) := (kJ [hI .u32, .agg [.b, .b, .b, .b, .b]] v).map (fun z => (z.1.1, z.2.1.1, z.2.1.2.1, z.2.1.2.2.1, z.2.1.2.2.2.1, z.2.1.2.2.2.2.1))
noncomputable def aP.cuts : List Nat := [2, 5, 14]
noncomputable def aP.f (k : Nat) (a0 a1 : Int) (a2 a3 a4 : Int) : Option (Int × Bool × Bool × Bool × Bool × Bool) := evF Tryz.prog aP.cls Tryz.f37 aP.cuts k [.one (.i .i64 (.x a0)), .one (.i .i64 (.x a1)), .one (.i .u32 (.x a2)), .one (.i .u32 (.x a3)), .one (.i .u32 (.x a4))] aP.K
noncomputable def aP.c : Fc := gX [hI .i64, hI .i64, hI .u32, hI .u32, hI .u32] [hI .u32, .agg [.b, .b, .b, .b, .b]] (T := Int × Bool × Bool × Bool × Bool × Bool) (fun y => ((y.1, ()), (y.2.1, y.2.2.1, y.2.2.2.1, y.2.2.2.2.1, y.2.2.2.2.2, ()), ())) fun n x => aP.f n x.1.1 x.2.1.1 x.2.2.1.1 x.2.2.2.1.1 x.2.2.2.2.1.1
theorem aP.ok : gI Tryz.prog 37 aP.c := rC aP.fU Tryz.func37 (by kernel_rfl) (by kernel_rfl) (by decide) (fun _ => rfl) (fun _ _ => rfl)
noncomputable def dQ.c : Fc := gX [hI .i64, hI .u32] [hI .u32] (T := Int) (fun y => ((y, ()), ())) fun n x => dQ.f n x.1.1 x.2.1.1
theorem dQ.ok : gI Tryz.prog 36 dQ.c := eB Tryz.func36 (by kernel_rfl) (by kernel_rfl) (by decide) (fun _ => dF (by decide) _) fun n x y h m w => (dQ.calls n x.1.1 x.2.1.1 y w h).mono fun e w' he => ⟨he.1, he.2⟩
noncomputable def dA.cls : Cls := [(36, dQ.c), (41, aY.c)]
theorem dA.fU : bS Tryz.prog dA.cls := bS.cons dQ.ok (bS.cons aY.ok (bS.nil))
noncomputable def dA.K (v : SV) : Option (Int × Bool × Bool × Bool × Bool × Bool) := (kJ [hI .u32, .agg [.b, .b, .b, .b, .b]] v).map (fun z => (z.1.1, z.2.1.1, z.2.1.2.1, z.2.1.2.2.1, z.2.1.2.2.2.1, z.2.1.2.2.2.2.1))
noncomputable def dA.cuts : List Nat := []
noncomputable def dA.f (k : Nat) (a0 a1 : Int) (a2 a3 : Int) : Option (Int × Bool × Bool × Bool × Bool × Bool) := evF Tryz.prog dA.cls Tryz.f39 dA.cuts k [.one (.i .i64 (.x a0)), .one (.i .i64 (.x a1)), .one (.i .u32 (.x a2)), .one (.i .u32 (.x a3))] dA.K
noncomputable def dA.c : Fc := gX [hI .i64, hI .i64, hI .u32, hI .u32] [hI .u32, .agg [.b, .b, .b, .b, .b]] (T := Int × Bool × Bool × Bool × Bool × Bool) (fun y => ((y.1, ()), (y.2.1, y.2.2.1, y.2.2.2.1, y.2.2.2.2.1, y.2.2.2.2.2, ()), ())) fun n x => dA.f n x.1.1 x.2.1.1 x.2.2.1.1 x.2.2.2.1.1
theorem dA.ok : gI Tryz.prog 39 dA.c := rC dA.fU Tryz.func39 (by kernel_rfl) (by kernel_rfl) (by decide) (fun _ => rfl) (fun _ _ => rfl)
/- Functions' trees, printed by a tool of mine out of the reckoner; Lean's kernel checks each. -/
set_option maxRecDepth 100000
theorem bR.eq (n0 : Nat) (a0 : Bool) (a1 a2 : Int) : bR.f n0 a0 a1 a2 = (if 0 ≤ Int.tmod (wrap64 (a1 + 298)) 64 then (if 0 ≤ wrap64 (Int.tdiv (wrap64 (a1 + 298)) 64) then (if wrap64 (Int.tdiv (wrap64 (a1 + 298)) 64) < 10 then (if 0 < Int.tmod (wrap64 (a1 + 298)) 64 then (if wrap64 (Int.tdiv (wrap64 (a1 + 298)) 64) < 9 then (if 0 ≤ wrap64 (64 - Int.tmod (wrap64 (a1 + 298)) 64) then (if 0 ≤ wrap64 (wrap64 (Int.tdiv (wrap64 (a1 + 298)) 64) + 1) then (if wrap64 (wrap64 (Int.tdiv (wrap64 (a1 + 298)) 64) + 1) < 10 then (some ((a0, List.set (List.set (List.replicate 10 0) (Int.toNat (wrap64 (Int.tdiv (wrap64 (a1 + 298)) 64))) (shl IntKind.u64 a2 (Int.tmod (wrap64 (a1 + 298)) 64))) (Int.toNat (wrap64 (wrap64 (Int.tdiv (wrap64 (a1 + 298)) 64) + 1))) (shr IntKind.u64 a2 (wrap64 (64 - Int.tmod (wrap64 (a1 + 298)) 64)))))) else none) else none) else none) else (some ((a0, List.set (List.replicate 10 0) (Int.toNat (wrap64 (Int.tdiv (wrap64 (a1 + 298)) 64))) (shl IntKind.u64 a2 (Int.tmod (wrap64 (a1 + 298)) 64)))))) else (some ((a0, List.set (List.replicate 10 0) (Int.toNat (wrap64 (Int.tdiv (wrap64 (a1 + 298)) 64))) (shl IntKind.u64 a2 (Int.tmod (wrap64 (a1 + 298)) 64)))))) else none) else none) else none) := by kernel_rfl
noncomputable def bP.l2 (k n0 : Nat) (x0 : Int) (x1 : Bool) (x2 : List Int) (x3 : Bool) (x4 : List Int) := evIn Tryz.prog bP.cls Tryz.f117 bP.cuts [1, 0, 1, 0] [n0] k ⟨[(5, (.pv (.one (.i .i64 (.x x0))))), (3, (.pv (.one (.p 1 0)))), (2, (.pv (.one (.p 0 0))))], [(1, (91, [(.c (.b (.q x1))), (.a .u64 x2 10)])), (0, (91, [(.c (.b (.q x3))), (.a .u64 x4 10)]))], 2⟩ bP.K
theorem bP.eq (n0 : Nat) (a0_0 : Bool) (a0_1 : List Int) (a1_0 : Bool) (a1_1 : List Int) : bP.f n0 a0_0 a0_1 a1_0 a1_1 = (bP.l2 n0 n0 (Int.ofNat 9) (a1_0) (a1_1) (a0_0) (a0_1)) := by kernel_rfl
theorem bP.aAp (k n0 : Nat) (x0 : Int) (x1 : Bool) (x2 : List Int) (x3 : Bool) (x4 : List Int) : bP.l2 (k + 1) n0 x0 x1 x2 x3 x4 = (if 0 ≤ x0 then (if 0 ≤ x0 then (if x0 < 10 then (if 0 ≤ x0 then (if x0 < 10 then (if rd x4 x0 = rd x2 x0 then (bP.l2 k n0 (wrap64 (x0 - 1)) (x1) (x2) (x3) (x4)) else (if 0 ≤ x0 then (if x0 < 10 then (if 0 ≤ x0 then (if x0 < 10 then (some (decide (rd x4 x0 < rd x2 x0))) else none) else none) else none) else none)) else none) else none) else none) else none) else (some (false))) := by kernel_rfl
noncomputable def bK.l5 (k n0 : Nat) (x0 x1 : Int) (x2 : Bool) (x3 : List Int) (x4 : Bool) (x5 : List Int) (x6 : Bool) (x7 : List Int) := evIn Tryz.prog bK.cls Tryz.f113 bK.cuts [1, 1, 1, 0, 1, 0] [n0] k ⟨[(6, (.pv (.one (.i .i64 (.x x0))))), (5, (.pv (.one (.i .u64 (.x x1))))), (4, (.pv (.one (.p 2 0)))), (3, (.pv (.one (.p 1 0)))), (2, (.pv (.one (.p 0 0))))], [(2, (91, [(.c (.b (.q x2))), (.a .u64 x3 10)])), (1, (91, [(.c (.b (.q x4))), (.a .u64 x5 10)])), (0, (91, [(.c (.b (.q x6))), (.a .u64 x7 10)]))], 3⟩ bK.K
theorem bK.eq (n0 : Nat) (a0_0 : Bool) (a0_1 : List Int) (a1_0 : Bool) (a1_1 : List Int) : bK.f n0 a0_0 a0_1 a1_0 a1_1 = ((bP.f n0 a0_0 a0_1 a1_0 a1_1).bind fun t0 => (if t0 = true then (bK.l5 n0 n0 (Int.ofNat 0) (Int.ofNat 0) (false) (0 :: List.replicate 9 0) (a0_0) (a0_1) (a1_0) (a1_1)) else (bK.l5 n0 n0 (Int.ofNat 0) (Int.ofNat 0) (false) (0 :: List.replicate 9 0) (a1_0) (a1_1) (a0_0) (a0_1)))) := by kernel_rfl
theorem bK.aA5 (k n0 : Nat) (x0 x1 : Int) (x2 : Bool) (x3 : List Int) (x4 : Bool) (x5 : List Int) (x6 : Bool) (x7 : List Int) : bK.l5 (k + 1) n0 x0 x1 x2 x3 x4 x5 x6 x7 = (if x0 < 10 then (if 0 ≤ x0 then (if x0 < 10 then (if 0 ≤ x0 then (if x0 < 10 then (if 0 ≤ x0 then (if x0 < 10 then (if 0 ≤ x0 then (if x0 < 10 then (if rd x7 x0 < rd x5 x0 then (if 0 ≤ x0 then (if x0 < 10 then (bK.l5 k n0 (wrap64 (x0 + 1)) (Int.ofNat 1) (x2) (x3) (x4) (x5) (x6) (List.set x7 (Int.toNat x0) (IntKind.wrap IntKind.u64 (IntKind.wrap IntKind.u64 (rd x7 x0 - rd x5 x0) - x1)))) else none) else none) else (if IntKind.wrap IntKind.u64 (rd x7 x0 - rd x5 x0) < x1 then (if 0 ≤ x0 then (if x0 < 10 then (bK.l5 k n0 (wrap64 (x0 + 1)) (Int.ofNat 1) (x2) (x3) (x4) (x5) (x6) (List.set x7 (Int.toNat x0) (IntKind.wrap IntKind.u64 (IntKind.wrap IntKind.u64 (rd x7 x0 - rd x5 x0) - x1)))) else none) else none) else (if 0 ≤ x0 then (if x0 < 10 then (bK.l5 k n0 (wrap64 (x0 + 1)) (Int.ofNat 0) (x2) (x3) (x4) (x5) (x6) (List.set x7 (Int.toNat x0) (IntKind.wrap IntKind.u64 (IntKind.wrap IntKind.u64 (rd x7 x0 - rd x5 x0) - x1)))) else none) else none))) else none) else none) else none) else none) else none) else none) else none) else none) else (some ((x6, x7)))) := by kernel_rfl
noncomputable def bN.l5 (k n0 : Nat) (x0 x1 : Int) (x2 : Bool) (x3 : List Int) (x4 : Bool) (x5 : List Int) (x6 : Bool) (x7 : List Int) := evIn Tryz.prog bN.cls Tryz.f103 bN.cuts [1, 1, 1, 0, 1, 0] [n0] k ⟨[(6, (.pv (.one (.i .i64 (.x x0))))), (5, (.pv (.one (.i .u64 (.x x1))))), (4, (.pv (.one (.p 2 0)))), (3, (.pv (.one (.p 1 0)))), (2, (.pv (.one (.p 0 0))))], [(2, (91, [(.c (.b (.q x2))), (.a .u64 x3 10)])), (1, (91, [(.c (.b (.q x4))), (.a .u64 x5 10)])), (0, (91, [(.c (.b (.q x6))), (.a .u64 x7 10)]))], 3⟩ bN.K
theorem bN.eq (n0 : Nat) (a0_0 : Bool) (a0_1 : List Int) (a1_0 : Bool) (a1_1 : List Int) : bN.f n0 a0_0 a0_1 a1_0 a1_1 = (if (a0_0 == a1_0) = true then (bN.l5 n0 n0 (Int.ofNat 0) (Int.ofNat 0) (false) (0 :: List.replicate 9 0) (a1_0) (a1_1) (a0_0) (a0_1)) else ((bK.f n0 a0_0 a0_1 a1_0 a1_1).bind fun t0 => (some ((t0.1, t0.2))))) := by kernel_rfl
theorem bN.aA5 (k n0 : Nat) (x0 x1 : Int) (x2 : Bool) (x3 : List Int) (x4 : Bool) (x5 : List Int) (x6 : Bool) (x7 : List Int) : bN.l5 (k + 1) n0 x0 x1 x2 x3 x4 x5 x6 x7 = (if x0 < 10 then (if 0 ≤ x0 then (if x0 < 10 then (if 0 ≤ x0 then (if x0 < 10 then (if 0 ≤ x0 then (if x0 < 10 then (if IntKind.wrap IntKind.u64 (rd x7 x0 + rd x5 x0) < rd x7 x0 then (if 0 ≤ x0 then (if x0 < 10 then (bN.l5 k n0 (wrap64 (x0 + 1)) (Int.ofNat 1) (x2) (x3) (x4) (x5) (x6) (List.set x7 (Int.toNat x0) (IntKind.wrap IntKind.u64 (IntKind.wrap IntKind.u64 (rd x7 x0 + rd x5 x0) + x1)))) else none) else none) else (if IntKind.wrap IntKind.u64 (IntKind.wrap IntKind.u64 (rd x7 x0 + rd x5 x0) + x1) < IntKind.wrap IntKind.u64 (rd x7 x0 + rd x5 x0) then (if 0 ≤ x0 then (if x0 < 10 then (bN.l5 k n0 (wrap64 (x0 + 1)) (Int.ofNat 1) (x2) (x3) (x4) (x5) (x6) (List.set x7 (Int.toNat x0) (IntKind.wrap IntKind.u64 (IntKind.wrap IntKind.u64 (rd x7 x0 + rd x5 x0) + x1)))) else none) else none) else (if 0 ≤ x0 then (if x0 < 10 then (bN.l5 k n0 (wrap64 (x0 + 1)) (Int.ofNat 0) (x2) (x3) (x4) (x5) (x6) (List.set x7 (Int.toNat x0) (IntKind.wrap IntKind.u64 (IntKind.wrap IntKind.u64 (rd x7 x0 + rd x5 x0) + x1)))) else none) else none))) else none) else none) else none) else none) else none) else none) else (some ((x6, x7)))) := by kernel_rfl
theorem cO.eq (n0 : Nat) (a0_0 : Bool) (a0_1 : List Int) : cO.f n0 a0_0 a0_1 = (some (a0_1 ++ [] == List.replicate 10 0 ++ [])) := by kernel_rfl
noncomputable def aM.l2 (k n0 : Nat) (x0 x1 x2 : Int) (x3 x4 : Bool) (x5 x6 : Bool) (x7 x8 : Bool) (x9 : List Int) := evIn Tryz.prog aM.cls Tryz.f105 aM.cuts [1, 1, 0, 0] [n0] k ⟨[(8, (.pv (.one (.i .i64 (.x x0))))), (7, (.pv (.one (.p 1 0)))), (5, (.pv (.one (.p 0 0)))), (1, (.pv (.one (.i .i64 (.x x1))))), (0, (.pv (.one (.i .i64 (.x x2)))))], [(1, (60, [(.c (.b (.q x3))), (.c (.b (.q x4))), (.c (.b (.q x5))), (.c (.b (.q x6))), (.c (.b (.q x7)))])), (0, (91, [(.c (.b (.q x8))), (.a .u64 x9 10)]))], 2⟩ aM.K
noncomputable def aM.l19 (k n0 : Nat) (x0 : Int) (x1 : Bool) (x2 x3 : Int) (x4 x5 x6 : Int) (x7 x8 : Bool) (x9 x10 : Bool) (x11 x12 : Bool) (x13 : List Int) := evIn Tryz.prog aM.cls Tryz.f105 aM.cuts [1, 1, 1, 1, 1, 1, 1, 0, 1, 0, 1, 1, 1, 1, 1, 1, 1, 1, 0] [n0] k ⟨[(15, (.pv (.one (.i .i64 (.x x0))))), (12, (.pv (.one (.b (.q x1))))), (11, (.pv (.one (.i .i64 (.x x2))))), (10, (.pv (.one (.i .u64 (.x x3))))), (8, (.pv (.one (.i .i64 (.x x4))))), (7, (.pv (.one (.p 1 0)))), (5, (.pv (.one (.p 0 0)))), (1, (.pv (.one (.i .i64 (.x x5))))), (0, (.pv (.one (.i .i64 (.x x6)))))], [(1, (60, [(.c (.b (.q x7))), (.c (.b (.q x8))), (.c (.b (.q x9))), (.c (.b (.q x10))), (.c (.b (.q x11)))])), (0, (91, [(.c (.b (.q x12))), (.a .u64 x13 10)]))], 2⟩ aM.K
theorem aM.eq (n0 : Nat) (a0 a1 : Int) (a2_0 : Bool) (a2_1 : List Int) : aM.f n0 a0 a1 a2_0 a2_1 = (aM.l2 n0 n0 (Int.ofNat 9) (a1) (a0) (false) (false) (false) (false) (false) (a2_0) (a2_1)) := by kernel_rfl
theorem aM.aAp (k n0 : Nat) (x0 x1 x2 : Int) (x3 x4 : Bool) (x5 x6 : Bool) (x7 x8 : Bool) (x9 : List Int) : aM.l2 (k + 1) n0 x0 x1 x2 x3 x4 x5 x6 x7 x8 x9 = (if 0 ≤ x0 then (if x0 < 10 then (if rd x9 x0 = 0 then (aM.l2 k n0 (wrap64 (x0 - 1)) (x1) (x2) (x3) (x4) (x5) (x6) (x7) (x8) (x9)) else (if 0 ≤ x0 then (if x0 < 10 then ((aS.f n0 (rd x9 x0)).bind fun t0 => (if 0 ≤ x0 then (if x0 < 10 then (if 0 < x0 then (if 0 ≤ wrap64 (64 - t0) then (if 0 ≤ wrap64 (x0 - 1) then (if wrap64 (x0 - 1) < 10 then (if 0 ≤ t0 then (if t0 = 64 then (if 0 ≤ x0 then (if x0 < 10 then (if 0 ≤ wrap64 (x0 - 1) then (if wrap64 (x0 - 1) < 10 then (if t0 < 64 then (if 0 ≤ wrap64 (64 - t0) then (aM.l19 n0 n0 (Int.ofNat 0) (!(shl IntKind.u64 (rd x9 (wrap64 (x0 - 1))) (wrap64 (64 - t0)) == 0)) (wrap64 (wrap64 (wrap64 (64 * x0) - 298) - wrap64 (64 - t0))) (rd x9 x0) (x0) (x1) (x2) (x3) (x4) (x5) (x6) (x7) (x8) (x9)) else none) else (aM.l19 n0 n0 (Int.ofNat 0) (!(rd x9 (wrap64 (x0 - 1)) == 0)) (wrap64 (wrap64 (wrap64 (64 * x0) - 298) - wrap64 (64 - t0))) (rd x9 x0) (x0) (x1) (x2) (x3) (x4) (x5) (x6) (x7) (x8) (x9))) else none) else none) else none) else none) else (if 0 ≤ wrap64 (x0 - 1) then (if wrap64 (x0 - 1) < 10 then (if t0 < 64 then (if 0 ≤ wrap64 (64 - t0) then (aM.l19 n0 n0 (Int.ofNat 0) (!(shl IntKind.u64 (rd x9 (wrap64 (x0 - 1))) (wrap64 (64 - t0)) == 0)) (wrap64 (wrap64 (wrap64 (64 * x0) - 298) - wrap64 (64 - t0))) (bits BinOp.or IntKind.u64 (shl IntKind.u64 (rd x9 x0) (wrap64 (64 - t0))) (shr IntKind.u64 (rd x9 (wrap64 (x0 - 1))) t0)) (x0) (x1) (x2) (x3) (x4) (x5) (x6) (x7) (x8) (x9)) else none) else (aM.l19 n0 n0 (Int.ofNat 0) (!(rd x9 (wrap64 (x0 - 1)) == 0)) (wrap64 (wrap64 (wrap64 (64 * x0) - 298) - wrap64 (64 - t0))) (bits BinOp.or IntKind.u64 (shl IntKind.u64 (rd x9 x0) (wrap64 (64 - t0))) (shr IntKind.u64 (rd x9 (wrap64 (x0 - 1))) t0)) (x0) (x1) (x2) (x3) (x4) (x5) (x6) (x7) (x8) (x9))) else none) else none)) else none) else none) else none) else none) else ((aA.f n0 x2 x1 x8 (wrap64 (wrap64 (64 * x0) - 298)) (rd x9 x0) false).bind fun t1 => (some ((t1.1, t1.2.1, t1.2.2.1, t1.2.2.2.1, t1.2.2.2.2.1, t1.2.2.2.2.2))))) else none) else none)) else none) else none)) else none) else none) := by kernel_rfl
theorem aM.l19_eq (k n0 : Nat) (x0 : Int) (x1 : Bool) (x2 x3 : Int) (x4 x5 x6 : Int) (x7 x8 : Bool) (x9 x10 : Bool) (x11 x12 : Bool) (x13 : List Int) : aM.l19 (k + 1) n0 x0 x1 x2 x3 x4 x5 x6 x7 x8 x9 x10 x11 x12 x13 = (if x0 < wrap64 (x4 - 1) then (if x1 = true then (aM.l19 k n0 (wrap64 (x0 + 1)) (true) (x2) (x3) (x4) (x5) (x6) (x7) (x8) (x9) (x10) (x11) (x12) (x13)) else (if 0 ≤ x0 then (if x0 < 10 then (aM.l19 k n0 (wrap64 (x0 + 1)) (!(rd x13 x0 == 0)) (x2) (x3) (x4) (x5) (x6) (x7) (x8) (x9) (x10) (x11) (x12) (x13)) else none) else none)) else ((aA.f n0 x6 x5 x12 x2 x3 x1).bind fun t0 => (some ((t0.1, t0.2.1, t0.2.2.1, t0.2.2.2.1, t0.2.2.2.2.1, t0.2.2.2.2.2))))) := by kernel_rfl
theorem bZ.eq (n0 : Nat) (a0 a1 : Int) (a2_0 : Bool) (a2_1 : List Int) (a3_0 : Bool) (a3_1 : List Int) : bZ.f n0 a0 a1 a2_0 a2_1 a3_0 a3_1 = ((bN.f n0 a2_0 a2_1 a3_0 a3_1).bind fun t0 => ((YtfapjegkilljnaaGreat.E.cO.f n0 t0.1 t0.2).bind fun t1 => (if t1 = true then ((aW.f a0 (a1 == 3)).bind fun t2 => (some ((t2, false, false, false, false, false)))) else ((aM.f n0 a0 a1 t0.1 t0.2).bind fun t2 => (some ((t2.1, t2.2.1, t2.2.2.1, t2.2.2.2.1, t2.2.2.2.2.1, t2.2.2.2.2.2))))))) := by kernel_rfl
noncomputable def aY.j6 (n0 : Nat) (x0 x1 : Int) (x2 x3 : Int) (x4 x5 : Bool) (x6 x7 x8 : Bool) := jF Tryz.prog aY.cls Tryz.f41 aY.cuts [1, 1, 1] [n0] n0 ⟨[(9, (.pv (.one (.p 0 0)))), (3, (.pv (.one (.i .u32 (.x x0))))), (2, (.pv (.one (.i .u32 (.x x1))))), (1, (.pv (.one (.i .i64 (.x x2))))), (0, (.pv (.one (.i .i64 (.x x3)))))], [(0, (60, [(.c (.b (.q x4))), (.c (.b (.q x5))), (.c (.b (.q x6))), (.c (.b (.q x7))), (.c (.b (.q x8)))]))], 1⟩ aY.K
noncomputable def aY.j12 (n0 : Nat) (x0 x1 : Int) (x2 x3 : Int) (x4 x5 : Bool) (x6 x7 x8 : Bool) := jF Tryz.prog aY.cls Tryz.f41 aY.cuts [1, 1, 1, 1, 1, 1] [n0] n0 ⟨[(9, (.pv (.one (.p 0 0)))), (3, (.pv (.one (.i .u32 (.x x0))))), (2, (.pv (.one (.i .u32 (.x x1))))), (1, (.pv (.one (.i .i64 (.x x2))))), (0, (.pv (.one (.i .i64 (.x x3)))))], [(0, (60, [(.c (.b (.q x4))), (.c (.b (.q x5))), (.c (.b (.q x6))), (.c (.b (.q x7))), (.c (.b (.q x8)))]))], 1⟩ aY.K
theorem aY.eq (n0 : Nat) (a0 a1 : Int) (a2 a3 : Int) : aY.f n0 a0 a1 a2 a3 = ((aD.f n0 a0 [a2, a3]).bind fun t0 => (if t0.1 = true then ((bH.f a0).bind fun t1 => (some ((t1, t0.2, false, false, false, false)))) else ((aG.f n0 a0 a2).bind fun t1 => (if t1 = true then ((aG.f n0 a0 a3).bind fun t2 => (if t2 = true then ((bA.f a0 a2).bind fun t3 => ((bA.f a0 a3).bind fun t4 => (if (t3 == t4) = true then (aY.j6 n0 (a3) (a2) (a1) (a0) (false) (false) (false) (false) (false)) else ((bH.f a0).bind fun t5 => (some ((t5, true, false, false, false, false))))))) else (aY.j6 n0 (a3) (a2) (a1) (a0) (false) (false) (false) (false) (false)))) else (aY.j6 n0 (a3) (a2) (a1) (a0) (false) (false) (false) (false) (false)))))) := by kernel_rfl
theorem aY.xW (n0 : Nat) (x0 x1 : Int) (x2 x3 : Int) (x4 x5 : Bool) (x6 x7 x8 : Bool) : aY.j6 n0 x0 x1 x2 x3 x4 x5 x6 x7 x8 = ((aG.f n0 x3 x1).bind fun t0 => (if t0 = true then ((aU.f x3).bind fun t1 => (some ((bits BinOp.and IntKind.u32 x1 t1, false, false, false, false, false)))) else ((aG.f n0 x3 x0).bind fun t1 => (if t1 = true then ((aU.f x3).bind fun t2 => (some ((bits BinOp.and IntKind.u32 x0 t2, false, false, false, false, false)))) else ((aK.f n0 x3 x1).bind fun t2 => (if t2 = true then ((aK.f n0 x3 x0).bind fun t3 => (if t3 = true then ((bA.f x3 x1).bind fun t4 => ((bA.f x3 x0).bind fun t5 => (if (t4 == t5) = true then ((aU.f x3).bind fun t6 => (some ((bits BinOp.and IntKind.u32 x1 t6, false, false, false, false, false)))) else (aY.j12 n0 (x0) (x1) (x2) (x3) (x4) (x5) (x6) (x7) (x8))))) else (aY.j12 n0 (x0) (x1) (x2) (x3) (x4) (x5) (x6) (x7) (x8)))) else (aY.j12 n0 (x0) (x1) (x2) (x3) (x4) (x5) (x6) (x7) (x8)))))))) := by kernel_rfl
theorem aY.aCi (n0 : Nat) (x0 x1 : Int) (x2 x3 : Int) (x4 x5 : Bool) (x6 x7 x8 : Bool) : aY.j12 n0 x0 x1 x2 x3 x4 x5 x6 x7 x8 = ((aH.f n0 x3 x1).bind fun t0 => ((bR.f n0 t0.1 t0.2.1 t0.2.2).bind fun t1 => ((aH.f n0 x3 x0).bind fun t2 => ((bR.f n0 t2.1 t2.2.1 t2.2.2).bind fun t3 => ((bZ.f n0 x3 x2 t1.1 t1.2 t3.1 t3.2).bind fun t4 => (some ((t4.1, t4.2.1, t4.2.2.1, t4.2.2.2.1, t4.2.2.2.2.1, t4.2.2.2.2.2)))))))) := by kernel_rfl
noncomputable def aP.j2 (n0 : Nat) (x0 : Bool) (x1 x2 : Int) (x3 x4 x5 : Int) (x6 x7 : Bool) (x8 x9 x10 : Bool) := jF Tryz.prog aP.cls Tryz.f37 aP.cuts [1, 1] [n0] n0 ⟨[(12, (.pv (.one (.b (.q x0))))), (11, (.pv (.one (.p 0 0)))), (4, (.pv (.one (.i .u32 (.x x1))))), (3, (.pv (.one (.i .u32 (.x x2))))), (2, (.pv (.one (.i .u32 (.x x3))))), (1, (.pv (.one (.i .i64 (.x x4))))), (0, (.pv (.one (.i .i64 (.x x5)))))], [(0, (60, [(.c (.b (.q x6))), (.c (.b (.q x7))), (.c (.b (.q x8))), (.c (.b (.q x9))), (.c (.b (.q x10)))]))], 1⟩ aP.K
noncomputable def aP.j5 (n0 : Nat) (x0 x1 : Int) (x2 x3 x4 : Int) (x5 x6 : Bool) (x7 x8 x9 : Bool) := jF Tryz.prog aP.cls Tryz.f37 aP.cuts [1, 1, 1] [n0] n0 ⟨[(11, (.pv (.one (.p 0 0)))), (4, (.pv (.one (.i .u32 (.x x0))))), (3, (.pv (.one (.i .u32 (.x x1))))), (2, (.pv (.one (.i .u32 (.x x2))))), (1, (.pv (.one (.i .i64 (.x x3))))), (0, (.pv (.one (.i .i64 (.x x4)))))], [(0, (60, [(.c (.b (.q x5))), (.c (.b (.q x6))), (.c (.b (.q x7))), (.c (.b (.q x8))), (.c (.b (.q x9)))]))], 1⟩ aP.K
noncomputable def aP.j14 (n0 : Nat) (x0 : Bool) (x1 x2 : Int) (x3 x4 x5 : Int) (x6 x7 : Bool) (x8 x9 x10 : Bool) := jF Tryz.prog aP.cls Tryz.f37 aP.cuts [1, 1, 1, 1, 1, 1, 1] [n0] n0 ⟨[(15, (.pv (.one (.b (.q x0))))), (11, (.pv (.one (.p 0 0)))), (4, (.pv (.one (.i .u32 (.x x1))))), (3, (.pv (.one (.i .u32 (.x x2))))), (2, (.pv (.one (.i .u32 (.x x3))))), (1, (.pv (.one (.i .i64 (.x x4))))), (0, (.pv (.one (.i .i64 (.x x5)))))], [(0, (60, [(.c (.b (.q x6))), (.c (.b (.q x7))), (.c (.b (.q x8))), (.c (.b (.q x9))), (.c (.b (.q x10)))]))], 1⟩ aP.K
theorem aP.eq (n0 : Nat) (a0 a1 : Int) (a2 a3 a4 : Int) : aP.f n0 a0 a1 a2 a3 a4 = ((aK.f n0 a0 a2).bind fun t0 => (if t0 = true then ((aG.f n0 a0 a3).bind fun t1 => (if t1 = true then (aP.j2 n0 (true) (a4) (a3) (a2) (a1) (a0) (false) (false) (false) (false) (false)) else ((aG.f n0 a0 a2).bind fun t2 => (if t2 = true then ((aK.f n0 a0 a3).bind fun t3 => (aP.j2 n0 (t3) (a4) (a3) (a2) (a1) (a0) (false) (false) (false) (false) (false))) else (aP.j2 n0 (false) (a4) (a3) (a2) (a1) (a0) (false) (false) (false) (false) (false)))))) else ((aG.f n0 a0 a2).bind fun t1 => (if t1 = true then ((aK.f n0 a0 a3).bind fun t2 => (aP.j2 n0 (t2) (a4) (a3) (a2) (a1) (a0) (false) (false) (false) (false) (false))) else (aP.j2 n0 (false) (a4) (a3) (a2) (a1) (a0) (false) (false) (false) (false) (false)))))) := by kernel_rfl
theorem aP.j2_eq (n0 : Nat) (x0 : Bool) (x1 x2 : Int) (x3 x4 x5 : Int) (x6 x7 : Bool) (x8 x9 x10 : Bool) : aP.j2 n0 x0 x1 x2 x3 x4 x5 x6 x7 x8 x9 x10 = ((aD.f n0 x5 [x3, x2, x1]).bind fun t0 => (if t0.1 = true then ((bH.f x5).bind fun t1 => (if t0.2 = true then (some ((t1, true, false, false, false, false))) else (some ((t1, x0, false, false, false, false))))) else (if x0 = true then ((bH.f x5).bind fun t1 => (if t0.2 = true then (some ((t1, true, false, false, false, false))) else (some ((t1, x0, false, false, false, false))))) else (aP.j5 n0 (x1) (x2) (x3) (x4) (x5) (x6) (x7) (x8) (x9) (x10))))) := by kernel_rfl
theorem aP.j5_eq (n0 : Nat) (x0 x1 : Int) (x2 x3 x4 : Int) (x5 x6 : Bool) (x7 x8 x9 : Bool) : aP.j5 n0 x0 x1 x2 x3 x4 x5 x6 x7 x8 x9 = ((bA.f x4 x2).bind fun t0 => ((bA.f x4 x1).bind fun t1 => ((aG.f n0 x4 x2).bind fun t2 => (if t2 = true then ((aG.f n0 x4 x0).bind fun t3 => (if t3 = true then ((bA.f x4 x0).bind fun t4 => (if (t4 == !t0 == t1) = true then ((bF.f x4 !t0 == t1).bind fun t5 => (some ((t5, false, false, false, false, false)))) else ((bH.f x4).bind fun t5 => (some ((t5, true, false, false, false, false)))))) else ((bF.f x4 !t0 == t1).bind fun t4 => (some ((t4, false, false, false, false, false)))))) else ((aG.f n0 x4 x1).bind fun t3 => (if t3 = true then ((aG.f n0 x4 x0).bind fun t4 => (if t4 = true then ((bA.f x4 x0).bind fun t5 => (if (t5 == !t0 == t1) = true then ((bF.f x4 !t0 == t1).bind fun t6 => (some ((t6, false, false, false, false, false)))) else ((bH.f x4).bind fun t6 => (some ((t6, true, false, false, false, false)))))) else ((bF.f x4 !t0 == t1).bind fun t5 => (some ((t5, false, false, false, false, false)))))) else ((aG.f n0 x4 x0).bind fun t4 => (if t4 = true then ((aU.f x4).bind fun t5 => (some ((bits BinOp.and IntKind.u32 x0 t5, false, false, false, false, false)))) else ((aK.f n0 x4 x2).bind fun t5 => (if t5 = true then ((aK.f n0 x4 x0).bind fun t6 => (if t6 = true then ((bA.f x4 x0).bind fun t7 => (if ((!t0 == t1) == t7) = true then ((aW.f x4 !t0 == t1).bind fun t8 => (some ((t8, false, false, false, false, false)))) else (aP.j14 n0 (!(t0 == t1)) (x0) (x1) (x2) (x3) (x4) (x5) (x6) (x7) (x8) (x9)))) else (aP.j14 n0 (!(t0 == t1)) (x0) (x1) (x2) (x3) (x4) (x5) (x6) (x7) (x8) (x9)))) else ((aK.f n0 x4 x1).bind fun t6 => (if t6 = true then ((aK.f n0 x4 x0).bind fun t7 => (if t7 = true then ((bA.f x4 x0).bind fun t8 => (if ((!t0 == t1) == t8) = true then ((aW.f x4 !t0 == t1).bind fun t9 => (some ((t9, false, false, false, false, false)))) else (aP.j14 n0 (!(t0 == t1)) (x0) (x1) (x2) (x3) (x4) (x5) (x6) (x7) (x8) (x9)))) else (aP.j14 n0 (!(t0 == t1)) (x0) (x1) (x2) (x3) (x4) (x5) (x6) (x7) (x8) (x9)))) else (aP.j14 n0 (!(t0 == t1)) (x0) (x1) (x2) (x3) (x4) (x5) (x6) (x7) (x8) (x9)))))))))))))) := by kernel_rfl
theorem aP.aBu (n0 : Nat) (x0 : Bool) (x1 x2 : Int) (x3 x4 x5 : Int) (x6 x7 : Bool) (x8 x9 x10 : Bool) : aP.j14 n0 x0 x1 x2 x3 x4 x5 x6 x7 x8 x9 x10 = ((aH.f n0 x5 x3).bind fun t0 => ((aH.f n0 x5 x2).bind fun t1 => ((bR.f n0 x0 (wrap64 (t0.2.1 + t1.2.1)) (IntKind.wrap IntKind.u64 (t0.2.2 * t1.2.2))).bind fun t2 => ((aH.f n0 x5 x1).bind fun t3 => ((bR.f n0 t3.1 t3.2.1 t3.2.2).bind fun t4 => ((bZ.f n0 x5 x4 t2.1 t2.2 t4.1 t4.2).bind fun t5 => (some ((t5.1, t5.2.1, t5.2.2.1, t5.2.2.2.1, t5.2.2.2.2.1, t5.2.2.2.2.2))))))))) := by kernel_rfl
theorem dA.eq (n0 : Nat) (a0 a1 : Int) (a2 a3 : Int) : dA.f n0 a0 a1 a2 a3 = ((dQ.f n0 a0 a3).bind fun t0 => ((aY.f n0 a0 a1 a2 t0).bind fun t1 => (some ((t1.1, t1.2.1, t1.2.2.1, t1.2.2.2.1, t1.2.2.2.2.1, t1.2.2.2.2.2))))) := by kernel_rfl
end Go.Proofs.YtfapjegkilljnaaGreat.E

/- Plain facts about whole numbers in their kinds: wraps, shifts, bits, as numbers from nought on. -/
namespace Go.Proofs.YtfapjegkilljnaaGreat.Num
open Go.RowKit Go.Proofs.YtfapjegkilljnaaGreatW.PrintWords Go.Proofs.YtfapjegkilljnaaGreatW.PrintLast Go.Proofs.YtfapjegkilljnaaGreatW.PrintMore

theorem jZ (n : Int) : IntKind.u64.wrap n = n % 18446744073709551616 := by simp [IntKind.wrap, IntKind.bits, IntKind.signed]
theorem rD (n : Int) : IntKind.u32.wrap n = n % 4294967296 := by simp [IntKind.wrap, IntKind.bits, IntKind.signed]
theorem i64_wrap (n : Int) : IntKind.i64.wrap n = wrap64 n := by rw [i64_w]
theorem vV (n : Nat) : IntKind.u64.wrap (n : Int) = ((n % 18446744073709551616 : Nat) : Int) := by rw [jZ]; omega
theorem fD (n : Nat) (h : n < 18446744073709551616) : IntKind.u64.wrap (n : Int) = (n : Int) := by rw [jZ]; omega
theorem bW (n : Int) (h : -9223372036854775808 ≤ n) (h' : n ≤ 9223372036854775807) : wrap64 n = n := by unfold wrap64; omega
theorem lU {n : Int} (h : 0 ≤ n) : ∃ m : Nat, n = (m : Int) := ⟨n.toNat, by omega⟩

theorem vR (n : Nat) : ((2 ^ n : Nat) : Int) = (2 : Int) ^ n := by simp

theorem aA9 (k : IntKind) (v n : Nat) (hv : v < 2 ^ k.bits) : shr k (v : Int) (n : Int) = ((v / 2 ^ n : Nat) : Int) := by
 unfold shr
 rw [Int.toNat_natCast]
 by_cases h : n ≤ k.bits
 ·rw [Nat.min_eq_left h]; simp
 ·rw [Nat.min_eq_right (by omega), Nat.div_eq_of_lt (show v < 2 ^ n from Nat.lt_of_lt_of_le hv (Nat.pow_le_pow_right (by decide) (by omega)))]
  have : v / 2 ^ k.bits = 0 := Nat.div_eq_of_lt hv
  have e : ((v : Int) / 2 ^ k.bits) = ((v / 2 ^ k.bits : Nat) : Int) := by simp
  rw [e, this]
theorem nT (v n : Nat) (hv : v < 18446744073709551616) : shr .u64 (v : Int) (n : Int) = ((v / 2 ^ n : Nat) : Int) := aA9 .u64 v n hv
theorem rV (v n : Nat) (hv : v < 4294967296) : shr .u32 (v : Int) (n : Int) = ((v / 2 ^ n : Nat) : Int) := aA9 .u32 v n hv
theorem kP (v n : Nat) : shl .u64 (v : Int) (n : Int) = ((v * 2 ^ n % 18446744073709551616 : Nat) : Int) := by
 unfold shl
 rw [Int.toNat_natCast]
 by_cases h : n ≤ 64
 ·rw [show IntKind.u64.bits = 64 from rfl, Nat.min_eq_left h, show (v : Int) * 2 ^ n = ((v * 2 ^ n : Nat) : Int) by simp, vV]
 ·have e : (2 : Nat) ^ n = 18446744073709551616 * 2 ^ (n - 64) := by rw [show 18446744073709551616 = 2 ^ 64 from rfl, ← Nat.pow_add]; congr 1; omega
  rw [Nat.min_eq_right (show IntKind.u64.bits ≤ n by show 64 ≤ n; omega), show (v : Int) * 2 ^ IntKind.u64.bits = ((v * 18446744073709551616 : Nat) : Int) by simp [IntKind.bits], vV, Nat.mul_mod_left, e, ← Nat.mul_assoc, Nat.mul_comm v, Nat.mul_assoc, Nat.mul_mod_right]
theorem rY (v n : Nat) : shl .u32 (v : Int) (n : Int) = ((v * 2 ^ n % 4294967296 : Nat) : Int) := by
 unfold shl
 rw [Int.toNat_natCast]
 by_cases h : n ≤ 32
 ·rw [show IntKind.u32.bits = 32 from rfl, Nat.min_eq_left h, show (v : Int) * 2 ^ n = ((v * 2 ^ n : Nat) : Int) by simp, rD]; omega
 ·have e : (2 : Nat) ^ n = 4294967296 * 2 ^ (n - 32) := by rw [show 4294967296 = 2 ^ 32 from rfl, ← Nat.pow_add]; congr 1; omega
  rw [Nat.min_eq_right (show IntKind.u32.bits ≤ n by show 32 ≤ n; omega), show (v : Int) * 2 ^ IntKind.u32.bits = ((v * 4294967296 : Nat) : Int) by simp [IntKind.bits], rD, e, ← Nat.mul_assoc, Nat.mul_comm v, Nat.mul_assoc, Nat.mul_mod_right]; omega

theorem wraps_u64 (n : Int) (h₀ : 0 ≤ n) (h₁ : n < 2 ^ 64) : IntKind.u64.wrap n = n := by rw [jZ]; omega
theorem wraps_u32 (n : Int) (h₀ : 0 ≤ n) (h₁ : n < 2 ^ 32) : IntKind.u32.wrap n = n := by rw [rD]; omega
theorem and_u64 (a b : Nat) (ha : a < 18446744073709551616) (hb : b < 18446744073709551616) : Go.bits .and .u64 a b = ((a &&& b : Nat) : Int) := (bits_nat .u64 64 (by decide) wraps_u64 a b ha hb).1
theorem aAc (a b : Nat) (ha : a < 18446744073709551616) (hb : b < 18446744073709551616) : Go.bits .or .u64 a b = ((a ||| b : Nat) : Int) := (bits_nat .u64 64 (by decide) wraps_u64 a b ha hb).2
theorem yH (a b : Nat) (ha : a < 4294967296) (hb : b < 4294967296) : Go.bits .and .u32 a b = ((a &&& b : Nat) : Int) := (bits_nat .u32 32 (by decide) wraps_u32 a b ha hb).1
theorem oQ (a b : Nat) (ha : a < 4294967296) (hb : b < 4294967296) : Go.bits .or .u32 a b = ((a ||| b : Nat) : Int) := (bits_nat .u32 32 (by decide) wraps_u32 a b ha hb).2
theorem xS (a b : Nat) (ha : a < 4294967296) (hb : b < 4294967296) : Go.bits .xor .u32 a b = ((a ^^^ b : Nat) : Int) := by
 have e : (BitVec.ofInt 32 (a : Int) ^^^ BitVec.ofInt 32 (b : Int)).toNat = a ^^^ b := by
  rw [BitVec.toNat_xor, BitVec.ofInt_natCast, BitVec.ofInt_natCast, BitVec.toNat_ofNat, BitVec.toNat_ofNat, Nat.mod_eq_of_lt ha, Nat.mod_eq_of_lt hb]
 show IntKind.u32.wrap (((BitVec.ofInt 32 (a : Int) ^^^ BitVec.ofInt 32 (b : Int)).toNat : Nat) : Int) = _
 rw [e]
 exact wraps_u32 _ (Int.natCast_nonneg _) (by exact_mod_cast Nat.xor_lt_two_pow (n := 32) ha hb)
theorem vJ (a n : Nat) (ha : a < 18446744073709551616) (hn : n ≤ 64) : Go.bits .and .u64 a ((2 ^ n - 1 : Nat) : Int) = ((a % 2 ^ n : Nat) : Int) := by
 have h : 2 ^ n - 1 < 18446744073709551616 := by
  have := Nat.pow_le_pow_right (show 0 < 2 by decide) hn
  have : 0 < 2 ^ n := Nat.two_pow_pos n
  omega
 rw [and_u64 a _ ha h, Nat.and_two_pow_sub_one_eq_mod]
theorem o8 (a : Nat) (ha : a < 18446744073709551616) : Go.bits .and .u64 a 1 = ((a % 2 : Nat) : Int) := vJ a 1 ha (by decide)
theorem nD (a b n : Nat) (ha : a % 2 ^ n = 0) (hb : b < 2 ^ n) : a ||| b = a + b := by
 have hq : a = 2 ^ n * (a / 2 ^ n) := by have := Nat.div_add_mod a (2 ^ n); omega
 have := Nat.two_pow_add_eq_or_of_lt hb (a / 2 ^ n)
 rw [← hq] at this
 exact this.symm
end Go.Proofs.YtfapjegkilljnaaGreat.Num

/- What the functions of layer 1 compute, as plain numbers. -/
namespace Go.Proofs.YtfapjegkilljnaaGreat.BitsF
open Go.RowKit Go.Proofs.YtfapjegkilljnaaGreat.P Go.Proofs.YtfapjegkilljnaaGreat.Num Go.Proofs.YtfapjegkilljnaaGreatW.PrintWords Go.Proofs.YtfapjegkilljnaaGreatW.PrintLast Go.Proofs.YtfapjegkilljnaaGreatW.PrintMore

def lN (v : Nat) (n : Int) : Nat × Bool :=
 if 0 ≤ n then (v / 2 ^ n.toNat, decide (v % 2 ^ n.toNat ≠ 0)) else (v * 2 ^ (-n).toNat % 18446744073709551616, decide (18446744073709551616 ≤ v * 2 ^ (-n).toNat))
theorem jD (v n : Nat) : lN v (n : Int) = (v / 2 ^ n, decide (v % 2 ^ n ≠ 0)) := by
 unfold lN; rw [if_pos (by omega)]; simp
theorem lI (v n : Nat) (hv : v < 18446744073709551616) : lN v (-(n : Int)) = (v * 2 ^ n % 18446744073709551616, decide (18446744073709551616 ≤ v * 2 ^ n)) := by
 unfold lN
 by_cases h : n = 0
 ·subst h; simp [Nat.mod_one]; omega
 ·rw [if_neg (by omega)]; simp

theorem nQ {n : Nat} (h : 64 ≤ n) : 18446744073709551616 ≤ 2 ^ n := by
 have : 2 ^ 64 ≤ 2 ^ n := Nat.pow_le_pow_right (by decide) h
 omega
theorem aB1 {n : Nat} (h : n ≤ 64) : 2 ^ n * 2 ^ (64 - n) = 18446744073709551616 := by
 rw [← Nat.pow_add, show n + (64 - n) = 64 by omega]
theorem back_ne (v n : Nat) : decide (v / 2 ^ n * 2 ^ n ≠ v) = decide (v % 2 ^ n ≠ 0) := by
 have := Nat.div_add_mod v (2 ^ n)
 rw [Nat.mul_comm] at this
 congr 1
 apply propext
 constructor <;> intro h <;> omega
theorem aBt (v n : Nat) (hn : n ≤ 64) : decide ((v * 2 ^ n % 18446744073709551616) / 2 ^ n ≠ v) = decide (18446744073709551616 ≤ v * 2 ^ n) := by
 have hp : 0 < 2 ^ n := Nat.two_pow_pos n
 have e : v * 2 ^ n % 18446744073709551616 = (v % 2 ^ (64 - n)) * 2 ^ n := by
  rw [← aB1 hn, Nat.mul_comm (2 ^ n), Nat.mul_mod_mul_right]
 rw [e, Nat.mul_div_cancel _ hp]
 congr 1
 apply propext
 have hq : 0 < 2 ^ (64 - n) := Nat.two_pow_pos _
 have d := aB1 hn
 constructor
 ·intro h
  have : 2 ^ (64 - n) ≤ v := by
   apply Nat.le_of_not_lt; intro hlt; exact h (Nat.mod_eq_of_lt hlt)
  calc 18446744073709551616 = 2 ^ (64 - n) * 2 ^ n := by rw [Nat.mul_comm]; exact d.symm
   _ ≤ v * 2 ^ n := Nat.mul_le_mul_right _ this
 ·intro h h'
  have hlt : v < 2 ^ (64 - n) := by rw [← h']; exact Nat.mod_lt _ hq
  have : v * 2 ^ n < 2 ^ (64 - n) * 2 ^ n := Nat.mul_lt_mul_of_pos_right hlt hp
  rw [Nat.mul_comm (2 ^ (64 - n)), d] at this
  omega
theorem bne_cast (a b : Nat) : (((a : Int) != (b : Int)) : Bool) = decide (a ≠ b) := by
 by_cases h : a = b
 ·subst h; simp
 ·rw [bne_iff_ne.mpr (by omega)]; simp [h]

theorem vI (v : Nat) (hv : v < 18446744073709551616) (n : Int) (h1 : -9223372036854775808 ≤ n) (h2 : n ≤ 9223372036854775807) (k : Nat) :
  aT.f (k + 1) (v : Int) n = some ((((lN v n).1 : Nat) : Int), (lN v n).2) := by
 unfold aT.f
 by_cases c : n ≥ 64
 ·rw [if_pos c]
  simp only [aT.j0, if_true]
  obtain ⟨m, rfl⟩ := lU (show 0 ≤ n by omega)
  rw [jD]
  have := nQ (show 64 ≤ m by omega)
  rw [Nat.div_eq_of_lt (by omega), Nat.mod_eq_of_lt (by omega), ← bne_cast]; rfl
 ·rw [if_neg c]
  by_cases c' : n ≤ -64
  ·rw [decide_eq_true c']
   simp only [aT.j0, if_true]
   obtain ⟨m, hm⟩ := lU (show 0 ≤ -n by omega)
   obtain rfl : n = -(m : Int) := by omega
   rw [lI _ _ hv]
   have hb := nQ (show 64 ≤ m by omega)
   have e : (2 : Nat) ^ m = 18446744073709551616 * 2 ^ (m - 64) := by rw [show 18446744073709551616 = 2 ^ 64 from rfl, ← Nat.pow_add]; congr 1; omega
   have e1 : v * 2 ^ m % 18446744073709551616 = 0 := by rw [e, ← Nat.mul_assoc, Nat.mul_comm v, Nat.mul_assoc, Nat.mul_mod_right]
   have e2 : decide (18446744073709551616 ≤ v * 2 ^ m) = decide (v ≠ 0) := by
    congr 1; apply propext
    constructor
    ·intro h h0; subst h0; omega
    ·intro h
     calc 18446744073709551616 ≤ 2 ^ m := hb
      _ = 1 * 2 ^ m := (Nat.one_mul _).symm
      _ ≤ v * 2 ^ m := Nat.mul_le_mul_right _ (by omega)
   simp only [e1, e2]
   rw [← bne_cast]; rfl
  ·rw [decide_eq_false c']
   simp only [aT.j0, Bool.false_eq_true, if_false]
   by_cases c0 : n ≥ 0
   ·rw [if_pos c0]
    obtain ⟨m, rfl⟩ := lU c0
    rw [fD _ (by omega), if_pos (by omega), nT _ _ hv, kP, bne_cast, jD]
    have hle : v / 2 ^ m * 2 ^ m ≤ v := Nat.div_mul_le_self _ _
    rw [Nat.mod_eq_of_lt (by omega), back_ne]
   ·rw [if_neg c0]
    obtain ⟨m, hm⟩ := lU (show 0 ≤ -n by omega)
    obtain rfl : n = -(m : Int) := by omega
    rw [Int.neg_neg, bW _ (by omega) (by omega), fD _ (by omega), if_pos (by omega), kP, nT _ _ (Nat.mod_lt _ (by decide)), bne_cast, lI _ _ hv, aBt _ _ (by omega)]
theorem rO (v : Nat) (hv : v < 18446744073709551616) (n : Int) (h1 : -9223372036854775808 ≤ n) (h2 : n ≤ 9223372036854775807) :
  Ev (fun k => aT.f k (v : Int) n) ((((lN v n).1 : Nat) : Int), (lN v n).2) := Ev.of (aT.mono _ _) (vI v hv n h1 h2 0)

def fK (v : Nat) : Nat := if v = 0 then 0 else v.log2 + 1
theorem lF (v : Nat) : v < 2 ^ fK v := by
 unfold fK
 by_cases h : v = 0
 ·subst h; decide
 ·rw [if_neg h]; exact (Nat.log2_lt h).mp (Nat.lt_succ_self _)
theorem qI (v : Nat) (h : v ≠ 0) : 2 ^ (fK v - 1) ≤ v := by
 unfold fK
 rw [if_neg h, Nat.add_sub_cancel]
 exact (Nat.le_log2 h).mp (Nat.le_refl _)
theorem kS (v : Nat) (h : v ≠ 0) : 1 ≤ fK v := by unfold fK; rw [if_neg h]; omega
theorem lenN_of (v n : Nat) (h : v < 2 ^ n) (h' : n = 0 ∨ 2 ^ (n - 1) ≤ v) : fK v = n := by
 by_cases hv : v = 0
 ·subst hv
  rcases h' with h' | h'
  ·subst h'; rfl
  ·have := Nat.two_pow_pos (n - 1); omega
 ·have hn : n ≠ 0 := by intro e; subst e; simp at h; omega
  have h' := h'.resolve_left hn
  unfold fK; rw [if_neg hv]
  have a := (Nat.log2_lt hv).mpr h
  have b := (Nat.le_log2 hv).mpr h'
  omega
theorem fO (v n : Nat) (h : v < 2 ^ n) : fK v ≤ n := by
 by_cases hv : v = 0
 ·subst hv; exact Nat.zero_le _
 ·unfold fK; rw [if_neg hv]; exact (Nat.log2_lt hv).mpr h
theorem lenN_ge (v n : Nat) (h : 2 ^ n ≤ v) : n < fK v := by
 have hv : v ≠ 0 := by have := Nat.two_pow_pos n; omega
 unfold fK; rw [if_neg hv]; have := (Nat.le_log2 hv).mpr h; omega
theorem mW (v n : Nat) (h : 2 ^ n ≤ v) : fK (v / 2 ^ n) + n = fK v := by
 have hp := Nat.two_pow_pos n
 have hq : v / 2 ^ n ≠ 0 := by have := Nat.div_pos h hp; omega
 symm
 apply lenN_of
 ·rw [Nat.pow_add, Nat.mul_comm]
  exact Nat.lt_mul_of_div_lt (lF _) hp |> fun z => by rw [Nat.mul_comm] at z; exact z
 ·right
  have h1 := kS _ hq
  rw [show fK (v / 2 ^ n) + n - 1 = fK (v / 2 ^ n) - 1 + n by omega, Nat.pow_add]
  exact (Nat.le_div_iff_mul_le hp).mp (qI _ hq)
theorem oW (v n : Nat) (h : v ≠ 0) : fK (v * 2 ^ n) = fK v + n := by
 have hp := Nat.two_pow_pos n
 have := mW (v * 2 ^ n) n (Nat.le_mul_of_pos_left _ (by omega))
 rw [Nat.mul_div_cancel _ hp] at this
 omega
theorem aA1 (v : Nat) (h : v ≠ 0) : fK v = fK (v / 2) + 1 := by
 by_cases h1 : v = 1
 ·subst h1; decide
 ·have := mW v 1 (by omega)
  rw [Nat.pow_one] at this; omega
theorem tab_all : ∀ i : Fin 256, bt (⟨#[0, 1, 2, 2, 3, 3, 3, 3, 4, 4, 4, 4, 4, 4, 4, 4, 5, 5, 5, 5, 5, 5, 5, 5, 5, 5, 5, 5, 5, 5, 5, 5, 6, 6, 6, 6, 6, 6, 6, 6, 6, 6, 6, 6, 6, 6, 6, 6, 6, 6, 6, 6, 6, 6, 6, 6, 6, 6, 6, 6, 6, 6, 6, 6, 7, 7, 7, 7, 7, 7, 7, 7, 7, 7, 7, 7, 7, 7, 7, 7, 7, 7, 7, 7, 7, 7, 7, 7, 7, 7, 7, 7, 7, 7, 7, 7, 7, 7, 7, 7, 7, 7, 7, 7, 7, 7, 7, 7, 7, 7, 7, 7, 7, 7, 7, 7, 7, 7, 7, 7, 7, 7, 7, 7, 7, 7, 7, 7, 8, 8, 8, 8, 8, 8, 8, 8, 8, 8, 8, 8, 8, 8, 8, 8, 8, 8, 8, 8, 8, 8, 8, 8, 8, 8, 8, 8, 8, 8, 8, 8, 8, 8, 8, 8, 8, 8, 8, 8, 8, 8, 8, 8, 8, 8, 8, 8, 8, 8, 8, 8, 8, 8, 8, 8, 8, 8, 8, 8, 8, 8, 8, 8, 8, 8, 8, 8, 8, 8, 8, 8, 8, 8, 8, 8, 8, 8, 8, 8, 8, 8, 8, 8, 8, 8, 8, 8, 8, 8, 8, 8, 8, 8, 8, 8, 8, 8, 8, 8, 8, 8, 8, 8, 8, 8, 8, 8, 8, 8, 8, 8, 8, 8, 8, 8, 8, 8, 8, 8, 8, 8, 8, 8, 8, 8, 8, 8]⟩ : ByteArray) ((i.val : Nat) : Int) = (fK i.val : Int) := by decide +kernel
theorem uW (i : Nat) (h : i < 256) : bt (⟨#[0, 1, 2, 2, 3, 3, 3, 3, 4, 4, 4, 4, 4, 4, 4, 4, 5, 5, 5, 5, 5, 5, 5, 5, 5, 5, 5, 5, 5, 5, 5, 5, 6, 6, 6, 6, 6, 6, 6, 6, 6, 6, 6, 6, 6, 6, 6, 6, 6, 6, 6, 6, 6, 6, 6, 6, 6, 6, 6, 6, 6, 6, 6, 6, 7, 7, 7, 7, 7, 7, 7, 7, 7, 7, 7, 7, 7, 7, 7, 7, 7, 7, 7, 7, 7, 7, 7, 7, 7, 7, 7, 7, 7, 7, 7, 7, 7, 7, 7, 7, 7, 7, 7, 7, 7, 7, 7, 7, 7, 7, 7, 7, 7, 7, 7, 7, 7, 7, 7, 7, 7, 7, 7, 7, 7, 7, 7, 7, 8, 8, 8, 8, 8, 8, 8, 8, 8, 8, 8, 8, 8, 8, 8, 8, 8, 8, 8, 8, 8, 8, 8, 8, 8, 8, 8, 8, 8, 8, 8, 8, 8, 8, 8, 8, 8, 8, 8, 8, 8, 8, 8, 8, 8, 8, 8, 8, 8, 8, 8, 8, 8, 8, 8, 8, 8, 8, 8, 8, 8, 8, 8, 8, 8, 8, 8, 8, 8, 8, 8, 8, 8, 8, 8, 8, 8, 8, 8, 8, 8, 8, 8, 8, 8, 8, 8, 8, 8, 8, 8, 8, 8, 8, 8, 8, 8, 8, 8, 8, 8, 8, 8, 8, 8, 8, 8, 8, 8, 8, 8, 8, 8, 8, 8, 8, 8, 8, 8, 8, 8, 8, 8, 8, 8, 8, 8, 8]⟩ : ByteArray) (i : Int) = (fK i : Int) := tab_all ⟨i, h⟩
theorem nY (v : Nat) (h : v < 18446744073709551616) : fK v ≤ 64 := fO v 64 h
theorem len_j0 (k x c : Nat) (hx : x < 4294967296) (hc : c ≤ 64) : bits_Len64.j0 (k + 1) (x : Int) (c : Int) = some ((c + fK x : Nat) : Int) := by
 rw [bits_Len64.j0]
 have e1 : (x : Int) / 65536 = ((x / 65536 : Nat) : Int) := by omega
 have e2 : (x : Int) / 65536 / 256 = ((x / 65536 / 256 : Nat) : Int) := by omega
 have e3 : (x : Int) / 256 = ((x / 256 : Nat) : Int) := by omega
 by_cases c1 : (x : Int) ≥ 65536
 ·rw [if_pos c1]
  by_cases c2 : (x : Int) / 65536 ≥ 256
  ·rw [if_pos c2, e2, show ((x / 65536 / 256 : Nat) : Int) % 256 = ((x / 65536 / 256 : Nat) : Int) by omega, if_pos (by omega), if_pos (by omega), uW _ (by omega)]
   have h := mW x 24 (by omega)
   rw [show x / 2 ^ 24 = x / 65536 / 256 by omega] at h
   have b := fO (x / 65536 / 256) 8 (by omega)
   rw [bW (c + 16) (by omega) (by omega), bW (c + 16 + 8) (by omega) (by omega), bW (fK _) (by omega) (by omega), bW _ (by omega) (by omega)]
   congr 1; omega
  ·rw [if_neg c2, e1, show ((x / 65536 : Nat) : Int) % 256 = ((x / 65536 : Nat) : Int) by omega, if_pos (by omega), if_pos (by omega), uW _ (by omega)]
   have h := mW x 16 (by omega)
   rw [show x / 2 ^ 16 = x / 65536 by omega] at h
   have b := fO (x / 65536) 8 (by omega)
   rw [bW (c + 16) (by omega) (by omega), bW (fK _) (by omega) (by omega), bW _ (by omega) (by omega)]
   congr 1; omega
 ·rw [if_neg c1]
  by_cases c2 : (x : Int) ≥ 256
  ·rw [if_pos c2, e3, show ((x / 256 : Nat) : Int) % 256 = ((x / 256 : Nat) : Int) by omega, if_pos (by omega), if_pos (by omega), uW _ (by omega)]
   have h := mW x 8 (by omega)
   rw [show x / 2 ^ 8 = x / 256 by omega] at h
   have b := fO (x / 256) 8 (by omega)
   rw [bW (c + 8) (by omega) (by omega), bW (fK _) (by omega) (by omega), bW _ (by omega) (by omega)]
   congr 1; omega
  ·rw [if_neg c2, show (x : Int) % 256 = (x : Int) by omega, if_pos (by omega), if_pos (by omega), uW _ (by omega)]
   have b := fO x 8 (by omega)
   rw [bW (fK _) (by omega) (by omega), bW _ (by omega) (by omega)]
   congr 1
theorem len64_f (k v : Nat) (hv : v < 18446744073709551616) : bits_Len64.f (k + 1) (v : Int) = some (fK v : Int) := by
 unfold bits_Len64.f
 by_cases c : (v : Int) ≥ 4294967296
 ·rw [if_pos c, show (v : Int) / 4294967296 = ((v / 4294967296 : Nat) : Int) by omega]
  have h := len_j0 k (v / 4294967296) 32 (by omega) (by decide)
  have e := mW v 32 (by omega)
  rw [show v / 2 ^ 32 = v / 4294967296 by omega] at e
  rw [show ((32 : Nat) : Int) = 32 from rfl] at h
  rw [h]; congr 1; omega
 ·rw [if_neg c]
  have h := len_j0 k v 0 (by omega) (by decide)
  rw [show ((0 : Nat) : Int) = 0 from rfl] at h
  rw [h, Nat.zero_add]
theorem len_f (k v : Nat) (hv : v < 18446744073709551616) : bits_Len.f (k + 1) (v : Int) = some (fK v : Int) := by
 unfold bits_Len.f; rw [len64_f k v hv]; rfl
theorem aCf (v : Nat) (hv : v < 18446744073709551616) : Ev (fun k => bits_Len.f k (v : Int)) (fK v : Int) := Ev.of (bits_Len.mono _) (len_f 0 v hv)

def cutN (v : Nat) (n : Int) : Nat := if n < 1 then 0 else v % 2 ^ n.toNat
theorem cut_mask (v n : Nat) (hv : v < 18446744073709551616) (hn : n < 64) : Go.bits .and .u64 (v : Int) (IntKind.u64.wrap (shl .u64 1 (n : Int) - 1)) = ((v % 2 ^ n : Nat) : Int) := by
 have hp : 2 ^ n ≤ 2 ^ 63 := Nat.pow_le_pow_right (by decide) (by omega)
 have h0 := Nat.two_pow_pos n
 rw [show (1 : Int) = ((1 : Nat) : Int) from rfl, kP, Nat.one_mul, Nat.mod_eq_of_lt (by omega), show ((2 ^ n : Nat) : Int) - ((1 : Nat) : Int) = ((2 ^ n - 1 : Nat) : Int) by omega, fD _ (by omega), vJ _ _ hv (by omega)]
theorem cut_f (v : Nat) (hv : v < 18446744073709551616) (n : Int) (h2 : n ≤ 9223372036854775807) : fJ.f (v : Int) n = some (cutN v n : Int) := by
 unfold fJ.f cutN
 by_cases c : n < 1
 ·rw [if_pos c, if_pos c]; rfl
 ·rw [if_neg c, if_neg c]
  obtain ⟨m, rfl⟩ := lU (show 0 ≤ n by omega)
  by_cases c' : (m : Int) ≥ 64
  ·rw [if_pos c', Int.toNat_natCast, Nat.mod_eq_of_lt (by have := nQ (show 64 ≤ m by omega); omega)]
  ·rw [if_neg c', fD _ (by omega), if_pos (by omega), cut_mask _ _ hv (by omega), Int.toNat_natCast]
end Go.Proofs.YtfapjegkilljnaaGreat.BitsF

/- Whole numbers in limbs of 64 bits; rounds of two kinds: plain numbers alone. -/
namespace Go.Proofs.YtfapjegkilljnaaGreat.Round
open Go.RowKit Go.Proofs.YtfapjegkilljnaaGreat.P Go.Proofs.YtfapjegkilljnaaGreat.Num Go.Proofs.YtfapjegkilljnaaGreat.BitsF Go.Proofs.YtfapjegkilljnaaGreatW.PrintWords Go.Proofs.YtfapjegkilljnaaGreatW.PrintLast Go.Proofs.YtfapjegkilljnaaGreatW.PrintMore

def Ev2 {α : Type} (g : Nat → Nat → Option α) (r : α) : Prop := ∃ K, ∀ k n, K ≤ k → K ≤ n → g k n = some r
theorem Ev2.of {α : Type} {g : Nat → Option α} {r : α} (h : Ev g r) : Ev2 (fun _ n => g n) r := by
 obtain ⟨K, h⟩ := h
 exact ⟨K, fun _ n _ hn => h n hn⟩
theorem Ev2.now {α : Type} (r : α) : Ev2 (fun _ _ => some r) r := ⟨0, fun _ _ _ _ => rfl⟩
theorem Ev2.step {α : Type} {g f : Nat → Nat → Option α} {r : α} (h : ∀ k n, g (k + 1) n = f k n) (k : Ev2 f r) : Ev2 g r := by
 obtain ⟨K, k⟩ := k
 refine ⟨K + 1, fun m n hm hn => ?_⟩
 obtain ⟨q, rfl⟩ : ∃ q, m = q + 1 := ⟨m - 1, by omega⟩
 rw [h]; exact k q n (by omega) (by omega)
theorem Ev2.congr {α : Type} {g f : Nat → Nat → Option α} {r : α} (h : ∀ k n, g k n = f k n) (k : Ev2 f r) : Ev2 g r := by
 obtain ⟨K, k⟩ := k
 exact ⟨K, fun m n hm hn => (h m n).trans (k m n hm hn)⟩
theorem Ev2.diag {α : Type} {g : Nat → Nat → Option α} {r : α} (h : Ev2 g r) : Ev (fun n => g n n) r := by
 obtain ⟨K, h⟩ := h
 exact ⟨K, fun n hn => h n n hn hn⟩
theorem Ev2.bind {α β : Type} {g : Nat → Option α} {f : Nat → Nat → α → Option β} {a : α} {r : β} (h : Ev g a) (k : Ev2 (fun m n => f m n a) r) : Ev2 (fun m n => (g n).bind (f m n)) r := by
 obtain ⟨K, h⟩ := h
 obtain ⟨K', k⟩ := k
 refine ⟨max K K', fun m n hm hn => ?_⟩
 show (g n).bind (f m n) = some r
 rw [h n (by omega)]; exact k m n (by omega) (by omega)
theorem Ev2.inner {α : Type} {g : Nat → Nat → Option α} {r : α} (h : Ev2 g r) : Ev2 (fun _ n => g n n) r := Ev2.of (Ev2.diag h)

def lim (xs : List Int) (i : Nat) : Nat := (rd xs (i : Int)).toNat
def lo (xs : List Int) : Nat → Nat
 |0 => 0
 |i + 1 => lo xs i + lim xs i * 2 ^ (64 * i)
structure lQ (xs : List Int) : Prop where
 len : xs.length = 10
 rng : ∀ i : Nat, 0 ≤ rd xs (i : Int) ∧ rd xs (i : Int) < 18446744073709551616
theorem lQ.rd {xs : List Int} (h : lQ xs) (i : Nat) : Go.Proofs.YtfapjegkilljnaaGreatW.PrintWords.rd xs (i : Int) = (lim xs i : Int) := by
 have := h.rng i; unfold lim; omega
theorem lQ.lt {xs : List Int} (h : lQ xs) (i : Nat) : lim xs i < 18446744073709551616 := by
 have := h.rng i; unfold lim; omega
theorem xE (xs : List Int) (i j : Nat) (v : Int) (h : i < xs.length) : rd (xs.set i v) (j : Int) = if j = i then v else rd xs (j : Int) := by
 unfold rd
 rw [Int.toNat_natCast, List.getD_eq_getElem?_getD, List.getD_eq_getElem?_getD, List.getElem?_set]
 by_cases c : j = i
 ·subst c; rw [if_pos rfl, if_pos rfl, if_pos h]; rfl
 ·rw [if_neg (fun e => c e.symm), if_neg c]
theorem oI (xs : List Int) (i j : Nat) (v : Int) (h : i < xs.length) : lim (xs.set i v) j = if j = i then v.toNat else lim xs j := by
 unfold lim; rw [xE xs i j v h]; split <;> rfl
theorem lQ.set {xs : List Int} (h : lQ xs) (i v : Nat) (hi : i < 10) (hv : v < 18446744073709551616) : lQ (xs.set i (v : Int)) := by
 refine ⟨by rw [List.length_set]; exact h.len, fun j => ?_⟩
 rw [xE xs i j _ (by rw [h.len]; exact hi)]
 split
 ·omega
 ·exact h.rng j
theorem lo_congr {xs ys : List Int} {i : Nat} (h : ∀ j, j < i → lim xs j = lim ys j) : lo xs i = lo ys i := by
 induction i with
 |zero => rfl
 |succ i ih => unfold lo; rw [ih (fun j hj => h j (by omega)), h i (by omega)]
theorem aBQ (xs : List Int) (i : Nat) (v : Int) (h : i < xs.length) : lo (xs.set i v) i = lo xs i :=
 lo_congr fun j hj => by rw [oI xs i j v h, if_neg (by omega)]
theorem aCe (xs : List Int) (i v : Nat) (h : i < xs.length) (h0 : lim xs i = 0) : ∀ n, i < n → lo (xs.set i (v : Int)) n = lo xs n + v * 2 ^ (64 * i) := by
 intro n
 induction n with
 |zero => intro h; omega
 |succ n ih =>
  intro hn
  unfold lo
  rw [oI xs i n _ h]
  by_cases c : n = i
  ·subst c
   rw [if_pos rfl, aBQ xs n _ h, h0, Int.toNat_natCast]; omega
  ·rw [if_neg c, ih (by omega)]; omega
theorem lo_lt {xs : List Int} (h : lQ xs) (i : Nat) : lo xs i < 2 ^ (64 * i) := by
 induction i with
 |zero => exact Nat.one_pos
 |succ i ih =>
  unfold lo
  rw [show 64 * (i + 1) = 64 * i + 64 by omega, Nat.pow_add]
  have h1 := h.lt i
  have h2 : (lim xs i + 1) * 2 ^ (64 * i) ≤ 18446744073709551616 * 2 ^ (64 * i) := Nat.mul_le_mul_right _ h1
  rw [Nat.add_mul] at h2
  have : (2 : Nat) ^ 64 = 18446744073709551616 := by decide
  rw [this, Nat.mul_comm (2 ^ (64 * i))]
  omega
@[irreducible] def T640 : Nat := 2 ^ (64 * 10)
theorem vL : 2 ^ (64 * 10) = T640 := by unfold T640; rfl
theorem lo_top {xs : List Int} (h : lQ xs) : lo xs 10 < T640 := by rw [← vL]; exact lo_lt h 10
theorem tF {xs : List Int} (n : Nat) : lo xs n = 0 ↔ ∀ i, i < n → lim xs i = 0 := by
 induction n with
 |zero => exact ⟨fun _ i hi => by omega, fun _ => rfl⟩
 |succ n ih =>
  unfold lo
  have hp : 2 ^ (64 * n) ≠ 0 := by have := Nat.two_pow_pos (64 * n); omega
  constructor
  ·intro h i hi
   have h1 : lo xs n = 0 := by omega
   have h2 : lim xs n * 2 ^ (64 * n) = 0 := by omega
   by_cases c : i = n
   ·subst c; exact (Nat.mul_eq_zero.mp h2).resolve_right hp
   ·exact ih.mp h1 i (by omega)
  ·intro h
   rw [ih.mpr (fun i hi => h i (by omega)), h n (by omega), Nat.zero_mul]
theorem aCa : lQ (List.replicate 10 (0 : Int)) := by
 refine ⟨rfl, fun i => ?_⟩
 unfold rd
 rw [List.getD_eq_getElem?_getD, List.getElem?_replicate]
 split <;> simp
theorem rE (i : Nat) : lim (List.replicate 10 (0 : Int)) i = 0 := by
 unfold lim rd
 rw [List.getD_eq_getElem?_getD, List.getElem?_replicate]
 split <;> simp
theorem sG {xs : List Int} (h : lQ xs) : (xs ++ [] == List.replicate 10 (0 : Int) ++ []) = decide (lo xs 10 = 0) := by
 rw [List.append_nil, List.append_nil]
 by_cases z : lo xs 10 = 0
 ·rw [decide_eq_true z, beq_iff_eq]
  refine List.ext_getElem (by rw [h.len]; rfl) fun i h1 h2 => ?_
  have h3 := (tF 10).mp z i (by rw [h.len] at h1; exact h1)
  have h4 := h.rd i
  rw [h3] at h4
  unfold rd at h4
  rw [Int.toNat_natCast, List.getD_eq_getElem?_getD, List.getElem?_eq_getElem h1] at h4
  rw [List.getElem_replicate]
  simpa using h4
 ·rw [decide_eq_false z, beq_eq_false_iff_ne]
  intro e
  apply z
  rw [e]
  exact (tF 10).mpr fun i _ => rE i
theorem mO (xs : List Int) : lo xs 0 = 0 := rfl
theorem kQ (xs : List Int) (i : Nat) : lo xs (i + 1) = lo xs i + lim xs i * 2 ^ (64 * i) := rfl
attribute [irreducible] lo
end Go.Proofs.YtfapjegkilljnaaGreat.Round

/- What the program's package format computes, as plain numbers: widths, parts, classes, whole numbers and exponents. -/
namespace Go.Proofs.YtfapjegkilljnaaGreat.Fmt
open Go.RowKit Go.Proofs.YtfapjegkilljnaaGreat.P Go.Proofs.YtfapjegkilljnaaGreat.Num Go.Proofs.YtfapjegkilljnaaGreat.BitsF Go.Proofs.YtfapjegkilljnaaGreatW.PrintWords Go.Proofs.YtfapjegkilljnaaGreatW.PrintLast Go.Proofs.YtfapjegkilljnaaGreatW.PrintMore

def fe (f : Int) : Nat := if f = 0 then 5 else 8
def fm (f : Int) : Nat := if f = 0 then 10 else if f = 1 then 7 else 23
theorem rX (f : Int) : (fe f = 5 ∧ fm f = 10) ∨ (fe f = 8 ∧ fm f = 7) ∨ (fe f = 8 ∧ fm f = 23) := by
 unfold fe fm
 split
 ·exact .inl ⟨rfl, rfl⟩
 ·split
  ·exact .inr (.inl ⟨rfl, rfl⟩)
  ·exact .inr (.inr ⟨rfl, rfl⟩)
theorem dN (f : Int) : 5 ≤ fe f ∧ fe f ≤ 8 ∧ 7 ≤ fm f ∧ fm f ≤ 23 ∧ fe f + fm f ≤ 31 := by
 rcases rX f with ⟨h1, h2⟩ | ⟨h1, h2⟩ | ⟨h1, h2⟩ <;> rw [h1, h2] <;> decide
def gY (f : Int) : Nat := 2 ^ fe f - 1
def dL (f : Int) : Int := 2 - 2 ^ (fe f - 1)
theorem iC (f : Int) : dL f = -14 ∨ dL f = -126 := by
 unfold dL
 rcases rX f with ⟨h1, _⟩ | ⟨h1, _⟩ | ⟨h1, _⟩ <;> rw [h1] <;> simp
theorem iE (f : Int) : gY f = 31 ∨ gY f = 255 := by
 unfold gY
 rcases rX f with ⟨h1, _⟩ | ⟨h1, _⟩ | ⟨h1, _⟩ <;> rw [h1] <;> simp
def eP (f : Int) (neg : Bool) : Nat := if neg then 2 ^ (fe f + fm f) else 0
def dB (f : Int) (v : Nat) : Bool := decide (v / 2 ^ (fe f + fm f) % 2 = 1)
def mY (f : Int) (v : Nat) : Nat := v / 2 ^ fm f % 2 ^ fe f
def kK (f : Int) (v : Nat) : Nat := v % 2 ^ fm f
theorem zP (f : Int) (v : Nat) : mY f v ≤ gY f := by
 unfold mY gY
 have := Nat.mod_lt (v / 2 ^ fm f) (Nat.two_pow_pos (fe f))
 omega
theorem sK (f : Int) (v : Nat) : kK f v < 2 ^ fm f := Nat.mod_lt _ (Nat.two_pow_pos _)

theorem wu (n : Nat) (h : n < 9223372036854775808) : IntKind.u64.wrap (wrap64 (n : Int)) = (n : Int) := by rw [bW _ (by omega) (by omega), fD _ (by omega)]
theorem dU {n : Nat} (h : n ≤ 31) : 2 ^ n ≤ 2147483648 := Nat.pow_le_pow_right (show 0 < 2 by decide) h
theorem mP {n : Nat} (h : n ≤ 32) : 2 ^ n ≤ 4294967296 := Nat.pow_le_pow_right (show 0 < 2 by decide) h
theorem nJ (n : Nat) (h : n ≤ 31) : shl .u32 1 (n : Int) = ((2 ^ n : Nat) : Int) := by
 have := dU h
 rw [show (1 : Int) = ((1 : Nat) : Int) from rfl, rY, Nat.one_mul, Nat.mod_eq_of_lt (by omega)]
theorem rQ (a n : Nat) (ha : a < 4294967296) (hn : n ≤ 31) : Go.bits .and .u32 (a : Int) ((shl .u32 1 (n : Int) - 1) % 4294967296) = ((a % 2 ^ n : Nat) : Int) := by
 have h1 := dU hn
 have h0 := Nat.two_pow_pos n
 rw [nJ n hn, show (((2 ^ n : Nat) : Int) - 1) % 4294967296 = ((2 ^ n - 1 : Nat) : Int) by omega, yH _ _ ha (by omega), Nat.and_two_pow_sub_one_eq_mod]
theorem and1_u32 (a : Nat) (ha : a < 4294967296) : Go.bits .and .u32 (a : Int) 1 = ((a % 2 : Nat) : Int) := by
 rw [show (1 : Int) = ((2 ^ 1 - 1 : Nat) : Int) from rfl, yH _ _ ha (by decide), Nat.and_two_pow_sub_one_eq_mod]
theorem lK (n : Nat) (h : n ≤ 31) : shl .i64 1 (n : Int) = ((2 ^ n : Nat) : Int) := by
 have := dU h
 have := Nat.two_pow_pos n
 unfold shl
 rw [Int.toNat_natCast, Nat.min_eq_left (show n ≤ IntKind.i64.bits by show n ≤ 64; omega), i64_wrap, Int.one_mul, ← vR, bW _ (by omega) (by omega)]

theorem iT (f : Int) : bD.f f = some ((fe f : Int), (fm f : Int)) := by
 unfold bD.f fe fm
 by_cases h : f = 0
 ·subst h; rfl
 ·rw [if_neg h, if_neg h, if_neg h]
  by_cases h1 : f = 1
  ·subst h1; rfl
  ·rw [if_neg h1, if_neg h1]; rfl
def aAK (f : Int) (neg : Bool) (at_ frac : Nat) : Nat := at_ * 2 ^ fm f + frac + eP f neg
theorem wG (f : Int) (neg : Bool) (a c : Nat) (ha : a ≤ gY f) (hc : c < 2 ^ fm f) : cB.f f neg (a : Int) (c : Int) = some (aAK f neg a c : Int) := by
 unfold cB.f aAK eP
 rw [iT]
 obtain ⟨b1, b2, b3, b4, b5⟩ := dN f
 have hp := Nat.two_pow_pos (fm f)
 have hle : a * 2 ^ fm f + 2 ^ fm f ≤ 2 ^ (fe f + fm f) := by
  rw [Nat.pow_add, ← Nat.succ_mul]
  apply Nat.mul_le_mul_right
  unfold gY at ha
  have := Nat.two_pow_pos (fe f); omega
 have h31 := dU b5
 have e1 : shl .u32 ((a : Int) % 4294967296) (fm f : Int) = ((a * 2 ^ fm f : Nat) : Int) := by
  have : a < 4294967296 := by have := iE f; omega
  rw [show (a : Int) % 4294967296 = ((a : Nat) : Int) by omega, rY, Nat.mod_eq_of_lt (by omega)]
 have e2 : Go.bits .or .u32 ((a * 2 ^ fm f : Nat) : Int) (c : Int) = ((a * 2 ^ fm f + c : Nat) : Int) := by
  rw [oQ _ _ (by omega) (by omega), nD _ _ (fm f) (Nat.mul_mod_left ..) hc]
 simp only [Option.bind_some]
 rw [fD (fm f) (by omega), if_pos (by omega), e1, e2]
 cases neg
 ·simp
 ·simp only [if_true]
  rw [show (fe f : Int) + (fm f : Int) = ((fe f + fm f : Nat) : Int) by omega, wu _ (by omega), if_pos (by omega), nJ _ b5, oQ _ _ (by omega) (by omega), Nat.or_comm, nD _ (a * 2 ^ fm f + c) (fe f + fm f) (by simp) (by omega)]
  congr 2; omega
theorem yO (f : Int) : dI.f f = some (gY f : Int) := by
 unfold dI.f gY
 rw [iT]
 obtain ⟨b1, b2, b3, b4, b5⟩ := dN f
 have hp := Nat.two_pow_pos (fe f)
 have h31 := dU (show fe f ≤ 31 by omega)
 simp only [Option.bind_some]
 rw [fD (fe f) (by omega), if_pos (by omega), lK _ (by omega), bW _ (by omega) (by omega)]
 congr 1; omega
theorem qE (f : Int) : dC.f f = some (dL f) := by
 unfold dC.f dL
 rw [iT]
 obtain ⟨b1, b2, b3, b4, b5⟩ := dN f
 have h31 := dU (show fe f - 1 ≤ 31 by omega)
 have h0 := Nat.two_pow_pos (fe f - 1)
 simp only [Option.bind_some]
 rw [show (fe f : Int) - 1 = ((fe f - 1 : Nat) : Int) by omega, wu _ (by omega), if_pos (by omega), lK _ (by omega), bW _ (by omega) (by omega), vR]
theorem uL (f : Int) (neg : Bool) : dM.f f neg = some (eP f neg : Int) := by
 unfold dM.f
 have h := wG f neg 0 0 (Nat.zero_le _) (Nat.two_pow_pos _)
 rw [show ((0 : Nat) : Int) = 0 from rfl] at h
 rw [h]; unfold aAK; simp
def nG (f : Int) (neg : Bool) : Nat := gY f * 2 ^ fm f + eP f neg
theorem yE (f : Int) (neg : Bool) : dE.f f neg = some (nG f neg : Int) := by
 unfold dE.f nG
 have h := wG f neg (gY f) 0 (Nat.le_refl _) (Nat.two_pow_pos _)
 rw [show ((0 : Nat) : Int) = 0 from rfl] at h
 rw [yO]; simp only [Option.bind_some]; rw [h]; unfold aAK; simp
def pI (f : Int) (neg : Bool) : Nat := gY f * 2 ^ fm f - 1 + eP f neg
theorem aAJ (f : Int) (neg : Bool) : dO.f f neg = some (pI f neg : Int) := by
 unfold dO.f pI
 obtain ⟨b1, b2, b3, b4, b5⟩ := dN f
 have hp := Nat.two_pow_pos (fm f)
 have h31 := dU (show fm f ≤ 31 by omega)
 have ht := iE f
 rw [iT, yO]
 simp only [Option.bind_some]
 rw [fD (fm f) (by omega), if_pos (by omega), bW _ (by omega) (by omega), nJ _ (by omega), show (((2 ^ fm f : Nat) : Int) - 1) % 4294967296 = ((2 ^ fm f - 1 : Nat) : Int) by omega, show (gY f : Int) - 1 = ((gY f - 1 : Nat) : Int) by omega, wG f neg _ _ (by omega) (by omega)]
 simp only [Option.bind_some]
 unfold aAK
 congr 2
 have : gY f * 2 ^ fm f = (gY f - 1) * 2 ^ fm f + 2 ^ fm f := by rw [← Nat.succ_mul]; congr 1; omega
 omega
end Go.Proofs.YtfapjegkilljnaaGreat.Fmt

/- What the reference's formats are: the same plain numbers. -/
namespace Go.Proofs.YtfapjegkilljnaaGreat.Round
open Go.RowKit Go.Proofs.YtfapjegkilljnaaGreat.P Go.Proofs.YtfapjegkilljnaaGreat.Num Go.Proofs.YtfapjegkilljnaaGreat.BitsF Go.Proofs.YtfapjegkilljnaaGreat.Fmt Go.Proofs.YtfapjegkilljnaaGreatW.PrintWords Go.Proofs.YtfapjegkilljnaaGreatW.PrintLast Go.Proofs.YtfapjegkilljnaaGreatW.PrintMore

theorem nI (a b : Nat) : (((a : Int) == (b : Int)) : Bool) = decide (a = b) := by
 by_cases h : a = b
 ·subst h; simp
 ·rw [beq_eq_false_iff_ne.mpr (by omega)]; simp [h]
theorem fA (f : Int) : aF.f f = some ((fe f : Int), (fm f : Int)) := by
 unfold aF.f fe fm
 by_cases h : f = 0
 ·subst h; rfl
 ·rw [if_neg h, if_neg h, if_neg h]
  by_cases h1 : f = 1
  ·subst h1; rfl
  ·rw [if_neg h1, if_neg h1]; rfl
theorem nV (f : Int) (neg : Bool) : bQ.f f neg = some (eP f neg : Int) := by
 unfold bQ.f eP
 obtain ⟨b1, b2, b3, b4, b5⟩ := dN f
 rw [fA]; simp only [Option.bind_some]
 cases neg
 ·rfl
 ·simp only [if_true]
  rw [show (fe f : Int) + (fm f : Int) = ((fe f + fm f : Nat) : Int) by omega, bW _ (by omega) (by omega), if_pos (by omega), nJ _ b5]
theorem jE (f : Int) (neg : Bool) : aW.f f neg = some (eP f neg : Int) := by
 unfold aW.f; rw [nV]; rfl
theorem qD (f : Int) : bG.f f = some (1 - dL f) := by
 unfold bG.f dL
 obtain ⟨b1, b2, b3, b4, b5⟩ := dN f
 have h31 := dU (show fe f - 1 ≤ 31 by omega)
 have h0 := Nat.two_pow_pos (fe f - 1)
 rw [fA]; simp only [Option.bind_some]
 rw [show (fe f : Int) - 1 = ((fe f - 1 : Nat) : Int) by omega, bW _ (by omega) (by omega), if_pos (by omega), lK _ (by omega), bW _ (by omega) (by omega), ← vR]
 congr 1; omega
theorem lV (f : Int) (neg : Bool) : nG f neg < 4294967296 ∧ gY f * 2 ^ fm f + 2 ^ fm f = 2 ^ (fe f + fm f) := by
 obtain ⟨b1, b2, b3, b4, b5⟩ := dN f
 have h31 := dU b5
 have hp := Nat.two_pow_pos (fm f)
 have e : gY f * 2 ^ fm f + 2 ^ fm f = 2 ^ (fe f + fm f) := by
  rw [Nat.pow_add, ← Nat.succ_mul]; congr 1
  unfold gY; have := Nat.two_pow_pos (fe f); omega
 refine ⟨?_, e⟩
 unfold nG eP; split <;> omega
theorem kD (f : Int) (neg : Bool) : bF.f f neg = some (nG f neg : Int) := by
 unfold bF.f nG
 obtain ⟨b1, b2, b3, b4, b5⟩ := dN f
 obtain ⟨_, hi⟩ := lV f neg
 have h31 := dU b5
 have hp := Nat.two_pow_pos (fm f)
 have hpe := Nat.two_pow_pos (fe f)
 have h8 := dU (show fe f ≤ 31 by omega)
 rw [fA, nV]; simp only [Option.bind_some]
 rw [if_pos (by omega), if_pos (by omega), nJ _ (by omega), show (((2 ^ fe f : Nat) : Int) - 1) % 4294967296 = ((gY f : Nat) : Int) by unfold gY; omega, rY, Nat.mod_eq_of_lt (by omega)]
 unfold eP
 cases neg
 ·simp only [Bool.false_eq_true, if_false]
  rw [oQ _ _ (by omega) (by omega), Nat.zero_or, Nat.add_zero]
 ·simp only [if_true]
  rw [oQ _ _ (by omega) (by omega), nD _ _ (fe f + fm f) (by simp) (by omega), Nat.add_comm]
/- The reference's parts of a number, its class, its whole number and exponent, its place in the order: as plain numbers. -/

def lC (f : Int) (v : Nat) : Nat := v % 2 ^ (fe f + fm f + 1)
theorem aAj (f : Int) (v : Nat) : lC f v < 2 ^ (fe f + fm f + 1) := Nat.mod_lt _ (Nat.two_pow_pos _)
theorem aCg (f : Int) (v : Nat) : lC f v < 4294967296 := by
 obtain ⟨b1, b2, b3, b4, b5⟩ := dN f
 have := aAj f v
 have := mP (show fe f + fm f + 1 ≤ 32 by omega)
 omega
def maskN (f : Int) : Nat := 2 ^ (fe f + fm f + 1) - 1
theorem mask_lit (n : Nat) (hn : n ≤ 32) : (IntKind.u64.wrap (shl .u64 1 (n : Int) - 1)) % 4294967296 = ((2 ^ n - 1 : Nat) : Int) := by
 have h32 := mP hn
 have h0 := Nat.two_pow_pos n
 rw [show shl .u64 1 (n : Int) = _ from kP 1 n, Nat.one_mul]
 generalize 2 ^ n = P at *
 rw [Nat.mod_eq_of_lt (by omega), jZ]
 omega
theorem width_f (f : Int) : wrap64 ((wrap64 (1 + (fe f : Int))) + (fm f : Int)) = ((fe f + fm f + 1 : Nat) : Int) := by
 obtain ⟨b1, b2, b3, b4, b5⟩ := dN f
 rw [bW (1 + (fe f : Int)) (by omega) (by omega), bW _ (by omega) (by omega)]; omega
theorem gF (f : Int) : aU.f f = some (maskN f : Int) := by
 unfold aU.f
 have h := dN f
 rw [fA, Option.bind_some]
 dsimp only
 rw [width_f, mask_lit _ (by omega)]
 exact if_pos (Int.natCast_nonneg _)
theorem jY (f : Int) (v : Nat) (hv : v < 4294967296) : Go.bits .and .u32 (v : Int) (maskN f : Int) = (lC f v : Int) := by
 unfold maskN lC
 have h := dN f
 have h32 := mP (show fe f + fm f + 1 ≤ 32 by omega)
 generalize fe f + fm f + 1 = n at *
 have h0 := Nat.two_pow_pos n
 rw [yH _ _ hv (by omega), Nat.and_two_pow_sub_one_eq_mod]
theorem top_bit (f : Int) (v : Nat) : ((((lC f v / 2 ^ (fe f + fm f) : Nat) : Int) == 1) : Bool) = dB f (lC f v) := by
 rw [show (1 : Int) = ((1 : Nat) : Int) from rfl, nI]
 unfold dB
 have : lC f v / 2 ^ (fe f + fm f) < 2 := by rw [Nat.div_lt_iff_lt_mul (Nat.two_pow_pos _), Nat.mul_comm, ← Nat.pow_succ]; exact aAj f v
 rw [Nat.mod_eq_of_lt this]
theorem wF (a n : Nat) (hn : n ≤ 31) : wrap64 ((a % 2 ^ n : Nat) : Int) = ((a % 2 ^ n : Nat) : Int) := by
 have h1 := dU hn
 have h2 := Nat.mod_lt a (Nat.two_pow_pos n)
 generalize a % 2 ^ n = q at *
 exact bW _ (by omega) (by omega)
theorem aBe (a n : Nat) (hn : n ≤ 31) : IntKind.u64.wrap ((a % 2 ^ n : Nat) : Int) = ((a % 2 ^ n : Nat) : Int) := by
 have h1 := dU hn
 have h2 := Nat.mod_lt a (Nat.two_pow_pos n)
 generalize a % 2 ^ n = q at *
 exact fD _ (by omega)
theorem oH (f : Int) (v : Nat) (hv : v < 4294967296) : bV.f f (v : Int) = some (dB f (lC f v), (mY f (lC f v) : Int), (kK f (lC f v) : Int)) := by
 unfold bV.f
 obtain ⟨b1, b2, b3, b4, b5⟩ := dN f
 have hl := aCg f v
 rw [fA, Option.bind_some, gF, Option.bind_some]
 dsimp only
 rw [jY f v hv, show (fe f : Int) + (fm f : Int) = ((fe f + fm f : Nat) : Int) by omega, bW _ (by omega) (by omega), if_pos (by omega), if_pos (by omega), if_pos (by omega), rV _ _ hl, rV _ _ hl, rQ _ _ (Nat.lt_of_le_of_lt (Nat.div_le_self _ _) hl) (by omega), rQ _ _ hl (by omega), top_bit, wF _ _ (by omega), aBe _ _ (by omega)]
 unfold mY kK
 exact Eq.refl _
def bM (f : Int) (v : Nat) : Nat :=
 if mY f v = 0 then (if kK f v = 0 then 0 else 1) else if mY f v < gY f then 2 else if kK f v = 0 then 3 else if kK f v / 2 ^ (fm f - 1) = 1 then 4 else 5
theorem qN (f : Int) (v : Nat) (hv : v < 4294967296) : Ev (fun k => aI.f k f (v : Int)) (bM f (lC f v) : Int) := by
 obtain ⟨b1, b2, b3, b4, b5⟩ := dN f
 have h31 := dU (show fe f ≤ 31 by omega)
 have h0 := Nat.two_pow_pos (fe f)
 have hfr := sK f (lC f v)
 have h31' := dU (show fm f ≤ 31 by omega)
 refine ⟨1, fun k hk => ?_⟩
 obtain ⟨k, rfl⟩ : ∃ j, k = j + 1 := ⟨k - 1, by omega⟩
 unfold aI.f bM
 rw [fA, oH f v hv]
 simp only [Option.bind_some]
 generalize mY f (lC f v) = e
 generalize kK f (lC f v) = m at *
 have ht : wrap64 (((2 ^ fe f : Nat) : Int) - 1) = (gY f : Int) := by rw [bW _ (by omega) (by omega)]; unfold gY; omega
 by_cases c : e = 0
 ·subst c
  rw [if_pos (by rfl), aI.j0, if_pos rfl]
  by_cases c2 : m = 0
  ·subst c2; rfl
  ·rw [if_neg (by simp; omega), if_pos (by rfl), if_neg c2]; rfl
 ·rw [if_neg (by omega), aI.j0, if_neg (by decide), if_neg (by omega), if_pos (by omega), lK _ (by omega), ht, if_neg c]
  by_cases c2 : e < gY f
  ·rw [if_pos (by omega), if_pos c2]; rfl
  ·rw [if_neg (by omega), if_neg c2]
   by_cases c3 : m = 0
   ·rw [if_pos (by omega), if_pos c3]; rfl
   ·rw [if_neg (by omega), if_neg c3, bW _ (by omega) (by omega), if_pos (by omega), show (fm f : Int) - 1 = ((fm f - 1 : Nat) : Int) by omega, nT _ _ (by omega)]
    by_cases c4 : m / 2 ^ (fm f - 1) = 1
    ·rw [if_pos (by rw [c4]; rfl), if_pos c4]; rfl
    ·rw [if_neg (by omega), if_neg c4]; rfl
theorem qF (f : Int) (v : Nat) : bM f v < 3 ↔ mY f v < gY f := by
 have := iE f
 unfold bM
 split
 ·split <;> omega
 ·split
  ·omega
  ·split
   ·omega
   ·split <;> omega
def bJ (f : Int) (v : Nat) : Nat := if mY f v = 0 then kK f v else kK f v + 2 ^ fm f
def bB (f : Int) (v : Nat) : Int := dL f - fm f + (mY f v - 1 : Nat)
theorem or_top (m n : Nat) (h : m < 2 ^ n) (hn : n ≤ 31) : Go.bits .or .u64 (m : Int) (shl .u64 1 (n : Int)) = ((m + 2 ^ n : Nat) : Int) := by
 have h31 := dU hn
 rw [show (1 : Int) = ((1 : Nat) : Int) from rfl, kP, Nat.one_mul, Nat.mod_eq_of_lt (by omega), aAc _ _ (by omega) (by omega), Nat.or_comm, nD _ _ n (by simp) h, Nat.add_comm]
theorem wL (f : Int) (v : Nat) : lC f v = mY f (lC f v) * 2 ^ fm f + kK f (lC f v) + eP f (dB f (lC f v)) := by
 have hlt := aAj f v
 generalize lC f v = x at *
 unfold mY kK eP dB
 have h1 : x / 2 ^ (fe f + fm f) < 2 := by rw [Nat.div_lt_iff_lt_mul (Nat.two_pow_pos _), Nat.mul_comm, ← Nat.pow_succ]; exact hlt
 have h2 : x / 2 ^ fm f / 2 ^ fe f = x / 2 ^ (fe f + fm f) := by rw [Nat.div_div_eq_div_mul, ← Nat.pow_add, Nat.add_comm]
 have h3 := Nat.div_add_mod x (2 ^ fm f)
 have h4 := Nat.div_add_mod (x / 2 ^ fm f) (2 ^ fe f)
 rw [h2] at h4
 have h5 : 2 ^ (fe f + fm f) = 2 ^ fm f * 2 ^ fe f := by rw [← Nat.pow_add, Nat.add_comm]
 rw [Nat.mod_eq_of_lt h1]
 generalize x / 2 ^ (fe f + fm f) = b at *
 generalize hq : x / 2 ^ fm f % 2 ^ fe f = q at *
 generalize x % 2 ^ fm f = r at *
 rw [← h4, Nat.mul_add] at h3
 have h6 : b = 0 ∨ b = 1 := by omega
 rcases h6 with rfl | rfl
 ·rw [if_neg (by decide)]; rw [Nat.mul_comm q]; omega
 ·rw [if_pos (by decide), h5, Nat.mul_comm q]
  rw [Nat.mul_one] at h3
  omega
theorem aBk (f : Int) (v : Nat) (hv : v < 4294967296) : bA.f f (v : Int) = some (dB f (lC f v)) := by
 unfold bA.f; rw [oH f v hv]; rfl
/- The reference's classes and order of any numbers: plain numbers. -/

theorem vC (v a b c : Nat) (h : b + c ≤ a) : v % 2 ^ a / 2 ^ b % 2 ^ c = v / 2 ^ b % 2 ^ c := by
 apply Nat.eq_of_testBit_eq
 intro i
 rw [Nat.testBit_mod_two_pow, Nat.testBit_mod_two_pow, Nat.testBit_div_two_pow, Nat.testBit_div_two_pow, Nat.testBit_mod_two_pow]
 by_cases h1 : i < c
 ·have : i + b < a := by omega
  simp [h1, this]
 ·simp [h1]
theorem tK (f : Int) (v : Nat) : dB f (lC f v) = dB f v := by
 unfold dB lC
 have := vC v (fe f + fm f + 1) (fe f + fm f) 1 (Nat.le_refl _)
 rw [Nat.pow_one] at this
 rw [this]
theorem qC (f : Int) (v : Nat) : mY f (lC f v) = mY f v := vC v (fe f + fm f + 1) (fm f) (fe f) (by omega)
theorem rG (f : Int) (v : Nat) : kK f (lC f v) = kK f v := by
 have := vC v (fe f + fm f + 1) 0 (fm f) (by omega)
 rw [Nat.pow_zero, Nat.div_one, Nat.div_one] at this
 exact this
theorem zC (f : Int) (v : Nat) : bM f (lC f v) = bM f v := by unfold bM; rw [qC, rG]
theorem aBv (f : Int) (v : Nat) : bJ f (lC f v) = bJ f v := by unfold bJ; rw [qC, rG]
theorem aAm (f : Int) (v : Nat) : bB f (lC f v) = bB f v := by unfold bB; rw [qC]

theorem sF (f : Int) (v : Nat) (hv : v < 4294967296) : Ev (fun k => aI.f k f (v : Int)) (bM f v : Int) := by
 have := qN f v hv; rw [zC] at this; exact this
theorem kF (f : Int) (v : Nat) (hv : v < 4294967296) : bA.f f (v : Int) = some (dB f v) := by rw [aBk f v hv, tK]
theorem iB (f : Int) (v : Nat) (hv : v < 4294967296) : Ev (fun k => aK.f k f (v : Int)) (decide (bM f v = 0)) := by
 refine Ev.congr (fun k => by unfold aK.f; rfl) (Ev.bind (sF f v hv) (Ev.congr (fun k => ?_) (Ev.now _)))
 rw [show (0 : Int) = ((0 : Nat) : Int) from rfl, nI]
def dX (f : Int) (v : Nat) : Bool := decide (4 ≤ bM f v)
def fC (f : Int) (v : Nat) : Bool := decide (bM f v = 5)
theorem nZ (f : Int) (v : Nat) : bM f v ≤ 5 := by
 unfold bM
 repeat' split
 all_goals omega
theorem mK (f : Int) (L : List Int) (i v : Nat) (b c : Bool) (r : Bool × Bool) (hi : i < L.length) (hn : L.length ≤ 100) (hv : v < 4294967296) (hr : rd L (i : Int) = (v : Int))
  (h : Ev (fun k => aD.l0 k f L (b || dX f v) (c || fC f v) ((i + 1 : Nat) : Int)) r) : Ev (fun k => aD.l0 k f L b c (i : Int)) r := by
 have hw : wrap64 ((i : Int) + 1) = ((i + 1 : Nat) : Int) := by rw [bW _ (by omega) (by omega)]; omega
 have hc := nZ f v
 refine Ev.step (fun k => by rw [aD.l0, if_pos (by omega), if_pos (Int.natCast_nonneg _), hr, hw]) (Ev.bind (sF f v hv) (Ev.congr (fun k => ?_) h))
 have e5 : (((bM f v : Nat) : Int) == 5) = fC f v := by rw [show (5 : Int) = ((5 : Nat) : Int) from rfl, nI]; rfl
 rw [e5]
 cases b
 ·by_cases c4 : bM f v = 4
  ·have n4 : dX f v = true := by unfold dX; rw [c4]; rfl
   rw [if_neg (by decide), if_pos (by omega), n4]
   cases c <;> simp
  ·have n4 : dX f v = fC f v := by unfold dX fC; apply decide_eq_decide.mpr; omega
   rw [if_neg (by decide), if_neg (by omega), n4]
   cases c <;> simp
 ·cases c <;> simp
theorem vU (f : Int) (L : List Int) (b c : Bool) : Ev (fun k => aD.l0 k f L b c (L.length : Int)) (b, c) :=
 Ev.step (fun k => by rw [aD.l0, if_neg (by omega)]) (Ev.now _)
theorem zZ (f : Int) (v : Nat) (hv : v < 4294967296) : Ev (fun k => aD.f k f [(v : Int)]) (dX f v, fC f v) := by
 refine Ev.congr (fun k => by unfold aD.f; rfl) (mK f _ 0 v false false _ (by simp) (by simp) hv rfl ?_)
 rw [Bool.false_or, Bool.false_or]
 exact vU f [(v : Int)] _ _
theorem vG (f : Int) (a b : Nat) (ha : a < 4294967296) (hb : b < 4294967296) : Ev (fun k => aD.f k f [(a : Int), (b : Int)]) (dX f a || dX f b, fC f a || fC f b) := by
 refine Ev.congr (fun k => by unfold aD.f; rfl) (mK f _ 0 a false false _ (by simp) (by simp) ha rfl (mK f _ 1 b _ _ _ (by simp) (by simp) hb rfl ?_))
 rw [Bool.false_or, Bool.false_or]
 exact vU f [(a : Int), (b : Int)] _ _
/- The reference's finite numbers: their whole numbers and exponents. -/

theorem vK (f : Int) (v : Nat) (hv : v < 4294967296) (h : mY f (lC f v) < gY f) :
  Ev (fun k => aH.f k f (v : Int)) (dB f (lC f v), bB f (lC f v), (bJ f (lC f v) : Int)) := by
 obtain ⟨b1, b2, b3, b4, b5⟩ := dN f
 have hfr := sK f (lC f v)
 have hls := iC f
 have htp := iE f
 obtain ⟨K, hK⟩ := qN f v hv
 refine ⟨K, fun k hk => ?_⟩
 show aH.f k f (v : Int) = _
 unfold aH.f
 rw [fA, oH f v hv, show aI.f k f (v : Int) = _ from hK k hk, qD]
 simp only [Option.bind_some]
 unfold bB bJ bM
 generalize mY f (lC f v) = e at *
 generalize kK f (lC f v) = m at *
 by_cases c : e = 0
 ·subst c
  have e1 : wrap64 ((wrap64 (1 - (1 - dL f))) - (fm f : Int)) = dL f - fm f + ((0 - 1 : Nat) : Int) := by
   rw [bW (1 - (1 - dL f)) (by omega) (by omega), bW _ (by omega) (by omega)]; omega
  rw [e1]
  by_cases c2 : m = 0
  ·subst c2; rfl
  ·simp only [if_true, if_neg c2]; rfl
 ·rw [if_neg c, if_pos h, if_neg c]
  have e1 : wrap64 ((wrap64 ((e : Int) - (1 - dL f))) - (fm f : Int)) = dL f - fm f + ((e - 1 : Nat) : Int) := by
   rw [bW ((e : Int) - (1 - dL f)) (by omega) (by omega), bW _ (by omega) (by omega)]; omega
  rw [e1, or_top m _ hfr (by omega), if_pos (by rfl), if_pos (by omega)]
/- The program's parts of a number, its class, its whole number and exponent: as plain numbers; the reference's are the same. -/

theorem sum_w (f : Int) : IntKind.u64.wrap (wrap64 ((fe f : Int) + (fm f : Int))) = ((fe f + fm f : Nat) : Int) := by
 have h := dN f
 rw [show (fe f : Int) + (fm f : Int) = ((fe f + fm f : Nat) : Int) by omega, wu _ (by omega)]
theorem vS (f : Int) (v : Nat) (hv : v < 4294967296) : dY.f f (v : Int) = some (dB f v, (mY f v : Int), (kK f v : Int)) := by
 unfold dY.f
 have h := dN f
 have hd : v / 2 ^ (fe f + fm f) < 4294967296 := Nat.lt_of_le_of_lt (Nat.div_le_self _ _) hv
 have hd' : v / 2 ^ fm f < 4294967296 := Nat.lt_of_le_of_lt (Nat.div_le_self _ _) hv
 rw [iT, Option.bind_some]
 dsimp only
 rw [sum_w, fD (fm f) (by omega), fD (fe f) (by omega), if_pos (Int.natCast_nonneg _), if_pos (Int.natCast_nonneg _), if_pos (Int.natCast_nonneg _), rV _ _ hv, rV _ _ hv, and1_u32 _ hd, rQ _ _ hd' (by omega), rQ _ _ hv (by omega), wF _ _ (by omega)]
 rw [show (1 : Int) = ((1 : Nat) : Int) from rfl, nI]
 unfold dB mY kK
 exact Eq.refl _
theorem aAa (k : Nat) (f : Int) (e m : Nat) (he : e ≤ gY f) (hm : m < 2 ^ fm f) (hz : ¬ (e = 0 ∧ m = 0)) :
  aV.j0 (k + 1) f (fm f : Int) (e : Int) (m : Int) false = some (((if e = 0 then (if m = 0 then 0 else 1) else if e < gY f then 2 else if m = 0 then 3 else if m / 2 ^ (fm f - 1) = 1 then 4 else 5 : Nat)) : Int) := by
 have h := dN f
 have h31 := dU (show fm f ≤ 31 by omega)
 rw [aV.j0, if_neg (by decide)]
 by_cases c : e = 0
 ·subst c
  rw [if_pos (by rfl), if_pos rfl, if_neg (fun h => hz ⟨rfl, h⟩)]; rfl
 ·rw [if_neg (by omega), if_neg c, yO, Option.bind_some]
  by_cases c2 : e < gY f
  ·rw [if_pos (by omega), if_pos c2]; rfl
  ·rw [if_neg (by omega), if_neg c2]
   by_cases c3 : m = 0
   ·rw [if_pos (by omega), if_pos c3]; rfl
   ·rw [if_neg (by omega), if_neg c3, show (fm f : Int) - 1 = ((fm f - 1 : Nat) : Int) by omega, wu _ (by omega), if_pos (Int.natCast_nonneg _), rV _ _ (by omega)]
    by_cases c4 : m / 2 ^ (fm f - 1) = 1
    ·rw [if_pos (by rw [c4]; rfl), if_pos c4]; rfl
    ·rw [if_neg (by omega), if_neg c4]; rfl
theorem pE (f : Int) (v : Nat) (hv : v < 4294967296) : Ev (fun k => aV.f k f (v : Int)) (bM f v : Int) := by
 have he := zP f v
 have hm := sK f v
 refine ⟨1, fun k hk => ?_⟩
 obtain ⟨k, rfl⟩ : ∃ j, k = j + 1 := ⟨k - 1, by omega⟩
 show aV.f (k + 1) f (v : Int) = _
 unfold aV.f bM
 rw [iT, Option.bind_some, vS f v hv, Option.bind_some]
 dsimp only
 generalize mY f v = e at *
 generalize kK f v = m at *
 by_cases c : e = 0 ∧ m = 0
 ·obtain ⟨rfl, rfl⟩ := c
  rw [if_pos (by rfl), aV.j0, if_pos (by rfl), if_pos rfl, if_pos rfl]; rfl
 ·by_cases c2 : e = 0
  ·have e2 : (((m : Int) == 0) : Bool) = false := by simp; omega
   rw [if_pos (by omega), e2, aAa k f e m he hm c]
  ·rw [if_neg (by omega), aAa k f e m he hm c]
theorem sQ (f : Int) (v : Nat) (hv : v < 4294967296) : dJ.f f (v : Int) = some (dB f v) := by
 unfold dJ.f; rw [vS f v hv]; rfl
def pQ (f : Int) : Nat := gY f * 2 ^ fm f + 2 ^ (fm f - 1)
theorem wD (f : Int) : 2 ^ (fm f - 1) < 2 ^ fm f := by
 have h := dN f
 exact Nat.pow_lt_pow_right (by decide) (by omega)
theorem nan_f (f : Int) : iI.f f = some (pQ f : Int) := by
 unfold iI.f
 have h := dN f
 rw [iT, Option.bind_some, yO, Option.bind_some]
 dsimp only
 rw [show (fm f : Int) - 1 = ((fm f - 1 : Nat) : Int) by omega, wu _ (by omega), if_pos (Int.natCast_nonneg _), nJ _ (by omega), wG f false _ _ (Nat.le_refl _) (wD f), Option.bind_some]
 unfold aAK pQ
 simp [eP]
theorem aAH (f : Int) : eY.f f = some ((pQ f : Int), true, false, false, false, false) := by
 unfold eY.f; rw [nan_f]; rfl
theorem iN (f : Int) : bH.f f = some (pQ f : Int) := by
 unfold bH.f
 have h := dN f
 obtain ⟨hi, _⟩ := lV f false
 have hh := wD f
 have h31 := dU (show fm f ≤ 31 by omega)
 rw [fA, Option.bind_some, kD, Option.bind_some]
 dsimp only
 rw [show (fm f : Int) - 1 = ((fm f - 1 : Nat) : Int) by omega, bW _ (by omega) (by omega), if_pos (Int.natCast_nonneg _), nJ _ (by omega), oQ _ _ hi (by omega)]
 unfold nG pQ
 rw [show eP f false = 0 from rfl, Nat.add_zero, nD _ _ (fm f) (Nat.mul_mod_left ..) hh]
theorem unpack_f (f : Int) (v : Nat) (hv : v < 4294967296) (h : mY f v < gY f) : fM.f f (v : Int) = some (dB f v, bB f v, (bJ f v : Int)) := by
 unfold fM.f bB bJ
 obtain ⟨b1, b2, b3, b4, b5⟩ := dN f
 have hm := sK f v
 have h31 := dU (show fm f ≤ 31 by omega)
 have hl := iC f
 have ht := iE f
 rw [iT, Option.bind_some, vS f v hv, Option.bind_some]
 dsimp only
 generalize mY f v = e at *
 generalize kK f v = m at *
 by_cases c : e = 0
 ·subst c
  rw [if_pos (by rfl), qE, Option.bind_some, if_pos rfl, bW (dL f - fm f) (by omega) (by omega), fD m (by omega)]
  simp
 ·rw [if_neg (by omega), yO, Option.bind_some, if_neg (by omega), qE, Option.bind_some, if_neg c, fD (fm f) (by omega), if_pos (Int.natCast_nonneg _), fD m (by omega), or_top m _ hm (by omega), bW (dL f - fm f) (by omega) (by omega), bW (dL f - fm f + e) (by omega) (by omega), bW _ (by omega) (by omega), show dL f - (fm f : Int) + (e : Int) - 1 = dL f - fm f + ((e - 1 : Nat) : Int) by omega]
theorem of_f (f : Int) (v : Nat) (hv : v < 4294967296) (h : mY f v < gY f) : eZ.f f (v : Int) = some (dB f v, bB f v, (bJ f v : Int), false) := by
 unfold eZ.f; rw [unpack_f f v hv h]; rfl

theorem iJ (f : Int) (v : Nat) (hv : v < 4294967296) (h : mY f v < gY f) : Ev (fun k => aH.f k f (v : Int)) (dB f v, bB f v, (bJ f v : Int)) := by
 have := vK f v hv (by rw [qC]; exact h); rw [tK, aAm, aBv] at this; exact this
theorem gG (f : Int) (v : Nat) (hv : v < 4294967296) : Ev (fun k => aG.f k f (v : Int)) (decide (bM f v = 3)) := by
 refine Ev.congr (fun k => by unfold aG.f; rfl) (Ev.bind (sF f v hv) (Ev.congr (fun k => ?_) (Ev.now _)))
 rw [show (3 : Int) = ((3 : Nat) : Int) from rfl, nI]
end Go.Proofs.YtfapjegkilljnaaGreat.Round

-- Printed by a program of this session's out of Lean's print of the translation; Lean checks it.
namespace Go.Proofs.YtfapjegkilljnaaGreat.P
open Go.RowKit Go.Proofs.YtfapjegkilljnaaGreatW.PrintWords Go.Proofs.YtfapjegkilljnaaGreatW.PrintLast Go.Proofs.YtfapjegkilljnaaGreatW.PrintMore
attribute [local go_sem] max2_int min2_int max_two min_two max_three min_three max_four min_four

-- NEED 1
/-! ### aC: function 63 -/
mutual
def aC.j0 : Nat → Int → Int → Bool → Int → Int → Bool → Bool → Option (Int × Bool × Bool × Bool × Bool × Bool)
 |0, _, _, _, _, _, _, _ => none
 |k + 1, x0, x1, x2, x3, x4, x5, x29 => if x29 = true then ((dM.f x0 x2).bind fun t240 => (some (t240, false, false, false, false, false))) else ((bD.f x0).bind fun bt241 => ((dG.f k x0 x3 x4).bind fun t243 => ((cZ.f k x4 (wrap64 (t243 - x3)) x5).bind fun bt244 => ((iL.f x1 x2 bt244.1 bt244.2).bind fun t246 => (if t246 = true then (aC.j1 k x0 x1 x2 x3 x4 bt241.2 t243 (IntKind.u64.wrap (bt244.1 + 1)) bt244.2) else (aC.j1 k x0 x1 x2 x3 x4 bt241.2 t243 bt244.1 bt244.2))))))
def aC.j1 : Nat → Int → Int → Bool → Int → Int → Int → Int → Int → Int → Option (Int × Bool × Bool × Bool × Bool × Bool)
 |0, _, _, _, _, _, _, _, _, _ => none
 |k + 1, x0, x1, x2, x3, x4, x15, x16, x17, x18 => if 0 ≤ (IntKind.u64.wrap (wrap64 (x15 + 1))) then (if (shr .u64 x17 (IntKind.u64.wrap (wrap64 (x15 + 1)))) = 0 then (aC.j2 k x0 x1 x2 x3 x4 x15 x16 x17 x18) else (aC.j2 k x0 x1 x2 x3 x4 x15 (wrap64 (x16 + 1)) (x17 / 2) x18)) else (none)
def aC.j2 : Nat → Int → Int → Bool → Int → Int → Int → Int → Int → Int → Option (Int × Bool × Bool × Bool × Bool × Bool)
 |0, _, _, _, _, _, _, _, _, _ => none
 |k + 1, x0, x1, x2, x3, x4, x15, x16, x17, x18 => (dC.f x0).bind fun t247 => (if 0 ≤ (IntKind.u64.wrap (x15)) then (if (shr .u64 x17 (IntKind.u64.wrap (x15))) = 0 then (aC.j3 k x0 x1 x2 x3 x4 x15 x17 x18 0) else (aC.j3 k x0 x1 x2 x3 x4 x15 x17 x18 (wrap64 ((wrap64 ((wrap64 (x16 + x15)) - t247)) + 1)))) else (none))
def aC.j3 : Nat → Int → Int → Bool → Int → Int → Int → Int → Int → Int → Option (Int × Bool × Bool × Bool × Bool × Bool)
 |0, _, _, _, _, _, _, _, _, _ => none
 |k + 1, x0, x1, x2, x3, x4, x15, x17, x18, x19 => (dI.f x0).bind fun t248 => (if x19 ≥ t248 then ((bY.f x0 x1 x2).bind fun bt249 => (some (bt249.1, bt249.2.1, bt249.2.2.1, bt249.2.2.2.1, bt249.2.2.2.2.1, bt249.2.2.2.2.2))) else (if x18 = 0 then ((fJ.f x17 x15).bind fun t256 => ((cB.f x0 x2 x19 ((t256) % 4294967296)).bind fun t257 => (some (t257, false, false, false, false, (x18 != 0))))) else (if x4 = 0 then ((fJ.f x17 x15).bind fun t258 => ((cB.f x0 x2 x19 ((t258) % 4294967296)).bind fun t259 => (some (t259, false, false, false, true, (x18 != 0))))) else ((bits_Len.f k x4).bind fun t260 => ((dC.f x0).bind fun t261 => ((fJ.f x17 x15).bind fun t262 => ((cB.f x0 x2 x19 ((t262) % 4294967296)).bind fun t263 => (some (t263, false, false, false, decide ((wrap64 ((wrap64 (x3 + t260)) - 1)) < t261), (x18 != 0))))))))))
end
def aC.f (k : Nat) (a0 a1 : Int) (a2 : Bool) (a3 a4 : Int) (a5 : Bool) : Option (Int × Bool × Bool × Bool × Bool × Bool) := if a4 = 0 then (aC.j0 k a0 a1 a2 (mn (mx a3 (-10000)) 10000) a4 a5 (!a5)) else (aC.j0 k a0 a1 a2 (mn (mx a3 (-10000)) 10000) a4 a5 false)
theorem aC.fB : ∀ k, (∀ y0 y1 y2 y3 y4 y5 y6, LeO (aC.j0 k y0 y1 y2 y3 y4 y5 y6) (aC.j0 (k + 1) y0 y1 y2 y3 y4 y5 y6)) ∧ (∀ y0 y1 y2 y3 y4 y5 y6 y7 y8, LeO (aC.j1 k y0 y1 y2 y3 y4 y5 y6 y7 y8) (aC.j1 (k + 1) y0 y1 y2 y3 y4 y5 y6 y7 y8)) ∧ (∀ y0 y1 y2 y3 y4 y5 y6 y7 y8, LeO (aC.j2 k y0 y1 y2 y3 y4 y5 y6 y7 y8) (aC.j2 (k + 1) y0 y1 y2 y3 y4 y5 y6 y7 y8)) ∧ (∀ y0 y1 y2 y3 y4 y5 y6 y7 y8, LeO (aC.j3 k y0 y1 y2 y3 y4 y5 y6 y7 y8) (aC.j3 (k + 1) y0 y1 y2 y3 y4 y5 y6 y7 y8))
 |0 => ⟨fun _ _ _ _ _ _ _ r h => by simp [aC.j0] at h, fun _ _ _ _ _ _ _ _ _ r h => by simp [aC.j1] at h, fun _ _ _ _ _ _ _ _ _ r h => by simp [aC.j2] at h, fun _ _ _ _ _ _ _ _ _ r h => by simp [aC.j3] at h⟩
 |k + 1 => by
  obtain ⟨ih0, ih1, ih2, ih3⟩ := aC.fB k
  refine ⟨?_, ?_, ?_, ?_⟩
  ·intro y0 y1 y2 y3 y4 y5 y6
   unfold aC.j0
   repeat' first
   |(with_reducible first|exact ih0 _ _ _ _ _ _ _|exact ih1 _ _ _ _ _ _ _ _ _|exact ih2 _ _ _ _ _ _ _ _ _|exact ih3 _ _ _ _ _ _ _ _ _|exact bits_Len.mono _ _|exact dG.mono _ _ _ _|exact cZ.mono _ _ _ _|exact LeO.refl _|exact LeO.none _|refine LeO.ite ?_ ?_|refine LeO.bind ?_ (fun _ => ?_))
   |exact ih0 _ _ _ _ _ _ _
   |exact ih1 _ _ _ _ _ _ _ _ _
   |exact ih2 _ _ _ _ _ _ _ _ _
   |exact ih3 _ _ _ _ _ _ _ _ _
   |exact bits_Len.mono _ _
   |exact dG.mono _ _ _ _
   |exact cZ.mono _ _ _ _
   |exact LeO.none _
   |refine LeO.ite ?_ ?_
   |refine LeO.bind ?_ (fun _ => ?_)
  ·intro y0 y1 y2 y3 y4 y5 y6 y7 y8
   unfold aC.j1
   repeat' first
   |(with_reducible first|exact ih0 _ _ _ _ _ _ _|exact ih1 _ _ _ _ _ _ _ _ _|exact ih2 _ _ _ _ _ _ _ _ _|exact ih3 _ _ _ _ _ _ _ _ _|exact bits_Len.mono _ _|exact dG.mono _ _ _ _|exact cZ.mono _ _ _ _|exact LeO.refl _|exact LeO.none _|refine LeO.ite ?_ ?_|refine LeO.bind ?_ (fun _ => ?_))
   |exact ih0 _ _ _ _ _ _ _
   |exact ih1 _ _ _ _ _ _ _ _ _
   |exact ih2 _ _ _ _ _ _ _ _ _
   |exact ih3 _ _ _ _ _ _ _ _ _
   |exact bits_Len.mono _ _
   |exact dG.mono _ _ _ _
   |exact cZ.mono _ _ _ _
   |exact LeO.none _
   |refine LeO.ite ?_ ?_
   |refine LeO.bind ?_ (fun _ => ?_)
  ·intro y0 y1 y2 y3 y4 y5 y6 y7 y8
   unfold aC.j2
   repeat' first
   |(with_reducible first|exact ih0 _ _ _ _ _ _ _|exact ih1 _ _ _ _ _ _ _ _ _|exact ih2 _ _ _ _ _ _ _ _ _|exact ih3 _ _ _ _ _ _ _ _ _|exact bits_Len.mono _ _|exact dG.mono _ _ _ _|exact cZ.mono _ _ _ _|exact LeO.refl _|exact LeO.none _|refine LeO.ite ?_ ?_|refine LeO.bind ?_ (fun _ => ?_))
   |exact ih0 _ _ _ _ _ _ _
   |exact ih1 _ _ _ _ _ _ _ _ _
   |exact ih2 _ _ _ _ _ _ _ _ _
   |exact ih3 _ _ _ _ _ _ _ _ _
   |exact bits_Len.mono _ _
   |exact dG.mono _ _ _ _
   |exact cZ.mono _ _ _ _
   |exact LeO.none _
   |refine LeO.ite ?_ ?_
   |refine LeO.bind ?_ (fun _ => ?_)
  ·intro y0 y1 y2 y3 y4 y5 y6 y7 y8
   unfold aC.j3
   repeat' first
   |(with_reducible first|exact ih0 _ _ _ _ _ _ _|exact ih1 _ _ _ _ _ _ _ _ _|exact ih2 _ _ _ _ _ _ _ _ _|exact ih3 _ _ _ _ _ _ _ _ _|exact bits_Len.mono _ _|exact dG.mono _ _ _ _|exact cZ.mono _ _ _ _|exact LeO.refl _|exact LeO.none _|refine LeO.ite ?_ ?_|refine LeO.bind ?_ (fun _ => ?_))
   |exact ih0 _ _ _ _ _ _ _
   |exact ih1 _ _ _ _ _ _ _ _ _
   |exact ih2 _ _ _ _ _ _ _ _ _
   |exact ih3 _ _ _ _ _ _ _ _ _
   |exact bits_Len.mono _ _
   |exact dG.mono _ _ _ _
   |exact cZ.mono _ _ _ _
   |exact LeO.none _
   |refine LeO.ite ?_ ?_
   |refine LeO.bind ?_ (fun _ => ?_)
theorem aC.mono : ∀ a0 a1 a2 a3 a4 a5 k, LeO (aC.f k a0 a1 a2 a3 a4 a5) (aC.f (k + 1) a0 a1 a2 a3 a4 a5) := by
 intro a0 a1 a2 a3 a4 a5 k
 obtain ⟨ih0, ih1, ih2, ih3⟩ := aC.fB k
 unfold aC.f
 repeat' first
   |(with_reducible first|exact ih0 _ _ _ _ _ _ _|exact ih1 _ _ _ _ _ _ _ _ _|exact ih2 _ _ _ _ _ _ _ _ _|exact ih3 _ _ _ _ _ _ _ _ _|exact bits_Len.mono _ _|exact dG.mono _ _ _ _|exact cZ.mono _ _ _ _|exact LeO.refl _|exact LeO.none _|refine LeO.ite ?_ ?_|refine LeO.bind ?_ (fun _ => ?_))
   |exact ih0 _ _ _ _ _ _ _
   |exact ih1 _ _ _ _ _ _ _ _ _
   |exact ih2 _ _ _ _ _ _ _ _ _
   |exact ih3 _ _ _ _ _ _ _ _ _
   |exact bits_Len.mono _ _
   |exact dG.mono _ _ _ _
   |exact cZ.mono _ _ _ _
   |exact LeO.none _
   |refine LeO.ite ?_ ?_
   |refine LeO.bind ?_ (fun _ => ?_)

end Go.Proofs.YtfapjegkilljnaaGreat.P
