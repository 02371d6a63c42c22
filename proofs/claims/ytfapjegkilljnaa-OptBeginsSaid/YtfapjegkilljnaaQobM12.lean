import Derived.Test.YtfapjegkilljnaaQobZ
import Derived.Test.YtfapjegkilljnaaQobM4
import Derived.Test.YtfapjegkilljnaaQobM5
import Derived.Test.YtfapjegkilljnaaQobM7
import Derived.Test.YtfapjegkilljnaaQobM9
import Derived.Test.YtfapjegkilljnaaQobM10
import Derived.Test.YtfapjegkilljnaaQobM3
import Derived.Test.YtfapjegkilljnaaQobM6
import Derived.Test.YtfapjegkilljnaaQobParF
-- Printed by a program of this session's out of Lean's print of the translation; Lean checks it.
set_option linter.unusedVariables false
set_option linter.unusedSimpArgs false
set_option maxRecDepth 100000
set_option maxHeartbeats 8000000
namespace Go.Proofs.Ytfapjegkilljnaa.P
open Go.RowKit Go.Proofs.YtfapjegkilljnaaW.PrintWords Go.Proofs.YtfapjegkilljnaaW.PrintLast Go.Proofs.YtfapjegkilljnaaW.PrintMore
attribute [local go_sem] max2_int min2_int max_two min_two max_three min_three max_four min_four

-- NEED 0
/-! ### dE: function 107 -/
def dE.f (k : Nat) (a0 a1 : Int) : Option (Bool) := (aI.f k a0 a1).bind fun t622 => (some (decide (t622 ≥ 4)))
theorem dE.calls (k : Nat) (a0 a1 : Int) (r : Bool) (w : World) (h : dE.f k a0 a1 = some r) :
  Calls Try.prog 107 #[.int .i64 a0, .int .u32 a1] w fun e w' => e = .returned (.bool r) ∧ Drawn0 w w' := by
 have H : ((aI.f k a0 a1).bind fun t622 => (some (decide (t622 ≥ 4)))) = some r := h
 clear h
 replace H := bq_ H
 obtain ⟨t622, A30, H⟩ := H
 replace H : (some (decide (t622 ≥ 4))) = some r := H
 have A3 := Aside0.mk A30
 clear A30
 obtain rfl := Option.some.inj H
 go_enter Try.func107, Try.ntmps107
 go_wp2_with (first | ((with_reducible refine gate_callee (f := 70) rfl ?_); refine goesL_ (some 7) rfl rfl Try.func70 (by kernel_rfl) rfl #[.int .i64 a0, .int .u32 a1] rfl gl ?_; (with_reducible refine (aI.calls k a0 a1 t622 _ A3.out).mono ?_); rintro e w' ⟨rfl, ⟨nd, rfl⟩⟩; refine ⟨_, rfl, ?_⟩))
 go_ret
 exact ⟨gr_, gd_⟩

-- NEED 0
/-! ### eO: function 108 -/
def eO.f (a0 a1 : Int) : Option (Int) := (dP.f a0).bind fun t623 => ((bG.f a0 a1).bind fun t624 => (if t624 = true then ((bX.f a0 a1).bind fun t625 => (some (wrap64 ((-1) - (wrap64 (t625)))))) else (some (wrap64 (Go.bits .and .u32 a1 t623)))))
theorem eO.calls (a0 a1 r : Int) (w : World) (h : eO.f a0 a1 = some r) :
  Calls Try.prog 108 #[.int .i64 a0, .int .u32 a1] w fun e w' => e = .returned (.int .i64 r) ∧ Drawn0 w w' := by
 have H : ((dP.f a0).bind fun t623 => ((bG.f a0 a1).bind fun t624 => (if t624 = true then ((bX.f a0 a1).bind fun t625 => (some (wrap64 ((-1) - (wrap64 (t625)))))) else (some (wrap64 (Go.bits .and .u32 a1 t623)))))) = some r := h
 clear h
 replace H := bq_ H
 obtain ⟨t623, A30, H⟩ := H
 replace H : ((bG.f a0 a1).bind fun t624 => (if t624 = true then ((bX.f a0 a1).bind fun t625 => (some (wrap64 ((-1) - (wrap64 (t625)))))) else (some (wrap64 (Go.bits .and .u32 a1 t623))))) = some r := H
 have A3 := Aside0.mk A30
 clear A30
 replace H := bq_ H
 obtain ⟨t624, A40, H⟩ := H
 replace H : (if t624 = true then ((bX.f a0 a1).bind fun t625 => (some (wrap64 ((-1) - (wrap64 (t625)))))) else (some (wrap64 (Go.bits .and .u32 a1 t623)))) = some r := H
 have A4 := Aside0.mk A40
 clear A40
 by_cases c5 : t624 = true
 ·subst c5
  have H1 : ((bX.f a0 a1).bind fun t625 => (some (wrap64 ((-1) - (wrap64 (t625)))))) = some r := by rw [if_pos rfl] at H; exact H
  clear H
  have H := H1
  clear H1
  replace H := bq_ H
  obtain ⟨t625, A60, H⟩ := H
  replace H : (some (wrap64 ((-1) - (wrap64 (t625))))) = some r := H
  have A6 := Aside0.mk A60
  clear A60
  obtain rfl := Option.some.inj H
  go_enter Try.func108, Try.ntmps108
  go_wp2_with (first | ((with_reducible refine gate_callee (f := 94) rfl ?_); refine goesL_ (some 8) rfl rfl Try.func94 (by kernel_rfl) rfl #[.int .i64 a0] rfl gl ?_; (with_reducible refine (dP.calls a0 t623 _ A3.out).mono ?_); rintro e w' ⟨rfl, ⟨nd, rfl⟩⟩; refine ⟨_, rfl, ?_⟩) | ((with_reducible refine gate_callee (f := 52) rfl ?_); refine goesL_ (some 13) rfl rfl Try.func52 (by kernel_rfl) rfl #[.int .i64 a0, .int .u32 a1] rfl gl ?_; (with_reducible refine (bG.calls a0 a1 true _ A4.out).mono ?_); rintro e w' ⟨rfl, ⟨nd, rfl⟩⟩; refine ⟨_, rfl, ?_⟩) | ((with_reducible refine gate_callee (f := 62) rfl ?_); refine goesL_ (some 18) rfl rfl Try.func62 (by kernel_rfl) rfl #[.int .i64 a0, .int .u32 a1] rfl gl ?_; (with_reducible refine (bX.calls a0 a1 t625 _ A6.out).mono ?_); rintro e w' ⟨rfl, ⟨nd, rfl⟩⟩; refine ⟨_, rfl, ?_⟩))
  go_ret
  exact ⟨gr_, gd_⟩
 ·replace c5 := Bool.eq_false_iff.mpr c5
  subst c5
  have H1 : (some (wrap64 (Go.bits .and .u32 a1 t623))) = some r := by rw [if_neg (show ¬ (false = true) by decide)] at H; exact H
  clear H
  have H := H1
  clear H1
  obtain rfl := Option.some.inj H
  go_enter Try.func108, Try.ntmps108
  go_wp2_with (first | ((with_reducible refine gate_callee (f := 94) rfl ?_); refine goesL_ (some 8) rfl rfl Try.func94 (by kernel_rfl) rfl #[.int .i64 a0] rfl gl ?_; (with_reducible refine (dP.calls a0 t623 _ A3.out).mono ?_); rintro e w' ⟨rfl, ⟨nd, rfl⟩⟩; refine ⟨_, rfl, ?_⟩) | ((with_reducible refine gate_callee (f := 52) rfl ?_); refine goesL_ (some 13) rfl rfl Try.func52 (by kernel_rfl) rfl #[.int .i64 a0, .int .u32 a1] rfl gl ?_; (with_reducible refine (bG.calls a0 a1 false _ A4.out).mono ?_); rintro e w' ⟨rfl, ⟨nd, rfl⟩⟩; refine ⟨_, rfl, ?_⟩))
  go_ret
  exact ⟨gr_, gd_⟩

-- NEED 0
/-! ### aT: function 104 -/
mutual
def aT.j0 : Nat → Int → Int → Int → Bool → Option (Int × Bool)
 |0, _, _, _, _ => none
 |k + 1, x0, x1, x2, x17 => if x17 = true then (some (0, false)) else ((eO.f x0 x1).bind fun t628 => ((eO.f x0 x2).bind fun t629 => ((aK.f k x0 x1).bind fun t630 => (if t630 = true then ((aK.f k x0 x2).bind fun t631 => (aT.j1 k t628 t629 t631)) else (aT.j1 k t628 t629 false)))))
def aT.j1 : Nat → Int → Int → Bool → Option (Int × Bool)
 |0, _, _, _ => none
 |k + 1, x8, x9, x24 => if x24 = true then (some (0, true)) else (if x8 < x9 then (some ((-1), true)) else (if x8 > x9 then (some (1, true)) else (some (0, true))))
end
def aT.f (k : Nat) (a0 a1 a2 : Int) : Option (Int × Bool) := (dE.f k a0 a1).bind fun t626 => (if t626 = true then (aT.j0 k a0 a1 a2 true) else ((dE.f k a0 a2).bind fun t627 => (aT.j0 k a0 a1 a2 t627)))
theorem aT.calls (k : Nat) (a0 a1 : Int) (a2 r1 : Int) (r2 : Bool) (w : World) (h : aT.f k a0 a1 a2 = some (r1, r2)) :
  Calls Try.prog 104 #[.int .i64 a0, .int .u32 a1, .int .u32 a2] w fun e w' => e = .returned (.tuple #[.int .i64 r1, .bool r2]) ∧ Drawn0 w w' := by
 have H : ((dE.f k a0 a1).bind fun t626 => (if t626 = true then (aT.j0 k a0 a1 a2 true) else ((dE.f k a0 a2).bind fun t627 => (aT.j0 k a0 a1 a2 t627)))) = some (r1, r2) := h
 clear h
 have HC4 := Aside0.mk H
 clear H
 go_enter Try.func104, Try.ntmps104
 go_upto_region 1 with (fail)
 go_cut [17] (fun v17 wc => ∃ (kq : Nat) (x17_3 : Bool), v17 = .bool x17_3 ∧ Aside0 (aT.j0 kq a0 a1 a2 x17_3 = some (r1, r2)) ∧ Aside0 (kq ≤ k) ∧ Drawn0 w wc)
 case first =>
  have H := HC4.out
  clear HC4
  replace H := bq_ H
  obtain ⟨t626, A50, H⟩ := H
  replace H : (if t626 = true then (aT.j0 k a0 a1 a2 true) else ((dE.f k a0 a2).bind fun t627 => (aT.j0 k a0 a1 a2 t627))) = some (r1, r2) := H
  have A5 := Aside0.mk A50
  clear A50
  by_cases c6 : t626 = true
  ·subst c6
   have H1 : (aT.j0 k a0 a1 a2 true) = some (r1, r2) := by rw [if_pos rfl] at H; exact H
   clear H
   have H := H1
   clear H1
   have H' := Aside0.mk H
   clear H
   go_wp2_with (first | ((with_reducible refine gate_callee (f := 107) rfl ?_); refine goesL_ (some 12) rfl rfl Try.func107 (by kernel_rfl) rfl #[.int .i64 a0, .int .u32 a1] rfl gl ?_; (with_reducible refine (dE.calls k a0 a1 true _ A5.out).mono ?_); rintro e w' ⟨rfl, ⟨nd, rfl⟩⟩; refine ⟨_, rfl, ?_⟩))
   go_meet
   case rel => exact ⟨_, (true), (gr_), H', ⟨by first | omega | exact Nat.le_refl _⟩, gd_⟩
  ·replace c6 := Bool.eq_false_iff.mpr c6
   subst c6
   have H1 : ((dE.f k a0 a2).bind fun t627 => (aT.j0 k a0 a1 a2 t627)) = some (r1, r2) := by rw [if_neg (show ¬ (false = true) by decide)] at H; exact H
   clear H
   have H := H1
   clear H1
   replace H := bq_ H
   obtain ⟨t627, A70, H⟩ := H
   replace H : (aT.j0 k a0 a1 a2 t627) = some (r1, r2) := H
   have A7 := Aside0.mk A70
   clear A70
   have H' := Aside0.mk H
   clear H
   go_wp2_with (first | ((with_reducible refine gate_callee (f := 107) rfl ?_); refine goesL_ (some 12) rfl rfl Try.func107 (by kernel_rfl) rfl #[.int .i64 a0, .int .u32 a1] rfl gl ?_; (with_reducible refine (dE.calls k a0 a1 false _ A5.out).mono ?_); rintro e w' ⟨rfl, ⟨nd, rfl⟩⟩; refine ⟨_, rfl, ?_⟩) | (go_at_call 107; (with_reducible refine (dE.calls k a0 a2 t627 _ A7.out).mono ?_); rintro e w' ⟨rfl, ⟨nd, rfl⟩⟩))
   go_meet
   case rel => exact ⟨_, (t627), (gr_), H', ⟨by first | omega | exact Nat.le_refl _⟩, gd_⟩
 case rest =>
  clear HC4
  try clear c1 p2 c6 p6
  obtain ⟨kq, x17_3, rfl, HA, HJ3, ⟨mc3, rfl⟩⟩ := hcut
  cases kq with
  |zero => exact absurd HA.out (by simp [aT.j0])
  |succ kj3 =>
   have H := HA.out
   clear HA
   simp only [aT.j0] at H
   by_cases c8 : x17_3 = true
   ·subst c8
    have H1 : (some (0, false)) = some (r1, r2) := by rw [if_pos rfl] at H; exact H
    clear H
    have H := H1
    clear H1
    simp only [Option.some.injEq, Prod.mk.injEq] at H
    obtain ⟨rfl, rfl⟩ := H
    go_wp2
    go_ret2
    exact ⟨gr_, gd_⟩
   ·replace c8 := Bool.eq_false_iff.mpr c8
    subst c8
    have H1 : ((eO.f a0 a1).bind fun t628 => ((eO.f a0 a2).bind fun t629 => ((aK.f kj3 a0 a1).bind fun t630 => (if t630 = true then ((aK.f kj3 a0 a2).bind fun t631 => (aT.j1 kj3 t628 t629 t631)) else (aT.j1 kj3 t628 t629 false))))) = some (r1, r2) := by rw [if_neg (show ¬ (false = true) by decide)] at H; exact H
    clear H
    have H := H1
    clear H1
    replace H := bq_ H
    obtain ⟨t628, A90, H⟩ := H
    replace H : ((eO.f a0 a2).bind fun t629 => ((aK.f kj3 a0 a1).bind fun t630 => (if t630 = true then ((aK.f kj3 a0 a2).bind fun t631 => (aT.j1 kj3 t628 t629 t631)) else (aT.j1 kj3 t628 t629 false)))) = some (r1, r2) := H
    have A9 := Aside0.mk A90
    clear A90
    replace H := bq_ H
    obtain ⟨t629, A100, H⟩ := H
    replace H : ((aK.f kj3 a0 a1).bind fun t630 => (if t630 = true then ((aK.f kj3 a0 a2).bind fun t631 => (aT.j1 kj3 t628 t629 t631)) else (aT.j1 kj3 t628 t629 false))) = some (r1, r2) := H
    have A10 := Aside0.mk A100
    clear A100
    have HC11 := Aside0.mk H
    clear H
    go_upto_region 4 with (first | ((with_reducible refine gate_callee (f := 108) rfl ?_); refine goesL_ (some 20) rfl rfl Try.func108 (by kernel_rfl) rfl #[.int .i64 a0, .int .u32 a1] rfl gl ?_; (with_reducible refine (eO.calls a0 a1 t628 _ A9.out).mono ?_); rintro e w' ⟨rfl, ⟨nd, rfl⟩⟩; refine ⟨_, rfl, ?_⟩) | ((with_reducible refine gate_callee (f := 108) rfl ?_); refine goesL_ (some 23) rfl rfl Try.func108 (by kernel_rfl) rfl #[.int .i64 a0, .int .u32 a2] rfl gl ?_; (with_reducible refine (eO.calls a0 a2 t629 _ A10.out).mono ?_); rintro e w' ⟨rfl, ⟨nd, rfl⟩⟩; refine ⟨_, rfl, ?_⟩))
    (try simp only [Act.put, sb, sz, ss])
    go_cut [24] (fun v24 wc => ∃ (kq : Nat) (x24_10 : Bool), v24 = .bool x24_10 ∧ Aside0 (aT.j1 kq t628 t629 x24_10 = some (r1, r2)) ∧ Aside0 (kq ≤ kj3) ∧ Drawn0 w wc)
    case first =>
     have H := HC11.out
     clear HC11
     replace H := bq_ H
     obtain ⟨t630, A120, H⟩ := H
     replace H : (if t630 = true then ((aK.f kj3 a0 a2).bind fun t631 => (aT.j1 kj3 t628 t629 t631)) else (aT.j1 kj3 t628 t629 false)) = some (r1, r2) := H
     have A12 := Aside0.mk A120
     clear A120
     by_cases c13 : t630 = true
     ·subst c13
      have H1 : ((aK.f kj3 a0 a2).bind fun t631 => (aT.j1 kj3 t628 t629 t631)) = some (r1, r2) := by rw [if_pos rfl] at H; exact H
      clear H
      have H := H1
      clear H1
      replace H := bq_ H
      obtain ⟨t631, A140, H⟩ := H
      replace H : (aT.j1 kj3 t628 t629 t631) = some (r1, r2) := H
      have A14 := Aside0.mk A140
      clear A140
      have H' := Aside0.mk H
      clear H
      go_wp2_with (first | ((with_reducible refine gate_callee (f := 72) rfl ?_); refine goesL_ (some 27) rfl rfl Try.func72 (by kernel_rfl) rfl #[.int .i64 a0, .int .u32 a1] rfl gl ?_; (with_reducible refine (aK.calls kj3 a0 a1 true _ A12.out).mono ?_); rintro e w' ⟨rfl, ⟨nd, rfl⟩⟩; refine ⟨_, rfl, ?_⟩) | (go_at_call 72; (with_reducible refine (aK.calls kj3 a0 a2 t631 _ A14.out).mono ?_); rintro e w' ⟨rfl, ⟨nd, rfl⟩⟩))
      go_meet
      case rel => exact ⟨_, (t631), (gr_), H', ⟨by have := HJ3.out; first | omega | exact Nat.le_refl _⟩, gd_⟩
     ·replace c13 := Bool.eq_false_iff.mpr c13
      subst c13
      have H1 : (aT.j1 kj3 t628 t629 false) = some (r1, r2) := by rw [if_neg (show ¬ (false = true) by decide)] at H; exact H
      clear H
      have H := H1
      clear H1
      have H' := Aside0.mk H
      clear H
      go_wp2_with (first | ((with_reducible refine gate_callee (f := 72) rfl ?_); refine goesL_ (some 27) rfl rfl Try.func72 (by kernel_rfl) rfl #[.int .i64 a0, .int .u32 a1] rfl gl ?_; (with_reducible refine (aK.calls kj3 a0 a1 false _ A12.out).mono ?_); rintro e w' ⟨rfl, ⟨nd, rfl⟩⟩; refine ⟨_, rfl, ?_⟩))
      go_meet
      case rel => exact ⟨_, (false), (gr_), H', ⟨by have := HJ3.out; first | omega | exact Nat.le_refl _⟩, gd_⟩
    case rest =>
     clear HC11
     try clear c1 p2 c3 c6 p6 c7 c8 c10 c13 p2 p6
     obtain ⟨kq, x24_10, rfl, HA, HJ10, ⟨mc10, rfl⟩⟩ := hcut
     cases kq with
     |zero => exact absurd HA.out (by simp [aT.j1])
     |succ kj10 =>
      have H := HA.out
      clear HA
      simp only [aT.j1] at H
      by_cases c15 : x24_10 = true
      ·subst c15
       have H1 : (some (0, true)) = some (r1, r2) := by rw [if_pos rfl] at H; exact H
       clear H
       have H := H1
       clear H1
       simp only [Option.some.injEq, Prod.mk.injEq] at H
       obtain ⟨rfl, rfl⟩ := H
       go_wp2
       go_ret2
       exact ⟨gr_, gd_⟩
      ·replace c15 := Bool.eq_false_iff.mpr c15
       subst c15
       have H1 : (if t628 < t629 then (some ((-1), true)) else (if t628 > t629 then (some (1, true)) else (some (0, true)))) = some (r1, r2) := by rw [if_neg (show ¬ (false = true) by decide)] at H; exact H
       clear H
       have H := H1
       clear H1
       by_cases c16 : t628 < t629
       ·rw [if_pos c16] at H
        have c16b0 : decide (t628 < t629) = true := decide_eq_true c16
        clear c16
        simp only [Option.some.injEq, Prod.mk.injEq] at H
        obtain ⟨rfl, rfl⟩ := H
        go_wp2
        go_ret2
        exact ⟨gr_, gd_⟩
       ·rw [if_neg c16] at H
        have c16b0 : decide (t628 < t629) = false := decide_eq_false c16
        clear c16
        by_cases c17 : t628 > t629
        ·rw [if_pos c17] at H
         have c17b0 : decide (t629 < t628) = true := decide_eq_true c17
         clear c17
         simp only [Option.some.injEq, Prod.mk.injEq] at H
         obtain ⟨rfl, rfl⟩ := H
         go_wp2
         go_ret2
         exact ⟨gr_, gd_⟩
        ·rw [if_neg c17] at H
         have c17b0 : decide (t629 < t628) = false := decide_eq_false c17
         clear c17
         simp only [Option.some.injEq, Prod.mk.injEq] at H
         obtain ⟨rfl, rfl⟩ := H
         go_wp2
         go_ret2
         exact ⟨gr_, gd_⟩

-- NEED 0
/-! ### gK: function 89 -/
def gK.f (k : Nat) (a0 a1 a2 : Int) : Option (Bool) := (aT.f k a0 a1 a2).bind fun bt632 => (some (decide (bt632.1 < 0)))
theorem gK.calls (k : Nat) (a0 a1 a2 : Int) (r : Bool) (w : World) (h : gK.f k a0 a1 a2 = some r) :
  Calls Try.prog 89 #[.int .i64 a0, .int .u32 a1, .int .u32 a2] w fun e w' => e = .returned (.bool r) ∧ Drawn0 w w' := by
 have H : ((aT.f k a0 a1 a2).bind fun bt632 => (some (decide (bt632.1 < 0)))) = some r := h
 clear h
 replace H := bq_ H
 obtain ⟨⟨t632, t633⟩, A40, H⟩ := H
 replace H : (some (decide (t632 < 0))) = some r := H
 have A4 := Aside0.mk A40
 clear A40
 obtain rfl := Option.some.inj H
 go_enter Try.func89, Try.ntmps89
 go_wp2_with (first | ((with_reducible refine gate_callee (f := 104) rfl ?_); refine goesL_ (some 13) rfl rfl Try.func104 (by kernel_rfl) rfl #[.int .i64 a0, .int .u32 a1, .int .u32 a2] rfl gl ?_; (with_reducible refine (aT.calls k a0 a1 a2 t632 t633 _ A4.out).mono ?_); rintro e w' ⟨rfl, ⟨nd, rfl⟩⟩; refine ⟨_, rfl, ?_⟩))
 go_ret
 exact ⟨gr_, gd_⟩


-- NEED 0
/-! ### bU: function 59 -/
def bU.f (k : Nat) (a0 a1 : Int) : Option (Bool) := (gK.f k 2 a1 a0).bind fun t634 => (some t634)
theorem bU.calls (k : Nat) (a0 a1 : Int) (r : Bool) (w : World) (h : bU.f k a0 a1 = some r) :
  Calls Try.prog 59 #[.int .u32 a0, .int .u32 a1] w fun e w' => e = .returned (.bool r) ∧ Drawn0 w w' := by
 have H : ((gK.f k 2 a1 a0).bind fun t634 => (some t634)) = some r := h
 clear h
 replace H := bq_ H
 obtain ⟨t634, A30, H⟩ := H
 replace H : (some t634) = some r := H
 have A3 := Aside0.mk A30
 clear A30
 obtain rfl := Option.some.inj H
 go_enter Try.func59, Try.ntmps59
 go_wp2_with (first | ((with_reducible refine gate_callee (f := 89) rfl ?_); refine goesL_ (some 7) rfl rfl Try.func89 (by kernel_rfl) rfl #[.int .i64 2, .int .u32 a1, .int .u32 a0] rfl gl ?_; (with_reducible refine (gK.calls k 2 a1 a0 t634 _ A3.out).mono ?_); rintro e w' ⟨rfl, ⟨nd, rfl⟩⟩; refine ⟨_, rfl, ?_⟩))
 go_ret
 exact ⟨gr_, gd_⟩

end Go.Proofs.Ytfapjegkilljnaa.P

/- The program's order of numbers, lengths, trust: as plain numbers. -/
namespace Go.Proofs.Ytfapjegkilljnaa.Round
open Go.RowKit Go.Proofs.Ytfapjegkilljnaa.P Go.Proofs.Ytfapjegkilljnaa.Num Go.Proofs.Ytfapjegkilljnaa.BitsF Go.Proofs.Ytfapjegkilljnaa.Fmt Go.Proofs.YtfapjegkilljnaaW.PrintWords Go.Proofs.YtfapjegkilljnaaW.PrintLast Go.Proofs.YtfapjegkilljnaaW.PrintMore
theorem pkey_f (f : Int) (v : Nat) (hv : v < 4294967296) : eO.f f (v : Int) = some (gZ f (nH f v)) := by
 have hb := dC f
 have h31 := dM (show fe f + fm f ≤ 31 by omega)
 have hm := zP f v
 have hl := xS f v
 have hn := yM f v
 have hmm : nH f v % 2 ^ (fe f + fm f) = o9 f v := by
  rw [hl]
  have h2 := (kI f (o9 f v) (cZ f v) hm).2.1
  exact h2
 unfold eO.f gZ
 rw [xR, Option.bind_some, mZ f v hv, Option.bind_some, hn, hmm]
 cases h : cZ f v
 ·rw [if_neg (by decide), if_neg (by decide), vI f v hv, hl, h, show d9 f false = 0 from rfl, Nat.add_zero, bT _ (by omega) (by omega)]
 ·rw [if_pos rfl, if_pos rfl, zV f v hv, Option.bind_some]
  unfold jE
  rw [h, show d9 f (!true) = 0 from rfl, Nat.add_zero, bT ((o9 f v : Nat) : Int) (by omega) (by omega), bT _ (by omega) (by omega)]
theorem rT (f : Int) (v : Nat) (hv : v < 4294967296) : Ev (fun k => dE.f k f (v : Int)) (dO f v) := by
 refine Ev.congr (fun k => by unfold dE.f; rfl) (Ev.bind (kK f v hv) (Ev.congr (fun k => ?_) (Ev.now _)))
 unfold dO
 congr 1
 exact decide_eq_decide.mpr (by omega)
theorem tN (f : Int) (a b : Nat) (ha : a < 4294967296) (hb : b < 4294967296) : Ev (fun k => aT.f k f (a : Int) (b : Int)) (cmpN f a b) := by
 have j1 : ∀ z : Bool, Ev (fun k => aT.j1 k (gZ f (nH f a)) (gZ f (nH f b)) z) (if z = true then (0, true) else if gZ f (nH f a) < gZ f (nH f b) then (-1, true) else if gZ f (nH f a) > gZ f (nH f b) then (1, true) else (0, true)) := by
  intro z
  refine Ev.step (fun k => by rw [aT.j1]) (Ev.congr (fun k => ?_) (Ev.now _))
  repeat' split
  all_goals rfl
 have j0 : dO f a = false → dO f b = false → Ev (fun k => aT.j0 k f (a : Int) (b : Int) false) (cmpN f a b) := by
  intro na nb
  have e : cmpN f a b = if (decide (bJ f a = 0) && decide (bJ f b = 0)) = true then (0, true) else if gZ f (nH f a) < gZ f (nH f b) then (-1, true) else if gZ f (nH f a) > gZ f (nH f b) then (1, true) else (0, true) := by
   unfold cmpN
   rw [na, nb, if_neg (by decide)]
   simp only [Bool.and_eq_true, decide_eq_true_eq]
  rw [e]
  refine Ev.step (fun k => by rw [aT.j0, if_neg (by decide), pkey_f f a ha, Option.bind_some, pkey_f f b hb, Option.bind_some]) (Ev.bind (kG f a ha) ?_)
  cases hz : decide (bJ f a = 0)
  ·exact Ev.congr (fun k => by rw [if_neg (by decide)]) (by rw [Bool.false_and]; exact j1 false)
  ·exact Ev.congr (fun k => by rw [if_pos rfl]) (Ev.bind (kG f b hb) (by rw [Bool.true_and]; exact j1 _))
 have jn : ∀ p q : Int, Ev (fun k => aT.j0 k f p q true) ((0 : Int), false) := fun p q => Ev.step (fun k => by rw [aT.j0, if_pos rfl]) (Ev.now _)
 refine Ev.congr (fun k => by unfold aT.f; rfl) (Ev.bind (rT f a ha) ?_)
 cases na : dO f a
 ·refine Ev.congr (fun k => by rw [if_neg (by decide)]) (Ev.bind (rT f b hb) ?_)
  cases nb : dO f b
  ·exact j0 na nb
  ·have e : cmpN f a b = (0, false) := by unfold cmpN; rw [na, nb, if_pos (by decide)]
   rw [e]; exact jn _ _
 ·have e : cmpN f a b = (0, false) := by unfold cmpN; rw [na, if_pos (by rw [Bool.true_or])]
  refine Ev.congr (fun k => by rw [if_pos rfl]) ?_
  rw [e]; exact jn _ _
def uV (a b : Nat) : Bool := decide ((cmpN 2 b a).1 < 0)
theorem j4 (a b : Nat) (ha : a < 4294967296) (hb : b < 4294967296) : Ev (fun k => bU.f k (a : Int) (b : Int)) (uV a b) := by
 refine Ev.congr (fun k => by unfold bU.f; rfl) (Ev.bind (r := uV a b) ?_ (Ev.now _))
 refine Ev.congr (fun k => by unfold gK.f; rfl) (Ev.bind (tN 2 b a hb ha) (Ev.now _))
end Go.Proofs.Ytfapjegkilljnaa.Round

-- Printed by a program of this session's out of Lean's print of the translation; Lean checks it.
namespace Go.Proofs.Ytfapjegkilljnaa.P
open Go.RowKit Go.Proofs.YtfapjegkilljnaaW.PrintWords Go.Proofs.YtfapjegkilljnaaW.PrintLast Go.Proofs.YtfapjegkilljnaaW.PrintMore
attribute [local go_sem] max2_int min2_int max_two min_two max_three min_three max_four min_four

-- NEED 3
/-! ### eT: function 88 -/
def eT.f (k : Nat) (a0 : Int) : Option (Int) := (bY.f k 2 0 a0).bind fun bt582 => (some bt582.1)
theorem eT.calls (k : Nat) (a0 r : Int) (w : World) (h : eT.f k a0 = some r) :
  Calls Try.prog 88 #[.int .u32 a0] w fun e w' => e = .returned (.int .u32 r) ∧ Below w.heap.size w w' := by
 have hu60 := Try.underlying60
 have HB := Aside0.mk (Below.refl w.heap.size w)
 have H : ((bY.f k 2 0 a0).bind fun bt582 => (some bt582.1)) = some r := h
 clear h
 replace H := bq_ H
 obtain ⟨⟨t582, t583, t584, t585, t586, t587⟩, A20, H⟩ := H
 replace H : (some t582) = some r := H
 have A2 := Aside0.mk A20
 clear A20
 obtain rfl := Option.some.inj H
 go_enter Try.func88, Try.ntmps88
 go_wp2_with (first | ((with_reducible refine gate_callee (f := 103) rfl ?_); refine goesL_ (some 7) rfl rfl Try.func103 (by kernel_rfl) rfl #[.int .i64 2, .int .i64 0, .int .u32 a0] rfl gl ?_; (with_reducible refine (bY.calls k 2 0 a0 t582 t583 t584 t585 t586 t587 _ A2.out).mono ?_); rintro e w3 ⟨rfl, hb⟩; refine ⟨_, rfl, ?_⟩; have n0_ := Aside0.mk (below_step (bl0 HB.out) hb); clear HB; have HB := n0_; clear n0_) | ((with_reducible refine gate_dst (N := 4) rfl ?_); refine box_event ?hg (N := 4) ?hd (cs := F5) (t := 60) ?hr ?_; (case hd => rfl); (case hg => rfl); (case hr => first | (go_simp; done) | (go_simp; rfl)); intro gb588 hg w4 hbox hb; have n0_ := Aside0.mk (below_step (bl0 HB.out) hb); have n1_ := Aside0.mk (hbox); have n2_ := Aside0.mk ((by rw [hg]; exact (below_size (bl0 HB.out)) : w.heap.size ≤ gb588)); have n3_ := n2_; clear HB; have HB := n0_; have BK588 := n1_; have GW588 := n2_; have GE588 := n3_; clear n0_ n1_ n2_ n3_; clear hb hbox hg; obtain ⟨hcz5_0, hcz5_1, hcz5_2, hcz5_3, hcz5_4⟩ := bc5 BK588.out; obtain ⟨hfz5_0, hfz5_1, hfz5_2, hfz5_3, hfz5_4⟩ := bf5 BK588.out))
 go_ret
 exact ⟨by first | rfl | (simp [bK, bL] <;> rfl) | (simp [*, bK, bL] <;> rfl), bl1 HB.out GE588.out⟩


-- NEED 3
/-! ### bD: function 58 -/
mutual
def bD.l0 : Nat → Int → List (List Int) → Int → Int → Option (Int)
 |0, _, _, _, _ => none
 |k + 1, x3, x8, x9, x10 => if x10 < x9 then (if 0 ≤ x10 then (if x10 < (x8.length : Int) then (bD.l1 k x3 x8 x9 x10 (iU x8 x10) ((iU x8 x10).length : Int) 0) else (none)) else (none)) else ((eT.f k x3).bind fun t618 => (some t618))
def bD.l1 : Nat → Int → List (List Int) → Int → Int → List Int → Int → Int → Option (Int)
 |0, _, _, _, _, _, _, _ => none
 |k + 1, x3, x8, x9, x10, x14, x15, x16 => if x16 < x15 then (if 0 ≤ x16 then (if x16 < (x14.length : Int) then ((gV.f k (rd x14 x16) (rd x14 x16) x3).bind fun t621 => (bD.l1 k t621 x8 x9 x10 x14 x15 (wrap64 (x16 + 1)))) else (none)) else (none)) else (bD.l0 k x3 x8 x9 (wrap64 (x10 + 1)))
end
def bD.f (k : Nat) (l0 : List (List Int)) : Option (Int) := bD.l0 k 0 l0 (l0.length : Int) 0
theorem bD.calls (k : Nat) (A0 : Option Addr) (c0 : Nat) (l0 : List (List Int)) (r : Int) (w : World) (hr0 : Kd.C (Kd.slice 25 (Kd.int .u32)) w A0 l0.length l0) (hc0 : l0.length ≤ c0) (h : bD.f k l0 = some r) :
  Calls Try.prog 58 #[.slice A0 l0.length c0] w fun e w' => e = .returned (.int .u32 r) ∧ Below w.heap.size w w' := by
 have HR0 := Aside0.mk hr0
 have HC0 := Aside0.mk hc0
 clear hr0 hc0
 have HB := Aside0.mk (Below.refl w.heap.size w)
 have H : (bD.l0 k 0 l0 (l0.length : Int) 0) = some r := h
 clear h
 have H' := Aside0.mk H
 clear H
 go_enter Try.func58, Try.ntmps58
 go_wp2
 go_loopg [3, 10] k (fun kq v3 v10 w' => ∃ (x3_1 : Int) (x10_1 : Int), v3 = .int .u32 x3_1 ∧ v10 = .int .i64 x10_1 ∧ Aside0 (bD.l0 kq x3_1 l0 (l0.length : Int) x10_1 = some r) ∧ Aside0 (kq ≤ k) ∧ Aside0 (Below w.heap.size w w'))
 case atStart => exact ⟨(0), (0), (gr_), (gr_), H', ⟨Nat.le_refl _⟩, ⟨bl0 HB.out⟩⟩
 case round =>
  clear H'
  obtain ⟨x3_1, x10_1, rfl, rfl, HA, HK1, HB⟩ := hrel
  cases gk with
  |zero => exact absurd HA.out (by simp [bD.l0])
  |succ k1 =>
   have H := HA.out
   clear HA
   simp only [bD.l0] at H
   by_cases c2 : x10_1 < (l0.length : Int)
   ·rw [if_pos c2] at H
    have c2b0 : decide (x10_1 < (l0.length : Int)) = true := decide_eq_true c2
    clear c2
    by_cases c3 : 0 ≤ x10_1
    ·rw [if_pos c3] at H
     have c3b0 : decide (0 ≤ x10_1) = true := decide_eq_true c3
     clear c3
     by_cases c4 : x10_1 < (l0.length : Int)
     ·rw [if_pos c4] at H
      have c4b0 : decide (x10_1 < (l0.length : Int)) = true := decide_eq_true c4
      clear c4
      have H' := Aside0.mk H
      clear H
      have p619 : 0 ≤ (x10_1 : Int) := of_decide_eq_true (by first | (with_reducible assumption) | assumption)
      have q619 : x10_1 < (l0.length : Int) := of_decide_eq_true (by first | (with_reducible assumption) | assumption)
      obtain ⟨ad619, A619_0, c619_0, e619, hx619_0, hl619_0, hi619_0⟩ := at_L3 HR0.out x10_1 p619 q619
      cases e619
      replace hx619_0 := (HB.out.cell (World.block_lt_of_cell? w _ hx619_0)).trans hx619_0
      have HR619_0 := Aside0.mk hi619_0
      have HC619_0 := Aside0.mk hl619_0
      clear hi619_0 hl619_0
      replace p619 := eq_true p619
      replace q619 := eq_true q619
      go_wp2
      go_loopg [3, 16] k1 (fun kq v3 v16 w' => ∃ (x3_2 : Int) (x16_2 : Int), v3 = .int .u32 x3_2 ∧ v16 = .int .i64 x16_2 ∧ Aside0 (bD.l1 kq x3_2 l0 (l0.length : Int) x10_1 (iU l0 x10_1) ((iU l0 x10_1).length : Int) x16_2 = some r) ∧ Aside0 (kq ≤ k1) ∧ Aside0 (Below w.heap.size w w'))
      case atStart => exact ⟨(x3_1), (0), (gr_), (gr_), H', ⟨Nat.le_refl _⟩, ⟨bl0 HB.out⟩⟩
      case round =>
       clear H'
       try clear c2 c2b0 p2 c3 c3b0 c4 c4b0 hx619_0 p619 q619
       obtain ⟨x3_2, x16_2, rfl, rfl, HA, HK2, HB⟩ := hrel
       cases gk with
       |zero => exact absurd HA.out (by simp [bD.l1])
       |succ k2 =>
        have H := HA.out
        clear HA
        simp only [bD.l1] at H
        by_cases c5 : x16_2 < ((iU l0 x10_1).length : Int)
        ·rw [if_pos c5] at H
         have c5b0 : decide (x16_2 < ((iU l0 x10_1).length : Int)) = true := decide_eq_true c5
         clear c5
         by_cases c6 : 0 ≤ x16_2
         ·rw [if_pos c6] at H
          have c6b0 : decide (0 ≤ x16_2) = true := decide_eq_true c6
          clear c6
          by_cases c7 : x16_2 < ((iU l0 x10_1).length : Int)
          ·rw [if_pos c7] at H
           have c7b0 : decide (x16_2 < ((iU l0 x10_1).length : Int)) = true := decide_eq_true c7
           clear c7
           replace H := bq_ H
           obtain ⟨t621, A80, H⟩ := H
           replace H : (bD.l1 k2 t621 l0 (l0.length : Int) x10_1 (iU l0 x10_1) ((iU l0 x10_1).length : Int) (wrap64 (x16_2 + 1))) = some r := H
           have A8 := Aside0.mk A80
           clear A80
           have H' := Aside0.mk H
           clear H
           have p620 : 0 ≤ (x16_2 : Int) := of_decide_eq_true (by first | (with_reducible assumption) | assumption)
           have q620 : x16_2 < ((iU l0 x10_1).length : Int) := of_decide_eq_true (by first | (with_reducible assumption) | assumption)
           obtain ⟨ad620, e620, hx620_0⟩ := Kd.at_int HR619_0.out x16_2 p620 q620
           cases e620
           replace hx620_0 := (HB.out.cell (World.block_lt_of_cell? w _ hx620_0)).trans hx620_0
           replace p620 := eq_true p620
           replace q620 := eq_true q620
           go_wp2_with (first | ((with_reducible refine gate_callee (f := 36) rfl ?_); refine goesL_ (some 23) rfl rfl Try.func36 (by kernel_rfl) rfl #[.int .u32 (rd (iU l0 x10_1) x16_2), .int .u32 (rd (iU l0 x10_1) x16_2), .int .u32 x3_2] rfl gl ?_; (with_reducible refine (gV.calls k2 (rd (iU l0 x10_1) x16_2) (rd (iU l0 x10_1) x16_2) x3_2 t621 _ A8.out).mono ?_); rintro e w9 ⟨rfl, hb⟩; refine ⟨_, rfl, ?_⟩; have n0_ := Aside0.mk (below_step (bl0 HB.out) hb); clear HB; have HB := n0_; clear n0_))
           go_roundg k2
           case measure => have := HK1.out; have := HK2.out; omega
           case rel => exact ⟨(t621), (wrap64 (x16_2 + 1)), (gr_), (gr_), H', ⟨by have := HK1.out; have := HK2.out; omega⟩, ⟨bl0 HB.out⟩⟩
          ·rw [if_neg c7] at H
           exact absurd H (by simp)
         ·rw [if_neg c6] at H
          exact absurd H (by simp)
        ·rw [if_neg c5] at H
         have c5b0 : decide (x16_2 < ((iU l0 x10_1).length : Int)) = false := decide_eq_false c5
         clear c5
         have H' := Aside0.mk H
         clear H
         go_wp2
         go_roundg k2
         case measure => have := HK1.out; have := HK2.out; omega
         case rel => exact ⟨(x3_2), (wrap64 (x10_1 + 1)), (gr_), (gr_), H', ⟨by have := HK1.out; have := HK2.out; omega⟩, ⟨bl0 HB.out⟩⟩
     ·rw [if_neg c4] at H
      exact absurd H (by simp)
    ·rw [if_neg c3] at H
     exact absurd H (by simp)
   ·rw [if_neg c2] at H
    have c2b0 : decide (x10_1 < (l0.length : Int)) = false := decide_eq_false c2
    clear c2
    replace H := bq_ H
    obtain ⟨t618, A100, H⟩ := H
    replace H : (some t618) = some r := H
    have A10 := Aside0.mk A100
    clear A100
    obtain rfl := Option.some.inj H
    go_wp2_with (first | ((with_reducible refine gate_callee (f := 88) rfl ?_); refine goesL_ (some 27) rfl rfl Try.func88 (by kernel_rfl) rfl #[.int .u32 x3_1] rfl gl ?_; (with_reducible refine (eT.calls k1 x3_1 t618 _ A10.out).mono ?_); rintro e w11 ⟨rfl, hb⟩; refine ⟨_, rfl, ?_⟩; have n0_ := Aside0.mk (below_step (bl0 HB.out) hb); clear HB; have HB := n0_; clear n0_))
    go_ret
    exact ⟨by first | rfl | (simp [bK, bL] <;> rfl) | (simp [*, bK, bL] <;> rfl), bl0 HB.out⟩


-- NEED 3
/-! ### gB: function 35 -/
def gB.f (k : Nat) (l0 l1 : List Int) : Option (Int) := (bD.f k (([l0] : List (List Int)))).bind fun t638 => ((bD.f k (([l1] : List (List Int)))).bind fun t642 => ((bU.f k t638 0).bind fun t643 => (if t643 = true then ((bU.f k t642 0).bind fun t644 => (if t644 = true then ((dN.f k t638 t642).bind fun t645 => (some t645)) else (some 1065353216))) else (some 1065353216))))
theorem gB.calls (k : Nat) (P0_ : Nat → Prop) (A0 : Option Addr) (c0 : Nat) (l0 : List Int) (P1_ : Nat → Prop) (A1 : Option Addr) (c1 : Nat) (l1 : List Int) (r : Int) (w : World) (hs0 : Kd.V (Kd.int .u32) 25 w w.heap.size (fun k_ => P0_ k_) (.slice A0 l0.length c0) l0) (hs1 : Kd.V (Kd.int .u32) 25 w w.heap.size (fun k_ => P1_ k_) (.slice A1 l1.length c1) l1) (h : gB.f k l0 l1 = some r) :
  Calls Try.prog 35 #[.slice A0 l0.length c0, .slice A1 l1.length c1] w fun e w' => e = .returned (.int .u32 r) ∧ Below w.heap.size w w' := by
 have HO0 := Aside0.mk (show Kd.V (Kd.int .u32) 25 w w.heap.size (fun k_ => ((P0_ k_ ∨ P1_ k_) ∨ w.heap.size ≤ k_)) (.slice A0 l0.length c0) l0 from Kd.V_mono hs0 (fun k_ hk => .inl (.inl hk)))
 have HO1 := Aside0.mk (show Kd.V (Kd.int .u32) 25 w w.heap.size (fun k_ => ((P0_ k_ ∨ P1_ k_) ∨ w.heap.size ≤ k_)) (.slice A1 l1.length c1) l1 from Kd.V_mono hs1 (fun k_ hk => .inl (.inr hk)))
 have HB := Aside0.mk (Below.refl w.heap.size w)
 have H : ((bD.f k (([l0] : List (List Int)))).bind fun t638 => ((bD.f k (([l1] : List (List Int)))).bind fun t642 => ((bU.f k t638 0).bind fun t643 => (if t643 = true then ((bU.f k t642 0).bind fun t644 => (if t644 = true then ((dN.f k t638 t642).bind fun t645 => (some t645)) else (some 1065353216))) else (some 1065353216))))) = some r := h
 clear h
 obtain ⟨y635, hy635⟩ : ∃ y_ : List (List Int), y_ = (([l0] : List (List Int))) := ⟨_, rfl⟩
 replace H : ((bD.f k y635).bind fun t638 => ((bD.f k (([l1] : List (List Int)))).bind fun t642 => ((bU.f k t638 0).bind fun t643 => (if t643 = true then ((bU.f k t642 0).bind fun t644 => (if t644 = true then ((dN.f k t638 t642).bind fun t645 => (some t645)) else (some 1065353216))) else (some 1065353216))))) = some r := by first | (rw [hy635]; with_reducible exact H) | (have H2_ := (Option.bind_some _ _).symm.trans H; rw [hy635]; with_reducible exact H2_) | (have H2_ := (Option.bind_some _ _).symm.trans H; with_reducible exact H2_) | with_reducible exact H | (rw [hy635]; exact H) | exact H
 have Ny635 := Aside0.mk hy635
 clear hy635
 replace H := bq_ H
 obtain ⟨t638, A30, H⟩ := H
 replace H : ((bD.f k (([l1] : List (List Int)))).bind fun t642 => ((bU.f k t638 0).bind fun t643 => (if t643 = true then ((bU.f k t642 0).bind fun t644 => (if t644 = true then ((dN.f k t638 t642).bind fun t645 => (some t645)) else (some 1065353216))) else (some 1065353216)))) = some r := H
 have A3 := Aside0.mk A30
 clear A30
 obtain ⟨y639, hy639⟩ : ∃ y_ : List (List Int), y_ = (([l1] : List (List Int))) := ⟨_, rfl⟩
 replace H : ((bD.f k y639).bind fun t642 => ((bU.f k t638 0).bind fun t643 => (if t643 = true then ((bU.f k t642 0).bind fun t644 => (if t644 = true then ((dN.f k t638 t642).bind fun t645 => (some t645)) else (some 1065353216))) else (some 1065353216)))) = some r := by first | (rw [hy639]; with_reducible exact H) | (have H2_ := (Option.bind_some _ _).symm.trans H; rw [hy639]; with_reducible exact H2_) | (have H2_ := (Option.bind_some _ _).symm.trans H; with_reducible exact H2_) | with_reducible exact H | (rw [hy639]; exact H) | exact H
 have Ny639 := Aside0.mk hy639
 clear hy639
 replace H := bq_ H
 obtain ⟨t642, A40, H⟩ := H
 replace H : ((bU.f k t638 0).bind fun t643 => (if t643 = true then ((bU.f k t642 0).bind fun t644 => (if t644 = true then ((dN.f k t638 t642).bind fun t645 => (some t645)) else (some 1065353216))) else (some 1065353216))) = some r := H
 have A4 := Aside0.mk A40
 clear A40
 replace H := bq_ H
 obtain ⟨t643, A50, H⟩ := H
 replace H : (if t643 = true then ((bU.f k t642 0).bind fun t644 => (if t644 = true then ((dN.f k t638 t642).bind fun t645 => (some t645)) else (some 1065353216))) else (some 1065353216)) = some r := H
 have A5 := Aside0.mk A50
 clear A50
 by_cases c6 : t643 = true
 ·subst c6
  have H1 : ((bU.f k t642 0).bind fun t644 => (if t644 = true then ((dN.f k t638 t642).bind fun t645 => (some t645)) else (some 1065353216))) = some r := by rw [if_pos rfl] at H; exact H
  clear H
  have H := H1
  clear H1
  replace H := bq_ H
  obtain ⟨t644, A70, H⟩ := H
  replace H : (if t644 = true then ((dN.f k t638 t642).bind fun t645 => (some t645)) else (some 1065353216)) = some r := H
  have A7 := Aside0.mk A70
  clear A70
  by_cases c8 : t644 = true
  ·subst c8
   have H1 : ((dN.f k t638 t642).bind fun t645 => (some t645)) = some r := by rw [if_pos rfl] at H; exact H
   clear H
   have H := H1
   clear H1
   replace H := bq_ H
   obtain ⟨t645, A90, H⟩ := H
   replace H : (some t645) = some r := H
   have A9 := Aside0.mk A90
   clear A90
   obtain rfl := Option.some.inj H
   go_enter Try.func35, Try.ntmps35
   go_wp2_with (first | ((with_reducible refine gate_dst (N := 8) rfl ?_); refine Kd.N_lit (Kd.slice 25 (Kd.int .u32)) _ 22 ?hg (N' := 8) ?hd (xs := ([l0] : List (List Int))) (inner := [.slice A0 l0.length c0]) (ok := (fun k_ => ((P0_ k_ ∨ P1_ k_) ∨ w.heap.size ≤ k_))) (okp := (fun k_ => ((P0_ k_ ∨ P1_ k_) ∨ w.heap.size ≤ k_))) ?hr ?hp (fun _ hk => hk) ((show ∀ k_, w.heap.size ≤ k_ → (fun k_ => ((P0_ k_ ∨ P1_ k_) ∨ w.heap.size ≤ k_)) k_ from fun k_ hk => (.inr (Nat.le_trans (below_size (bl0 HB.out)) hk))) _ (Nat.le_refl _)) (Below.refl _ _) (Nat.le_refl _) (by simp) ?_; (case hd => rfl); (case hg => rfl); (case hr => first | (go_simp; done) | (go_simp; rfl)); (case hp => exact (Reps.one (show Kd.FK (Kd.slice 25 (Kd.int .u32)) _ _ l0 [.slice A0 l0.length c0] from (Kd.FK_slice_mk (Kd.V_reads' (Kd.V_mono (ok' := (fun k_ => ((P0_ k_ ∨ P1_ k_) ∨ w.heap.size ≤ k_))) (HO0.out) (fun k_ hk => hk))).2.1 (Kd.V_F (Kd.V_mono (ok' := (fun k_ => ((P0_ k_ ∨ P1_ k_) ∨ w.heap.size ≤ k_))) (HO0.out) (fun k_ hk => hk))))) (Reps.none _ _))); intro v636 w10 ho11 hb hg_ hnew_; clear hg_ hnew_; (first | rw [← Ny635.out] at ho11 | (simp only [Int.reduceToNat] at ho11; rw [← Ny635.out] at ho11)); have n0_ := Aside0.mk (Kd.V_elder' (by (with_reducible repeat (first | apply Kd.V_alloc | apply Kd.V_drewN | apply Kd.V_drew)); exact HO0.out) (Kd.N_base ho11) hb); have n1_ := Aside0.mk (Kd.V_elder' (by (with_reducible repeat (first | apply Kd.V_alloc | apply Kd.V_drewN | apply Kd.V_drew)); exact HO1.out) (Kd.N_base ho11) hb); have n2_ := Aside0.mk (Kd.N_lower ho11 (below_size (bl0 HB.out))); have n3_ := Aside0.mk (below_step (bl0 HB.out) hb); clear HO0; clear HO1; clear HB; have HO0 := n0_; have HO1 := n1_; have HO637 := n2_; have HB := n3_; clear n0_ n1_ n2_ n3_; clear hb ho11; obtain ⟨Ao12, co12, eo12⟩ := Kd.N_slice HO637.out; subst eo12) | ((with_reducible refine gate_callee (f := 58) rfl ?_); refine goesL_ (some 9) rfl rfl Try.func58 (by kernel_rfl) rfl #[.slice Ao12 y635.length co12] rfl gl ?_; (with_reducible refine (bD.calls k _ _ y635 t638 _ ?side1 ?side2 A3.out).mono ?_); (case side1 => repeat (first | exact (Kd.N_reads' HO637.out).2.2 | (with_reducible refine Kd.C_alloc ?_ _) | (with_reducible refine Kd.C_drewN ?_ _) | (with_reducible refine Kd.C_drew ?_))); (case side2 => exact (Kd.N_reads' HO637.out).2.1); rintro e w13 ⟨rfl, hb⟩; refine ⟨_, rfl, ?_⟩; have n0_ := Aside0.mk (Kd.V_below (by (with_reducible repeat (first | apply Kd.V_alloc | apply Kd.V_drewN | apply Kd.V_drew)); exact HO0.out) hb); have n1_ := Aside0.mk (Kd.V_below (by (with_reducible repeat (first | apply Kd.V_alloc | apply Kd.V_drewN | apply Kd.V_drew)); exact HO1.out) hb); have n2_ := Aside0.mk (Kd.N_below (by (with_reducible repeat (first | apply Kd.N_alloc | apply Kd.N_drewN | apply Kd.N_drew)); exact HO637.out) hb); have n3_ := Aside0.mk (below_step (bl0 HB.out) hb); clear HO0; clear HO1; clear HO637; clear HB; have HO0 := n0_; have HO1 := n1_; have HO637 := n2_; have HB := n3_; clear n0_ n1_ n2_ n3_) | ((with_reducible refine gate_dst (N := 11) rfl ?_); refine Kd.N_lit (Kd.slice 25 (Kd.int .u32)) _ 22 ?hg (N' := 11) ?hd (xs := ([l1] : List (List Int))) (inner := [.slice A1 l1.length c1]) (ok := (fun k_ => ((P0_ k_ ∨ P1_ k_) ∨ w.heap.size ≤ k_) ∧ some k_ ≠ (.slice Ao12 y635.length co12 : Value).ownBlock)) (okp := (fun k_ => ((P0_ k_ ∨ P1_ k_) ∨ w.heap.size ≤ k_) ∧ some k_ ≠ (.slice Ao12 y635.length co12 : Value).ownBlock)) ?hr ?hp (fun _ hk => hk) ((show ∀ k_, w13.heap.size ≤ k_ → (fun k_ => ((P0_ k_ ∨ P1_ k_) ∨ w.heap.size ≤ k_) ∧ some k_ ≠ (.slice Ao12 y635.length co12 : Value).ownBlock) k_ from fun k_ hk => ⟨(.inr (Nat.le_trans (below_size (bl0 HB.out)) hk)), Kd.fresh' (Kd.N_lt (by (with_reducible repeat (first | apply Kd.N_alloc | apply Kd.N_drewN | apply Kd.N_drew)); exact HO637.out)) k_ hk⟩) _ (Nat.le_refl _)) (Below.refl _ _) (Nat.le_refl _) (by simp) ?_; (case hd => rfl); (case hg => rfl); (case hr => first | (go_simp; done) | (go_simp; rfl)); (case hp => exact (Reps.one (show Kd.FK (Kd.slice 25 (Kd.int .u32)) _ _ l1 [.slice A1 l1.length c1] from (Kd.FK_slice_mk (Kd.V_reads' (Kd.V_mono (ok' := (fun k_ => ((P0_ k_ ∨ P1_ k_) ∨ w.heap.size ≤ k_) ∧ some k_ ≠ (.slice Ao12 y635.length co12 : Value).ownBlock)) (HO1.out) (fun k_ hk => ⟨hk.1, hk.2⟩))).2.1 (Kd.V_F (Kd.V_mono (ok' := (fun k_ => ((P0_ k_ ∨ P1_ k_) ∨ w.heap.size ≤ k_) ∧ some k_ ≠ (.slice Ao12 y635.length co12 : Value).ownBlock)) (HO1.out) (fun k_ hk => ⟨hk.1, hk.2⟩))))) (Reps.none _ _))); intro v640 w14 ho15 hb hg_ hnew_; clear hg_ hnew_; (first | rw [← Ny639.out] at ho15 | (simp only [Int.reduceToNat] at ho15; rw [← Ny639.out] at ho15)); have n0_ := Aside0.mk (Kd.V_elder' (by (with_reducible repeat (first | apply Kd.V_alloc | apply Kd.V_drewN | apply Kd.V_drew)); exact HO0.out) (Kd.N_base ho15) hb); have n1_ := Aside0.mk (Kd.V_elder' (by (with_reducible repeat (first | apply Kd.V_alloc | apply Kd.V_drewN | apply Kd.V_drew)); exact HO1.out) (Kd.N_base ho15) hb); have n2_ := Aside0.mk (Kd.N_elder' (by (with_reducible repeat (first | apply Kd.N_alloc | apply Kd.N_drewN | apply Kd.N_drew)); exact HO637.out) (Kd.N_base ho15) hb); have n3_ := Aside0.mk (Kd.N_lower ho15 (below_size (bl0 HB.out))); have n4_ := Aside0.mk (below_step (bl0 HB.out) hb); clear HO0; clear HO1; clear HO637; clear HB; have HO0 := n0_; have HO1 := n1_; have HO637 := n2_; have HO641 := n3_; have HB := n4_; clear n0_ n1_ n2_ n3_ n4_; clear hb ho15; obtain ⟨Ao16, co16, eo16⟩ := Kd.N_slice HO641.out; subst eo16) | ((with_reducible refine gate_callee (f := 58) rfl ?_); refine goesL_ (some 12) rfl rfl Try.func58 (by kernel_rfl) rfl #[.slice Ao16 y639.length co16] rfl gl ?_; (with_reducible refine (bD.calls k _ _ y639 t642 _ ?side1 ?side2 A4.out).mono ?_); (case side1 => repeat (first | exact (Kd.N_reads' HO641.out).2.2 | (with_reducible refine Kd.C_alloc ?_ _) | (with_reducible refine Kd.C_drewN ?_ _) | (with_reducible refine Kd.C_drew ?_))); (case side2 => exact (Kd.N_reads' HO641.out).2.1); rintro e w17 ⟨rfl, hb⟩; refine ⟨_, rfl, ?_⟩; have n0_ := Aside0.mk (Kd.V_below (by (with_reducible repeat (first | apply Kd.V_alloc | apply Kd.V_drewN | apply Kd.V_drew)); exact HO0.out) hb); have n1_ := Aside0.mk (Kd.V_below (by (with_reducible repeat (first | apply Kd.V_alloc | apply Kd.V_drewN | apply Kd.V_drew)); exact HO1.out) hb); have n2_ := Aside0.mk (Kd.N_below (by (with_reducible repeat (first | apply Kd.N_alloc | apply Kd.N_drewN | apply Kd.N_drew)); exact HO637.out) hb); have n3_ := Aside0.mk (Kd.N_below (by (with_reducible repeat (first | apply Kd.N_alloc | apply Kd.N_drewN | apply Kd.N_drew)); exact HO641.out) hb); have n4_ := Aside0.mk (below_step (bl0 HB.out) hb); clear HO0; clear HO1; clear HO637; clear HO641; clear HB; have HO0 := n0_; have HO1 := n1_; have HO637 := n2_; have HO641 := n3_; have HB := n4_; clear n0_ n1_ n2_ n3_ n4_) | ((with_reducible refine gate_callee (f := 59) rfl ?_); refine goesL_ (some 14) rfl rfl Try.func59 (by kernel_rfl) rfl #[.int .u32 t638, .int .u32 0] rfl gl ?_; (with_reducible refine (bU.calls k t638 0 true _ A5.out).mono ?_); rintro e w' ⟨rfl, ⟨nd, rfl⟩⟩; refine ⟨_, rfl, ?_⟩) | (go_at_call 59; (with_reducible refine (bU.calls k t642 0 true _ A7.out).mono ?_); rintro e w' ⟨rfl, ⟨nd, rfl⟩⟩) | ((with_reducible refine gate_callee (f := 60) rfl ?_); refine goesL_ (some 21) rfl rfl Try.func60 (by kernel_rfl) rfl #[.int .u32 t638, .int .u32 t642] rfl gl ?_; (with_reducible refine (dN.calls k t638 t642 t645 _ A9.out).mono ?_); rintro e w18 ⟨rfl, hb⟩; refine ⟨_, rfl, ?_⟩; have n0_ := Aside0.mk (Kd.V_below (by (with_reducible repeat (first | apply Kd.V_alloc | apply Kd.V_drewN | apply Kd.V_drew)); exact HO0.out) hb); have n1_ := Aside0.mk (Kd.V_below (by (with_reducible repeat (first | apply Kd.V_alloc | apply Kd.V_drewN | apply Kd.V_drew)); exact HO1.out) hb); have n2_ := Aside0.mk (Kd.N_below (by (with_reducible repeat (first | apply Kd.N_alloc | apply Kd.N_drewN | apply Kd.N_drew)); exact HO637.out) hb); have n3_ := Aside0.mk (Kd.N_below (by (with_reducible repeat (first | apply Kd.N_alloc | apply Kd.N_drewN | apply Kd.N_drew)); exact HO641.out) hb); have n4_ := Aside0.mk (below_step (bl0 HB.out) hb); clear HO0; clear HO1; clear HO637; clear HO641; clear HB; have HO0 := n0_; have HO1 := n1_; have HO637 := n2_; have HO641 := n3_; have HB := n4_; clear n0_ n1_ n2_ n3_ n4_))
   go_ret
   exact ⟨by first | rfl | (simp [bK, bL] <;> rfl) | (simp [*, bK, bL] <;> rfl), bl0 HB.out⟩
  ·replace c8 := Bool.eq_false_iff.mpr c8
   subst c8
   have H1 : (some 1065353216) = some r := by rw [if_neg (show ¬ (false = true) by decide)] at H; exact H
   clear H
   have H := H1
   clear H1
   obtain rfl := Option.some.inj H
   go_enter Try.func35, Try.ntmps35
   go_wp2_with (first | ((with_reducible refine gate_dst (N := 8) rfl ?_); refine Kd.N_lit (Kd.slice 25 (Kd.int .u32)) _ 22 ?hg (N' := 8) ?hd (xs := ([l0] : List (List Int))) (inner := [.slice A0 l0.length c0]) (ok := (fun k_ => ((P0_ k_ ∨ P1_ k_) ∨ w.heap.size ≤ k_))) (okp := (fun k_ => ((P0_ k_ ∨ P1_ k_) ∨ w.heap.size ≤ k_))) ?hr ?hp (fun _ hk => hk) ((show ∀ k_, w.heap.size ≤ k_ → (fun k_ => ((P0_ k_ ∨ P1_ k_) ∨ w.heap.size ≤ k_)) k_ from fun k_ hk => (.inr (Nat.le_trans (below_size (bl0 HB.out)) hk))) _ (Nat.le_refl _)) (Below.refl _ _) (Nat.le_refl _) (by simp) ?_; (case hd => rfl); (case hg => rfl); (case hr => first | (go_simp; done) | (go_simp; rfl)); (case hp => exact (Reps.one (show Kd.FK (Kd.slice 25 (Kd.int .u32)) _ _ l0 [.slice A0 l0.length c0] from (Kd.FK_slice_mk (Kd.V_reads' (Kd.V_mono (ok' := (fun k_ => ((P0_ k_ ∨ P1_ k_) ∨ w.heap.size ≤ k_))) (HO0.out) (fun k_ hk => hk))).2.1 (Kd.V_F (Kd.V_mono (ok' := (fun k_ => ((P0_ k_ ∨ P1_ k_) ∨ w.heap.size ≤ k_))) (HO0.out) (fun k_ hk => hk))))) (Reps.none _ _))); intro v636 w19 ho20 hb hg_ hnew_; clear hg_ hnew_; (first | rw [← Ny635.out] at ho20 | (simp only [Int.reduceToNat] at ho20; rw [← Ny635.out] at ho20)); have n0_ := Aside0.mk (Kd.V_elder' (by (with_reducible repeat (first | apply Kd.V_alloc | apply Kd.V_drewN | apply Kd.V_drew)); exact HO0.out) (Kd.N_base ho20) hb); have n1_ := Aside0.mk (Kd.V_elder' (by (with_reducible repeat (first | apply Kd.V_alloc | apply Kd.V_drewN | apply Kd.V_drew)); exact HO1.out) (Kd.N_base ho20) hb); have n2_ := Aside0.mk (Kd.N_lower ho20 (below_size (bl0 HB.out))); have n3_ := Aside0.mk (below_step (bl0 HB.out) hb); clear HO0; clear HO1; clear HB; have HO0 := n0_; have HO1 := n1_; have HO637 := n2_; have HB := n3_; clear n0_ n1_ n2_ n3_; clear hb ho20; obtain ⟨Ao21, co21, eo21⟩ := Kd.N_slice HO637.out; subst eo21) | ((with_reducible refine gate_callee (f := 58) rfl ?_); refine goesL_ (some 9) rfl rfl Try.func58 (by kernel_rfl) rfl #[.slice Ao21 y635.length co21] rfl gl ?_; (with_reducible refine (bD.calls k _ _ y635 t638 _ ?side1 ?side2 A3.out).mono ?_); (case side1 => repeat (first | exact (Kd.N_reads' HO637.out).2.2 | (with_reducible refine Kd.C_alloc ?_ _) | (with_reducible refine Kd.C_drewN ?_ _) | (with_reducible refine Kd.C_drew ?_))); (case side2 => exact (Kd.N_reads' HO637.out).2.1); rintro e w22 ⟨rfl, hb⟩; refine ⟨_, rfl, ?_⟩; have n0_ := Aside0.mk (Kd.V_below (by (with_reducible repeat (first | apply Kd.V_alloc | apply Kd.V_drewN | apply Kd.V_drew)); exact HO0.out) hb); have n1_ := Aside0.mk (Kd.V_below (by (with_reducible repeat (first | apply Kd.V_alloc | apply Kd.V_drewN | apply Kd.V_drew)); exact HO1.out) hb); have n2_ := Aside0.mk (Kd.N_below (by (with_reducible repeat (first | apply Kd.N_alloc | apply Kd.N_drewN | apply Kd.N_drew)); exact HO637.out) hb); have n3_ := Aside0.mk (below_step (bl0 HB.out) hb); clear HO0; clear HO1; clear HO637; clear HB; have HO0 := n0_; have HO1 := n1_; have HO637 := n2_; have HB := n3_; clear n0_ n1_ n2_ n3_) | ((with_reducible refine gate_dst (N := 11) rfl ?_); refine Kd.N_lit (Kd.slice 25 (Kd.int .u32)) _ 22 ?hg (N' := 11) ?hd (xs := ([l1] : List (List Int))) (inner := [.slice A1 l1.length c1]) (ok := (fun k_ => ((P0_ k_ ∨ P1_ k_) ∨ w.heap.size ≤ k_) ∧ some k_ ≠ (.slice Ao21 y635.length co21 : Value).ownBlock)) (okp := (fun k_ => ((P0_ k_ ∨ P1_ k_) ∨ w.heap.size ≤ k_) ∧ some k_ ≠ (.slice Ao21 y635.length co21 : Value).ownBlock)) ?hr ?hp (fun _ hk => hk) ((show ∀ k_, w22.heap.size ≤ k_ → (fun k_ => ((P0_ k_ ∨ P1_ k_) ∨ w.heap.size ≤ k_) ∧ some k_ ≠ (.slice Ao21 y635.length co21 : Value).ownBlock) k_ from fun k_ hk => ⟨(.inr (Nat.le_trans (below_size (bl0 HB.out)) hk)), Kd.fresh' (Kd.N_lt (by (with_reducible repeat (first | apply Kd.N_alloc | apply Kd.N_drewN | apply Kd.N_drew)); exact HO637.out)) k_ hk⟩) _ (Nat.le_refl _)) (Below.refl _ _) (Nat.le_refl _) (by simp) ?_; (case hd => rfl); (case hg => rfl); (case hr => first | (go_simp; done) | (go_simp; rfl)); (case hp => exact (Reps.one (show Kd.FK (Kd.slice 25 (Kd.int .u32)) _ _ l1 [.slice A1 l1.length c1] from (Kd.FK_slice_mk (Kd.V_reads' (Kd.V_mono (ok' := (fun k_ => ((P0_ k_ ∨ P1_ k_) ∨ w.heap.size ≤ k_) ∧ some k_ ≠ (.slice Ao21 y635.length co21 : Value).ownBlock)) (HO1.out) (fun k_ hk => ⟨hk.1, hk.2⟩))).2.1 (Kd.V_F (Kd.V_mono (ok' := (fun k_ => ((P0_ k_ ∨ P1_ k_) ∨ w.heap.size ≤ k_) ∧ some k_ ≠ (.slice Ao21 y635.length co21 : Value).ownBlock)) (HO1.out) (fun k_ hk => ⟨hk.1, hk.2⟩))))) (Reps.none _ _))); intro v640 w23 ho24 hb hg_ hnew_; clear hg_ hnew_; (first | rw [← Ny639.out] at ho24 | (simp only [Int.reduceToNat] at ho24; rw [← Ny639.out] at ho24)); have n0_ := Aside0.mk (Kd.V_elder' (by (with_reducible repeat (first | apply Kd.V_alloc | apply Kd.V_drewN | apply Kd.V_drew)); exact HO0.out) (Kd.N_base ho24) hb); have n1_ := Aside0.mk (Kd.V_elder' (by (with_reducible repeat (first | apply Kd.V_alloc | apply Kd.V_drewN | apply Kd.V_drew)); exact HO1.out) (Kd.N_base ho24) hb); have n2_ := Aside0.mk (Kd.N_elder' (by (with_reducible repeat (first | apply Kd.N_alloc | apply Kd.N_drewN | apply Kd.N_drew)); exact HO637.out) (Kd.N_base ho24) hb); have n3_ := Aside0.mk (Kd.N_lower ho24 (below_size (bl0 HB.out))); have n4_ := Aside0.mk (below_step (bl0 HB.out) hb); clear HO0; clear HO1; clear HO637; clear HB; have HO0 := n0_; have HO1 := n1_; have HO637 := n2_; have HO641 := n3_; have HB := n4_; clear n0_ n1_ n2_ n3_ n4_; clear hb ho24; obtain ⟨Ao25, co25, eo25⟩ := Kd.N_slice HO641.out; subst eo25) | ((with_reducible refine gate_callee (f := 58) rfl ?_); refine goesL_ (some 12) rfl rfl Try.func58 (by kernel_rfl) rfl #[.slice Ao25 y639.length co25] rfl gl ?_; (with_reducible refine (bD.calls k _ _ y639 t642 _ ?side1 ?side2 A4.out).mono ?_); (case side1 => repeat (first | exact (Kd.N_reads' HO641.out).2.2 | (with_reducible refine Kd.C_alloc ?_ _) | (with_reducible refine Kd.C_drewN ?_ _) | (with_reducible refine Kd.C_drew ?_))); (case side2 => exact (Kd.N_reads' HO641.out).2.1); rintro e w26 ⟨rfl, hb⟩; refine ⟨_, rfl, ?_⟩; have n0_ := Aside0.mk (Kd.V_below (by (with_reducible repeat (first | apply Kd.V_alloc | apply Kd.V_drewN | apply Kd.V_drew)); exact HO0.out) hb); have n1_ := Aside0.mk (Kd.V_below (by (with_reducible repeat (first | apply Kd.V_alloc | apply Kd.V_drewN | apply Kd.V_drew)); exact HO1.out) hb); have n2_ := Aside0.mk (Kd.N_below (by (with_reducible repeat (first | apply Kd.N_alloc | apply Kd.N_drewN | apply Kd.N_drew)); exact HO637.out) hb); have n3_ := Aside0.mk (Kd.N_below (by (with_reducible repeat (first | apply Kd.N_alloc | apply Kd.N_drewN | apply Kd.N_drew)); exact HO641.out) hb); have n4_ := Aside0.mk (below_step (bl0 HB.out) hb); clear HO0; clear HO1; clear HO637; clear HO641; clear HB; have HO0 := n0_; have HO1 := n1_; have HO637 := n2_; have HO641 := n3_; have HB := n4_; clear n0_ n1_ n2_ n3_ n4_) | ((with_reducible refine gate_callee (f := 59) rfl ?_); refine goesL_ (some 14) rfl rfl Try.func59 (by kernel_rfl) rfl #[.int .u32 t638, .int .u32 0] rfl gl ?_; (with_reducible refine (bU.calls k t638 0 true _ A5.out).mono ?_); rintro e w' ⟨rfl, ⟨nd, rfl⟩⟩; refine ⟨_, rfl, ?_⟩) | (go_at_call 59; (with_reducible refine (bU.calls k t642 0 false _ A7.out).mono ?_); rintro e w' ⟨rfl, ⟨nd, rfl⟩⟩))
   go_ret
   exact ⟨by first | rfl | (simp [bK, bL] <;> rfl) | (simp [*, bK, bL] <;> rfl), bl0 HB.out⟩
 ·replace c6 := Bool.eq_false_iff.mpr c6
  subst c6
  have H1 : (some 1065353216) = some r := by rw [if_neg (show ¬ (false = true) by decide)] at H; exact H
  clear H
  have H := H1
  clear H1
  obtain rfl := Option.some.inj H
  go_enter Try.func35, Try.ntmps35
  go_wp2_with (first | ((with_reducible refine gate_dst (N := 8) rfl ?_); refine Kd.N_lit (Kd.slice 25 (Kd.int .u32)) _ 22 ?hg (N' := 8) ?hd (xs := ([l0] : List (List Int))) (inner := [.slice A0 l0.length c0]) (ok := (fun k_ => ((P0_ k_ ∨ P1_ k_) ∨ w.heap.size ≤ k_))) (okp := (fun k_ => ((P0_ k_ ∨ P1_ k_) ∨ w.heap.size ≤ k_))) ?hr ?hp (fun _ hk => hk) ((show ∀ k_, w.heap.size ≤ k_ → (fun k_ => ((P0_ k_ ∨ P1_ k_) ∨ w.heap.size ≤ k_)) k_ from fun k_ hk => (.inr (Nat.le_trans (below_size (bl0 HB.out)) hk))) _ (Nat.le_refl _)) (Below.refl _ _) (Nat.le_refl _) (by simp) ?_; (case hd => rfl); (case hg => rfl); (case hr => first | (go_simp; done) | (go_simp; rfl)); (case hp => exact (Reps.one (show Kd.FK (Kd.slice 25 (Kd.int .u32)) _ _ l0 [.slice A0 l0.length c0] from (Kd.FK_slice_mk (Kd.V_reads' (Kd.V_mono (ok' := (fun k_ => ((P0_ k_ ∨ P1_ k_) ∨ w.heap.size ≤ k_))) (HO0.out) (fun k_ hk => hk))).2.1 (Kd.V_F (Kd.V_mono (ok' := (fun k_ => ((P0_ k_ ∨ P1_ k_) ∨ w.heap.size ≤ k_))) (HO0.out) (fun k_ hk => hk))))) (Reps.none _ _))); intro v636 w27 ho28 hb hg_ hnew_; clear hg_ hnew_; (first | rw [← Ny635.out] at ho28 | (simp only [Int.reduceToNat] at ho28; rw [← Ny635.out] at ho28)); have n0_ := Aside0.mk (Kd.V_elder' (by (with_reducible repeat (first | apply Kd.V_alloc | apply Kd.V_drewN | apply Kd.V_drew)); exact HO0.out) (Kd.N_base ho28) hb); have n1_ := Aside0.mk (Kd.V_elder' (by (with_reducible repeat (first | apply Kd.V_alloc | apply Kd.V_drewN | apply Kd.V_drew)); exact HO1.out) (Kd.N_base ho28) hb); have n2_ := Aside0.mk (Kd.N_lower ho28 (below_size (bl0 HB.out))); have n3_ := Aside0.mk (below_step (bl0 HB.out) hb); clear HO0; clear HO1; clear HB; have HO0 := n0_; have HO1 := n1_; have HO637 := n2_; have HB := n3_; clear n0_ n1_ n2_ n3_; clear hb ho28; obtain ⟨Ao29, co29, eo29⟩ := Kd.N_slice HO637.out; subst eo29) | ((with_reducible refine gate_callee (f := 58) rfl ?_); refine goesL_ (some 9) rfl rfl Try.func58 (by kernel_rfl) rfl #[.slice Ao29 y635.length co29] rfl gl ?_; (with_reducible refine (bD.calls k _ _ y635 t638 _ ?side1 ?side2 A3.out).mono ?_); (case side1 => repeat (first | exact (Kd.N_reads' HO637.out).2.2 | (with_reducible refine Kd.C_alloc ?_ _) | (with_reducible refine Kd.C_drewN ?_ _) | (with_reducible refine Kd.C_drew ?_))); (case side2 => exact (Kd.N_reads' HO637.out).2.1); rintro e w30 ⟨rfl, hb⟩; refine ⟨_, rfl, ?_⟩; have n0_ := Aside0.mk (Kd.V_below (by (with_reducible repeat (first | apply Kd.V_alloc | apply Kd.V_drewN | apply Kd.V_drew)); exact HO0.out) hb); have n1_ := Aside0.mk (Kd.V_below (by (with_reducible repeat (first | apply Kd.V_alloc | apply Kd.V_drewN | apply Kd.V_drew)); exact HO1.out) hb); have n2_ := Aside0.mk (Kd.N_below (by (with_reducible repeat (first | apply Kd.N_alloc | apply Kd.N_drewN | apply Kd.N_drew)); exact HO637.out) hb); have n3_ := Aside0.mk (below_step (bl0 HB.out) hb); clear HO0; clear HO1; clear HO637; clear HB; have HO0 := n0_; have HO1 := n1_; have HO637 := n2_; have HB := n3_; clear n0_ n1_ n2_ n3_) | ((with_reducible refine gate_dst (N := 11) rfl ?_); refine Kd.N_lit (Kd.slice 25 (Kd.int .u32)) _ 22 ?hg (N' := 11) ?hd (xs := ([l1] : List (List Int))) (inner := [.slice A1 l1.length c1]) (ok := (fun k_ => ((P0_ k_ ∨ P1_ k_) ∨ w.heap.size ≤ k_) ∧ some k_ ≠ (.slice Ao29 y635.length co29 : Value).ownBlock)) (okp := (fun k_ => ((P0_ k_ ∨ P1_ k_) ∨ w.heap.size ≤ k_) ∧ some k_ ≠ (.slice Ao29 y635.length co29 : Value).ownBlock)) ?hr ?hp (fun _ hk => hk) ((show ∀ k_, w30.heap.size ≤ k_ → (fun k_ => ((P0_ k_ ∨ P1_ k_) ∨ w.heap.size ≤ k_) ∧ some k_ ≠ (.slice Ao29 y635.length co29 : Value).ownBlock) k_ from fun k_ hk => ⟨(.inr (Nat.le_trans (below_size (bl0 HB.out)) hk)), Kd.fresh' (Kd.N_lt (by (with_reducible repeat (first | apply Kd.N_alloc | apply Kd.N_drewN | apply Kd.N_drew)); exact HO637.out)) k_ hk⟩) _ (Nat.le_refl _)) (Below.refl _ _) (Nat.le_refl _) (by simp) ?_; (case hd => rfl); (case hg => rfl); (case hr => first | (go_simp; done) | (go_simp; rfl)); (case hp => exact (Reps.one (show Kd.FK (Kd.slice 25 (Kd.int .u32)) _ _ l1 [.slice A1 l1.length c1] from (Kd.FK_slice_mk (Kd.V_reads' (Kd.V_mono (ok' := (fun k_ => ((P0_ k_ ∨ P1_ k_) ∨ w.heap.size ≤ k_) ∧ some k_ ≠ (.slice Ao29 y635.length co29 : Value).ownBlock)) (HO1.out) (fun k_ hk => ⟨hk.1, hk.2⟩))).2.1 (Kd.V_F (Kd.V_mono (ok' := (fun k_ => ((P0_ k_ ∨ P1_ k_) ∨ w.heap.size ≤ k_) ∧ some k_ ≠ (.slice Ao29 y635.length co29 : Value).ownBlock)) (HO1.out) (fun k_ hk => ⟨hk.1, hk.2⟩))))) (Reps.none _ _))); intro v640 w31 ho32 hb hg_ hnew_; clear hg_ hnew_; (first | rw [← Ny639.out] at ho32 | (simp only [Int.reduceToNat] at ho32; rw [← Ny639.out] at ho32)); have n0_ := Aside0.mk (Kd.V_elder' (by (with_reducible repeat (first | apply Kd.V_alloc | apply Kd.V_drewN | apply Kd.V_drew)); exact HO0.out) (Kd.N_base ho32) hb); have n1_ := Aside0.mk (Kd.V_elder' (by (with_reducible repeat (first | apply Kd.V_alloc | apply Kd.V_drewN | apply Kd.V_drew)); exact HO1.out) (Kd.N_base ho32) hb); have n2_ := Aside0.mk (Kd.N_elder' (by (with_reducible repeat (first | apply Kd.N_alloc | apply Kd.N_drewN | apply Kd.N_drew)); exact HO637.out) (Kd.N_base ho32) hb); have n3_ := Aside0.mk (Kd.N_lower ho32 (below_size (bl0 HB.out))); have n4_ := Aside0.mk (below_step (bl0 HB.out) hb); clear HO0; clear HO1; clear HO637; clear HB; have HO0 := n0_; have HO1 := n1_; have HO637 := n2_; have HO641 := n3_; have HB := n4_; clear n0_ n1_ n2_ n3_ n4_; clear hb ho32; obtain ⟨Ao33, co33, eo33⟩ := Kd.N_slice HO641.out; subst eo33) | ((with_reducible refine gate_callee (f := 58) rfl ?_); refine goesL_ (some 12) rfl rfl Try.func58 (by kernel_rfl) rfl #[.slice Ao33 y639.length co33] rfl gl ?_; (with_reducible refine (bD.calls k _ _ y639 t642 _ ?side1 ?side2 A4.out).mono ?_); (case side1 => repeat (first | exact (Kd.N_reads' HO641.out).2.2 | (with_reducible refine Kd.C_alloc ?_ _) | (with_reducible refine Kd.C_drewN ?_ _) | (with_reducible refine Kd.C_drew ?_))); (case side2 => exact (Kd.N_reads' HO641.out).2.1); rintro e w34 ⟨rfl, hb⟩; refine ⟨_, rfl, ?_⟩; have n0_ := Aside0.mk (Kd.V_below (by (with_reducible repeat (first | apply Kd.V_alloc | apply Kd.V_drewN | apply Kd.V_drew)); exact HO0.out) hb); have n1_ := Aside0.mk (Kd.V_below (by (with_reducible repeat (first | apply Kd.V_alloc | apply Kd.V_drewN | apply Kd.V_drew)); exact HO1.out) hb); have n2_ := Aside0.mk (Kd.N_below (by (with_reducible repeat (first | apply Kd.N_alloc | apply Kd.N_drewN | apply Kd.N_drew)); exact HO637.out) hb); have n3_ := Aside0.mk (Kd.N_below (by (with_reducible repeat (first | apply Kd.N_alloc | apply Kd.N_drewN | apply Kd.N_drew)); exact HO641.out) hb); have n4_ := Aside0.mk (below_step (bl0 HB.out) hb); clear HO0; clear HO1; clear HO637; clear HO641; clear HB; have HO0 := n0_; have HO1 := n1_; have HO637 := n2_; have HO641 := n3_; have HB := n4_; clear n0_ n1_ n2_ n3_ n4_) | ((with_reducible refine gate_callee (f := 59) rfl ?_); refine goesL_ (some 14) rfl rfl Try.func59 (by kernel_rfl) rfl #[.int .u32 t638, .int .u32 0] rfl gl ?_; (with_reducible refine (bU.calls k t638 0 false _ A5.out).mono ?_); rintro e w' ⟨rfl, ⟨nd, rfl⟩⟩; refine ⟨_, rfl, ?_⟩))
  go_ret
  exact ⟨by first | rfl | (simp [bK, bL] <;> rfl) | (simp [*, bK, bL] <;> rfl), bl0 HB.out⟩

end Go.Proofs.Ytfapjegkilljnaa.P

/- The program's lengths and trust: they always tell a number. -/
namespace Go.Proofs.Ytfapjegkilljnaa.Round
open Go.RowKit Go.Proofs.Ytfapjegkilljnaa.P Go.Proofs.Ytfapjegkilljnaa.Num Go.Proofs.Ytfapjegkilljnaa.BitsF Go.Proofs.Ytfapjegkilljnaa.Fmt Go.Proofs.YtfapjegkilljnaaW.PrintWords Go.Proofs.YtfapjegkilljnaaW.PrintLast Go.Proofs.YtfapjegkilljnaaW.PrintMore
theorem qE (a : Nat) (ha : a < 4294967296) : Ev (fun k => eT.f k (a : Int)) ((mU 2 0 a : Nat) : Int) :=
 Ev.congr (fun k => by unfold eT.f; rfl) (Ev.bind (aAc 2 0 a ha) (Ev.now _))
theorem uY (a : Nat) : mU 2 0 a < 4294967296 := by
 unfold mU
 split
 ·exact iK 2
 ·split
  ·exact qF 2 _
  ·split
   ·exact iK 2
   ·split
    ·exact (aAg 2 false).2.2
    ·unfold sideN; exact oM ..
theorem len_l1 (xs : List Int) (hx : ∀ x ∈ xs, 0 ≤ x ∧ x < 4294967296) (hl : xs.length ≤ 1000) : ∀ (n j : Nat) (s : Nat), j + n = xs.length → s < 4294967296 → ∃ r : Nat, Ev (fun k => bD.l1 k (s : Int) [xs] 1 0 xs (xs.length : Int) (j : Int)) (r : Int) ∧ r < 4294967296 := by
 intro n
 induction n with
 |zero =>
  intro j s hj hs
  obtain rfl : j = xs.length := by omega
  refine ⟨mU 2 0 s, Ev.step (fun k => by rw [bD.l1, if_neg (Int.lt_irrefl _)]) (Ev.step (fun k => by rw [bD.l0, if_neg (show ¬ wrap64 ((0 : Int) + 1) < 1 by rw [bT _ (by decide) (by decide)]; decide)]) (Ev.bind (qE s hs) (Ev.now _))), uY s⟩
 |succ n ih =>
  intro j s hj hs
  have hm : rd xs (j : Int) ∈ xs := by
   unfold rd
   rw [Int.toNat_natCast, List.getD_eq_getElem?_getD, List.getElem?_eq_getElem (show j < xs.length by omega)]
   exact List.getElem_mem _
  obtain ⟨v, hv⟩ := kX (hx _ hm).1
  have hv2 := (hx _ hm).2
  obtain ⟨r, hr, hb⟩ := ih (j + 1) (uN 2 0 v v s) (by omega) (yX ..)
  refine ⟨r, Ev.step (fun k => by rw [bD.l1, if_pos (show (j : Int) < (xs.length : Int) by omega), if_pos (show (0 : Int) ≤ (j : Int) by omega), if_pos (show (j : Int) < (xs.length : Int) by omega), hv, bT _ (by omega) (by omega)]) (Ev.bind (yL v v s (by omega) (by omega) hs) ?_), hb⟩
  exact Ev.congr (fun k => by rw [Int.natCast_add]; rfl) hr
theorem pJ (xs : List Int) (hx : ∀ x ∈ xs, 0 ≤ x ∧ x < 4294967296) (hl : xs.length ≤ 1000) : ∃ r : Nat, Ev (fun k => bD.f k [xs]) (r : Int) ∧ r < 4294967296 := by
 obtain ⟨r, hr, hb⟩ := len_l1 xs hx hl xs.length 0 0 (Nat.zero_add _) (by decide)
 exact ⟨r, Ev.congr (fun k => by unfold bD.f; rfl) (Ev.step (fun k => by rw [bD.l0, if_pos (show (0 : Int) < (([xs] : List (List Int)).length : Int) by show (0 : Int) < ((1 : Nat) : Int); decide), if_pos (Int.le_refl _), if_pos (show (0 : Int) < (([xs] : List (List Int)).length : Int) by show (0 : Int) < ((1 : Nat) : Int); decide)]) (Ev.congr (fun k => by rfl) hr)), hb⟩
theorem trust_ev (xs ys : List Int) (hx : ∀ x ∈ xs, 0 ≤ x ∧ x < 4294967296) (hy : ∀ x ∈ ys, 0 ≤ x ∧ x < 4294967296) (hl : xs.length ≤ 1000) (hl' : ys.length ≤ 1000) : ∃ r : Nat, Ev (fun k => gB.f k xs ys) (r : Int) ∧ r < 4294967296 := by
 obtain ⟨a, ha, ha'⟩ := pJ xs hx hl
 obtain ⟨b, hb, hb'⟩ := pJ ys hy hl'
 have go : ∀ r : Nat, Ev (fun k => (bU.f k (a : Int) 0).bind fun t643 => (if t643 = true then ((bU.f k (b : Int) 0).bind fun t644 => (if t644 = true then ((dN.f k (a : Int) (b : Int)).bind fun t645 => (some t645)) else (some 1065353216))) else (some 1065353216))) (r : Int) → Ev (fun k => gB.f k xs ys) (r : Int) := fun r h =>
  Ev.congr (fun k => by unfold gB.f; rfl) (Ev.bind ha (Ev.bind hb h))
 have z : (0 : Int) = ((0 : Nat) : Int) := rfl
 cases c : uV a 0
 ·refine ⟨1065353216, go _ (Ev.bind (by rw [z]; exact j4 a 0 ha' (by decide)) ?_), by decide⟩
  rw [c]
  exact Ev.congr (fun k => by rw [if_neg (by decide)]; rfl) (Ev.now _)
 ·cases d : uV b 0
  ·refine ⟨1065353216, go _ (Ev.bind (by rw [z]; exact j4 a 0 ha' (by decide)) ?_), by decide⟩
   rw [c]
   refine Ev.congr (fun k => by rw [if_pos rfl]) (Ev.bind (by rw [z]; exact j4 b 0 hb' (by decide)) ?_)
   rw [d]
   exact Ev.congr (fun k => by rw [if_neg (by decide)]; rfl) (Ev.now _)
  ·refine ⟨divN 2 0 a b, go _ (Ev.bind (by rw [z]; exact j4 a 0 ha' (by decide)) ?_), zO ..⟩
   rw [c]
   refine Ev.congr (fun k => by rw [if_pos rfl]) (Ev.bind (by rw [z]; exact j4 b 0 hb' (by decide)) ?_)
   rw [d]
   exact Ev.congr (fun k => by rw [if_pos rfl]) (Ev.bind (yS a b ha' hb') (Ev.now _))
end Go.Proofs.Ytfapjegkilljnaa.Round

/- Entries of functions that take rows of numbers and tell a number. -/
namespace Go.Proofs.Ytfapjegkilljnaa.Xe
open Go.RowKit Go.Proofs.YtfapjegkilljnaaW.PrintWords Go.Proofs.YtfapjegkilljnaaW.PrintLast Go.Proofs.YtfapjegkilljnaaW.PrintMore
def sD : List C → Option Tm
 |[] => some (.l 0)
 |.i k t :: r => match sD r with
  |some q => cnd (Nat.beq (fM k) 6) (some (.c t q)) none
  |none => none
 |_ => none
def U.nums : U → List Int
 |.p x r => x.int :: r.nums
 |_ => []
noncomputable def rowsE (H : oV) (id : Nat) : Fc := fun args h K => match args with
 |[.one (.sl g o z n), .one (.sl g' o' z' n')] => match fQ h 1 (.sl g o z n), fQ h 1 (.sl g' o' z' n') with
  |some cs, some ds => match sD cs, sD ds with
   |some t, some u => cnd (Nat.ble n 1000 && Nat.ble n' 1000) (oU H (.f id (.c t u)) fun t => K (pvi .u32 t) h) false
   |_, _ => false
  |_, _ => false
 |_ => false
section
variable [Rho] {w0 : World} {A : Nat → Prop} {m : M} {h : Hp} {w : World}
theorem vU : ∀ {cs : List C} {t : Tm}, sD cs = some t → oks A cs → vals m cs = t.u.nums.map (Value.int .u32) ∧ ∀ x ∈ t.u.nums, IntKind.u32.has x := by
 intro cs
 induction cs with
 |nil =>
  intro t ht _
  cases ht
  exact ⟨rfl, fun x hx => by cases hx⟩
 |cons c r ih =>
  intro t ht ho
  unfold sD at ht
  split at ht
  ·next e => cases e
  ·next k t' r' e =>
   cases e
   split at ht
   ·next q hq =>
    obtain ⟨h1, h2⟩ := dY ht
    cases h2
    obtain rfl : k = .u32 := fO (k' := .u32) h1
    obtain ⟨e1, e2⟩ := ih hq (fun c hc => ho c (List.mem_cons_of_mem _ hc))
    refine ⟨?_, fun x hx => ?_⟩
    ·show Value.int .u32 t'.d :: vals m _ = Value.int .u32 t'.d :: _
     rw [e1]
    ·have hx : x = t'.d ∨ x ∈ q.u.nums := List.mem_cons.1 hx
     rcases hx with rfl | hx
     ·exact ho _ (List.mem_cons_self ..)
     ·exact e2 x hx
   ·cases ht
  ·cases ht
end
section
variable [Rho] {P : Program} {H : oV}
theorem rowsE_ok (hH : H.Ok) {f : Nat} {fn : Func} (hf : P.funcs[f]? = some fn) (hb : fn.body.isSome = true) (hn : (fn.name == "runtime.NumGoroutine") = false) {id : Nat} {F : List Int → List Int → Int}
  (hF : ∀ a b : U, (Rho.f id (.p a b)).int = F a.nums b.nums) (hr : ∀ a b, IntKind.u32.has (F a b))
  (hc : ∀ (xs ys : List Int) (a b : Option Addr) (ca cb : Nat) (W : World), xs.length ≤ ca → ys.length ≤ cb → xs.length ≤ 1000 → ys.length ≤ 1000 → (∀ x ∈ xs, IntKind.u32.has x) → (∀ x ∈ ys, IntKind.u32.has x) → Kd.C (Kd.int .u32) W a xs.length xs → Kd.C (Kd.int .u32) W b ys.length ys →
   Calls P f #[.slice a xs.length ca, .slice b ys.length cb] W fun e W' => e = .returned (.int .u32 (F xs ys)) ∧ Below W.heap.size W W') : jK P f (rowsE H id) := by
 intro vs h K A m w w0 hrel hv hk
 unfold rowsE at hk
 split at hk
 ·next g o z n g' o' z' n' =>
  split at hk
  ·next cs ds h1 h2 =>
   split at hk
   ·next t u h3 h4 =>
    have h9 := btf hk
    clear hk
    obtain ⟨h5, hk⟩ := h9
    rw [Bool.and_eq_true] at h5
    have l1 := Nat.le_of_ble_eq_true h5.1
    have l2 := Nat.le_of_ble_eq_true h5.2
    obtain rfl := oN h1
    obtain rfl := oN h2
    obtain ⟨_, _, n1, o1, _, _⟩ := fT (s := ⟨.e, h⟩) hrel (by decide) h1
    obtain ⟨_, _, n2, o2, _, _⟩ := fT (s := ⟨.e, h⟩) hrel (by decide) h2
    obtain ⟨e1, r1⟩ := vU (m := m) h3 o1
    obtain ⟨e2, r2⟩ := vU (m := m) h4 o2
    obtain ⟨a, ca, v1, v2, v3⟩ := l5 hrel h1 e1
    obtain ⟨b, cb, u1, u2, u3⟩ := l5 hrel h2 e2
    have len1 : t.u.nums.length ≤ 1000 := by
     have := congrArg List.length e1
     rw [bB, n1, List.length_map] at this
     omega
    have len2 : u.u.nums.length ≤ 1000 := by
     have := congrArg List.length e2
     rw [bB, n2, List.length_map] at this
     omega
    have ea : (([.one (.sl g o 1 n), .one (.sl g' o' 1 n')] : List PV).map (PV.v m)).toArray = #[.slice a t.u.nums.length ca, .slice b u.u.nums.length cb] := by
     show #[(C.sl g o 1 n).v m, (C.sl g' o' 1 n').v m] = _
     rw [v1, u1]
    have e : (Tm.f id (.c t u)).d = F t.u.nums u.u.nums := hF _ _
    exact vV hH hf hb hn hrel hk (by rw [e]; exact hr _ _) (by rw [e, ea]; exact hc _ _ a b ca cb w v2 u2 len1 len2 r1 r2 v3 u3)
   ·cases hk
  ·cases hk
 ·cases hk
omit [Rho] in
theorem foot_int {k : IntKind} {W : World} {A : Option Addr} {n : Nat} {xs : List Int} (h : Kd.C (Kd.int k) W A n xs) : Kd.F (Kd.int k) W (fun _ => True) A n xs := by
 intro W' hW
 refine ⟨h.1, h.2.1, fun hn => ?_⟩
 obtain ⟨ad, e, hc⟩ := h.2.2 hn
 refine ⟨ad, e, fun j p hj => ?_⟩
 obtain ⟨c, hs, hr, hcell⟩ := hc j p hj
 refine ⟨c, hs, hr, fun i u hu => ?_⟩
 have h1 := hcell i u hu
 rw [← h1]
 exact World.cell?_of_block (hW _ trivial (World.block_lt_of_cell? W _ h1))
end
end Go.Proofs.Ytfapjegkilljnaa.Xe

/- opt.single as the closed reckoner's entry: walked once, of letters. -/
namespace Go.Proofs.Ytfapjegkilljnaa.SingleE
open Go.RowKit Go.Proofs.Ytfapjegkilljnaa.Xe Go.Proofs.YtfapjegkilljnaaW.PrintWords Go.Proofs.YtfapjegkilljnaaW.PrintLast Go.Proofs.YtfapjegkilljnaaW.PrintMore
def hook0 : oV := { s := fun _ => none, d := fun _ _ => none, rv := fun _ => (-9223372036854775808, 9223372036854775807), rf := fun _ => (0, 0), cz := fun _ => false }
def K1 : KV := fun v _ => match v with
 |.pv (.agg [.i .i64 a, .i .i64 b, .i .i64 (.l (.ofNat c)), .nil]) => both (both (a.beq (.v 0)) (b.beq (.v 1))) (Nat.beq c 2)
 |_ => false
noncomputable def fs0 : Fns := [(33, Try.f33)]
def args0 : List PV := [.agg [.i .i64 (.v 0), .i .i64 (.v 1), .i .i64 (.v 2), .u 0]]
theorem wP : kW hook0 Try.prog [] fs0 100 5 33 args0 ⟨.e, .e, 1, [], 0⟩ K1 = true := by kernel_rfl
theorem rX (a b c : Int) (v : { v : Value // v.oneCell' = true }) (ha : IntKind.i64.has a) (hb : IntKind.i64.has b) (hc : IntKind.i64.has c) (w : World) :
  Calls Try.prog 33 #[.agg #[.int .i64 a, .int .i64 b, .int .i64 c, v.1]] w fun e w' => e = .returned (.agg #[.int .i64 a, .int .i64 b, .int .i64 2, .slice none 0 0]) ∧ Below w.heap.size w w' := by
 letI : Rho := ⟨fun i => match i with
  |0 => .n a
  |1 => .n b
  |2 => .n c
  |_ => .n 0, fun _ _ => .n 0⟩
 have hH : hook0.Ok := by
  refine ⟨fun t t' h => (by cases h), fun pc b r _ h => (by cases h), fun i => ?_, fun i x => ⟨Int.le_refl _, Int.le_refl _⟩⟩
  match i with
  |0 => exact ha
  |1 => exact hb
  |2 => exact hc
  |n + 3 => exact ⟨by show (-9223372036854775808 : Int) ≤ 0; decide, by show (0 : Int) ≤ 9223372036854775807; decide⟩
 have hr : gQ w (fun j => j = 0) (⟨fun _ => 0, fun _ => 0, fun _ => v⟩ : M) ⟨.e, .e, 1, [], 0⟩ w := by
  refine ⟨?_, ?_, ?_, ?_, fun p hp => (by cases hp), Below.refl _ _⟩
  ·intro g e z wr cs h; cases h
  ·intro i info h; cases h
  ·intro g g' e z cs x h; cases h
  ·intro g h; rw [show g = 0 from h]; exact Nat.zero_lt_one
 have hv : ∀ u ∈ args0, u.ok (fun j => j = 0) := by
  intro u hu
  simp only [args0, List.mem_cons, List.not_mem_nil, or_false] at hu
  subst hu
  intro q hq
  simp only [List.mem_cons, List.not_mem_nil, or_false] at hq
  rcases hq with rfl | rfl | rfl | rfl
  ·exact ha
  ·exact hb
  ·exact hc
  ·rfl
 have hfs : dZ Try.prog fs0 := dZ.cons Try.func33 (by kernel_rfl) dZ.nil
 have h := (evFn_v hH fG.nil hfs 100 5 33 args0 _ K1 _ _ w w hr hv wP).2
 refine h.mono ?_
 rintro e w' ⟨u, A', m', h', k1, rfl, k3, k4, k5⟩
 refine ⟨?_, k4.bel⟩
 unfold K1 at k1
 split at k1
 ·next x y n =>
  obtain ⟨h1, h2⟩ := gI k1
  obtain ⟨h3, h4⟩ := gI h1
  obtain rfl := Tm.jW h3
  obtain rfl := Tm.jW h4
  obtain rfl := Nat.eq_of_beq_eq_true h2
  rfl
 ·cases k1
noncomputable def sgE : Fc := fun args h K => match args with
 |[.agg [.i .i64 a, .i .i64 b, .i .i64 _, _]] => K (.pv (.agg [.i .i64 a, .i .i64 b, .i .i64 (.l (.ofNat 2)), .nil])) h
 |_ => false
theorem sgE_ok [Rho] : jK Try.prog 33 sgE := by
 intro vs h K A m w w0 hrel hv hk
 refine ⟨⟨_, Try.func33, by kernel_rfl, by kernel_rfl⟩, ?_⟩
 unfold sgE at hk
 split at hk
 ·next a b c q =>
  have hcfg := hv _ (List.mem_cons_self ..)
  have ha : IntKind.i64.has a.d := hcfg (.i .i64 a) (by simp)
  have hb : IntKind.i64.has b.d := hcfg (.i .i64 b) (by simp)
  have hc : IntKind.i64.has c.d := hcfg (.i .i64 c) (by simp)
  refine (rX a.d b.d c.d ⟨q.v m, C.one m q⟩ ha hb hc w).mono ?_
  rintro e w' ⟨rfl, hbl⟩
  refine ⟨_, A, m, h, hk, rfl, ?_, hrel.grow hbl, .refl _ _ _ _⟩
  intro x hx
  simp only [List.mem_cons, List.not_mem_nil, or_false] at hx
  rcases hx with rfl | rfl | rfl | rfl
  ·exact ha
  ·exact hb
  ·show IntKind.i64.has 2; exact ⟨by decide, by decide⟩
  ·trivial
 ·cases hk
end Go.Proofs.Ytfapjegkilljnaa.SingleE

/- OptBegins's whole walk, by the closed reckoner. -/
namespace Go.Proofs.Ytfapjegkilljnaa.XwOb
open Go.RowKit Go.Proofs.Ytfapjegkilljnaa.P Go.Proofs.Ytfapjegkilljnaa.Xe Go.Proofs.Ytfapjegkilljnaa.Num Go.Proofs.Ytfapjegkilljnaa.BitsF Go.Proofs.Ytfapjegkilljnaa.Fmt Go.Proofs.Ytfapjegkilljnaa.Round Go.Proofs.YtfapjegkilljnaaW.PrintWords Go.Proofs.YtfapjegkilljnaaW.PrintLast Go.Proofs.YtfapjegkilljnaaW.PrintMore
theorem qE (a : Nat) (ha : a < 4294967296) : Ev (fun k => eT.f k (a : Int)) ((mU 2 0 a : Nat) : Int) :=
  Ev.congr (fun k => by unfold eT.f; rfl) (Ev.bind (aAc 2 0 a ha) (Ev.now _))
theorem turn_l (v : Nat) : jE 2 v < 4294967296 := (pV 2 v).2.2.2.2
theorem uY (a : Nat) : mU 2 0 a < 4294967296 := by
  unfold mU
  split
  · exact iK 2
  · split
    · exact qF 2 _
    · split
      · exact iK 2
      · split
        · exact (aAg 2 false).2.2
        · unfold sideN; exact oM ..
def n32 (x : Int) : Nat := (IntKind.u32.wrap x).toNat
theorem iZ {x : Int} (h : IntKind.u32.has x) : ((n32 x : Nat) : Int) = x := by
  have := gP h
  unfold n32
  rw [this]
  exact Int.toNat_of_nonneg h.1
theorem mI (x : Int) : n32 x < 4294967296 := by
  have h : IntKind.u32.has (IntKind.u32.wrap x) := jN .u32 x
  have h1 : (0 : Int) ≤ IntKind.u32.wrap x := h.1
  have h2 : IntKind.u32.wrap x ≤ 4294967295 := h.2
  unfold n32
  omega
theorem kR {x : Nat} (h : x < 4294967296) : IntKind.u32.has (x : Int) := by
  show (0 : Int) ≤ x ∧ (x : Int) ≤ 4294967295
  omega
noncomputable def pX (xs ys : List Int) : Int := open Classical in if h : ∃ r : Nat, Ev (fun k => gB.f k xs ys) (r : Int) ∧ r < 4294967296 then ((Classical.choose h : Nat) : Int) else 0
theorem aAh (xs ys : List Int) : IntKind.u32.has (pX xs ys) := by
  unfold pX
  split
  · next h =>
    have := (Classical.choose_spec h).2
    show (0 : Int) ≤ _ ∧ _ ≤ (4294967295 : Int)
    omega
  · exact ⟨by decide, by decide⟩
theorem trust_v (xs ys : List Int) (hx : ∀ x ∈ xs, IntKind.u32.has x) (hy : ∀ x ∈ ys, IntKind.u32.has x) (h1 : xs.length ≤ 1000) (h2 : ys.length ≤ 1000) : Ev (fun k => gB.f k xs ys) (pX xs ys) := by
  have bd : ∀ {l : List Int}, (∀ x ∈ l, IntKind.u32.has x) → ∀ x ∈ l, 0 ≤ x ∧ x < 4294967296 := fun h x hm => by
    have h1 : (0 : Int) ≤ x := (h x hm).1
    have h2 : x ≤ 4294967295 := (h x hm).2
    omega
  have h := trust_ev xs ys (bd hx) (bd hy) h1 h2
  unfold pX
  rw [dif_pos h]
  exact (Classical.choose_spec h).1
noncomputable def F (i : Nat) (u : U) : U := match i, u with
  | 0, .p a (.p b c) => .n ((uN 2 0 (n32 a.int) (n32 b.int) (n32 c.int) : Nat) : Int)
  | 1, .p a b => .n ((mulN 2 0 (n32 a.int) (n32 b.int) : Nat) : Int)
  | 2, .p a b => .n ((subN 2 0 (n32 a.int) (n32 b.int) : Nat) : Int)
  | 3, .p a b => .n ((divN 2 0 (n32 a.int) (n32 b.int) : Nat) : Int)
  | 4, .p a b => .n ((sumN 2 0 (n32 a.int) (n32 b.int) : Nat) : Int)
  | 5, a => .n ((mU 2 0 (n32 a.int) : Nat) : Int)
  | 6, a => .n ((jE 2 (n32 a.int) : Nat) : Int)
  | 20, .p l (.p m (.p i j)) => .n (ParF.G l.lst (!(m.int == 0)) i.int.toNat j.int.toNat)
  | 21, .p a b => .n (pX a.nums b.nums)
  | _, _ => .n 0
theorem F_range (i : Nat) (u : U) : 0 ≤ (F i u).int ∧ (F i u).int ≤ 4294967295 := by
  have ok : ∀ n : Nat, n < 4294967296 → (0 : Int) ≤ (n : Int) ∧ (n : Int) ≤ 4294967295 := fun n h => by omega
  unfold F
  split
  · exact ok _ (yX ..)
  · exact ok _ (mul_32 ..)
  · exact ok _ (sub_32 ..)
  · exact ok _ (zO ..)
  · exact ok _ (xL ..)
  · exact ok _ (uY _)
  · exact ok _ (turn_l _)
  · exact ParF.tv_u _ _
  · exact aAh _ _
  · exact ok 0 (by decide)
def frc (n : Nat) : Option Tm := match n with
  | 0 => some (.l (.ofNat 0))
  | m + 1 => some (.l (.ofNat (Nat.succ m)))
theorem tK [Rho] {n : Nat} {t : Tm} (h : frc n = some t) : t.d = (n : Int) := by
  cases n with
  | zero => cases h; rfl
  | succ n => cases h; rfl
def cl (t : Tm) : Option Tm := match t with
  | .f 0 (.c (.l a) (.c (.l b) (.l c))) => frc (uN 2 0 (n32 a) (n32 b) (n32 c))
  | .f 1 (.c (.l a) (.l b)) => frc (mulN 2 0 (n32 a) (n32 b))
  | .f 2 (.c (.l a) (.l b)) => frc (subN 2 0 (n32 a) (n32 b))
  | .f 3 (.c (.l a) (.l b)) => frc (divN 2 0 (n32 a) (n32 b))
  | .f 4 (.c (.l a) (.l b)) => frc (sumN 2 0 (n32 a) (n32 b))
  | .f 5 (.l a) => frc (mU 2 0 (n32 a))
  | .f 6 (.l a) => frc (jE 2 (n32 a))
  | _ => none
theorem cl_v [r : Rho] (hr : ∀ i u, r.f i u = F i u) {t t' : Tm} (h : cl t = some t') : t'.d = t.d := by
  unfold cl at h
  split at h
  · next a b c => rw [tK h]; show _ = (r.f 0 _).int; rw [hr]; rfl
  · next a b => rw [tK h]; show _ = (r.f 1 _).int; rw [hr]; rfl
  · next a b => rw [tK h]; show _ = (r.f 2 _).int; rw [hr]; rfl
  · next a b => rw [tK h]; show _ = (r.f 3 _).int; rw [hr]; rfl
  · next a b => rw [tK h]; show _ = (r.f 4 _).int; rw [hr]; rfl
  · next a => rw [tK h]; show _ = (r.f 5 _).int; rw [hr]; rfl
  · next a => rw [tK h]; show _ = (r.f 6 _).int; rw [hr]; rfl
  · cases h
def simpU (_ : Tm) : Option Tm := none
def decU (_ : Facts) (_ : BE) : Option Bool := none
def simpA (t : Tm) : Option Tm := match simpU t with
  | some u => some u
  | none => cl t
def hrv (i : Nat) : Int × Int := match i with
  | 0 => (0, 255)
  | 1 => (0, 255)
  | 2 => (0, 0)
  | _ => (0, 0)
def hcz (t : Tm) : Bool := match t with
  | _ => false
def eH : oV := { s := simpA, d := decU, rv := hrv, rf := fun _ => (0, 4294967295), cz := hcz }
noncomputable def en : Ents := [(8, parE 20 20 25 48), (20, op2 eH 1 .u32 .u32 .u32), (33, SingleE.sgE), (35, rowsE eH 21), (36, op3 eH 0 .u32 .u32 .u32 .u32), (37, op1 eH 6 .u32 .u32), (60, op2 eH 3 .u32 .u32 .u32), (86, op2 eH 2 .u32 .u32 .u32), (87, op2 eH 4 .u32 .u32 .u32), (88, op1 eH 5 .u32 .u32)]
noncomputable def fs : Fns := [(3, Try.f3), (7, Try.f7), (9, Try.f9), (10, Try.f10), (11, Try.f11), (12, Try.f12), (13, Try.f13), (17, Try.f17), (18, Try.f18), (19, Try.f19), (21, Try.f21), (22, Try.f22), (27, Try.f27), (28, Try.f28), (29, Try.f29), (30, Try.f30), (31, Try.f31), (34, Try.f34), (38, Try.f38), (57, Try.f57)]
theorem fs_ok : dZ Try.prog fs := dZ.cons Try.func3 (by kernel_rfl) (dZ.cons Try.func7 (by kernel_rfl) (dZ.cons Try.func9 (by kernel_rfl) (dZ.cons Try.func10 (by kernel_rfl) (dZ.cons Try.func11 (by kernel_rfl) (dZ.cons Try.func12 (by kernel_rfl) (dZ.cons Try.func13 (by kernel_rfl) (dZ.cons Try.func17 (by kernel_rfl) (dZ.cons Try.func18 (by kernel_rfl) (dZ.cons Try.func19 (by kernel_rfl) (dZ.cons Try.func21 (by kernel_rfl) (dZ.cons Try.func22 (by kernel_rfl) (dZ.cons Try.func27 (by kernel_rfl) (dZ.cons Try.func28 (by kernel_rfl) (dZ.cons Try.func29 (by kernel_rfl) (dZ.cons Try.func30 (by kernel_rfl) (dZ.cons Try.func31 (by kernel_rfl) (dZ.cons Try.func34 (by kernel_rfl) (dZ.cons Try.func38 (by kernel_rfl) (dZ.cons Try.func57 (by kernel_rfl) (dZ.nil))))))))))))))))))))
noncomputable def fk : Fns := [(6, Try.f6), (7, Try.f7), (10, Try.f10), (12, Try.f12), (18, Try.f18), (19, Try.f19), (21, Try.f21), (27, Try.f27), (28, Try.f28), (29, Try.f29), (30, Try.f30), (31, Try.f31), (34, Try.f34)]
theorem fk_ok : dZ Try.prog fk := dZ.cons Try.func6 (by kernel_rfl) (dZ.cons Try.func7 (by kernel_rfl) (dZ.cons Try.func10 (by kernel_rfl) (dZ.cons Try.func12 (by kernel_rfl) (dZ.cons Try.func18 (by kernel_rfl) (dZ.cons Try.func19 (by kernel_rfl) (dZ.cons Try.func21 (by kernel_rfl) (dZ.cons Try.func27 (by kernel_rfl) (dZ.cons Try.func28 (by kernel_rfl) (dZ.cons Try.func29 (by kernel_rfl) (dZ.cons Try.func30 (by kernel_rfl) (dZ.cons Try.func31 (by kernel_rfl) (dZ.cons Try.func34 (by kernel_rfl) (dZ.nil)))))))))))))
theorem yP : kW eH Try.prog en fk 1000 40 6 [] ⟨.e, .e, 1, [], 0⟩ (Kt eH) = true := by kernel_rfl
noncomputable def en1 : Ents := (6, yes0) :: en
def args : List PV := [.one (.i .u8 (.v 0)), .one (.i .u8 (.v 1)), .one (.u 0)]
noncomputable def st (pc : Facts) : Hp := ⟨.e, (.n .e (some (.ro .u32 (.v 2))) .e), 1, pc, 0⟩
/- OptBegins: runs of the closed reckoner. -/
theorem run0 : kW eH Try.prog en1 fs 1000 40 3 args (st [(BE.eq (.o .rem .u8 (.v 0) (.l 6)) (.l 0), true), (BE.eq (.o .rem .i64 (.o .quo .u8 (.v 1) (.l 8)) (.l 4)) (.l 0), true)]) (Kt eH) = true := by kernel_rfl
theorem run4 : kW eH Try.prog en1 fs 1000 40 3 args (st [(BE.eq (.o .rem .u8 (.v 0) (.l 6)) (.l 1), true), (BE.eq (.o .rem .i64 (.o .quo .u8 (.v 1) (.l 8)) (.l 4)) (.l 0), true)]) (Kt eH) = true := by kernel_rfl
theorem run8 : kW eH Try.prog en1 fs 1000 40 3 args (st [(BE.eq (.o .rem .u8 (.v 0) (.l 6)) (.l 2), true), (BE.eq (.o .rem .i64 (.o .quo .u8 (.v 1) (.l 8)) (.l 4)) (.l 0), true)]) (Kt eH) = true := by kernel_rfl
theorem run12 : kW eH Try.prog en1 fs 1000 40 3 args (st [(BE.eq (.o .rem .u8 (.v 0) (.l 6)) (.l 3), true), (BE.eq (.o .rem .i64 (.o .quo .u8 (.v 1) (.l 8)) (.l 4)) (.l 0), true)]) (Kt eH) = true := by kernel_rfl
theorem run16 : kW eH Try.prog en1 fs 1000 40 3 args (st [(BE.eq (.o .rem .u8 (.v 0) (.l 6)) (.l 4), true), (BE.eq (.o .rem .i64 (.o .quo .u8 (.v 1) (.l 8)) (.l 4)) (.l 0), true)]) (Kt eH) = true := by kernel_rfl
theorem run20 : kW eH Try.prog en1 fs 1000 40 3 args (st [(BE.eq (.o .rem .u8 (.v 0) (.l 6)) (.l 5), true), (BE.eq (.o .rem .i64 (.o .quo .u8 (.v 1) (.l 8)) (.l 4)) (.l 0), true)]) (Kt eH) = true := by kernel_rfl
/- OptBegins: runs of the closed reckoner. -/
theorem run1 : kW eH Try.prog en1 fs 1000 40 3 args (st [(BE.eq (.o .rem .u8 (.v 0) (.l 6)) (.l 0), true), (BE.eq (.o .rem .i64 (.o .quo .u8 (.v 1) (.l 8)) (.l 4)) (.l 1), true)]) (Kt eH) = true := by kernel_rfl
theorem run5 : kW eH Try.prog en1 fs 1000 40 3 args (st [(BE.eq (.o .rem .u8 (.v 0) (.l 6)) (.l 1), true), (BE.eq (.o .rem .i64 (.o .quo .u8 (.v 1) (.l 8)) (.l 4)) (.l 1), true)]) (Kt eH) = true := by kernel_rfl
theorem run9 : kW eH Try.prog en1 fs 1000 40 3 args (st [(BE.eq (.o .rem .u8 (.v 0) (.l 6)) (.l 2), true), (BE.eq (.o .rem .i64 (.o .quo .u8 (.v 1) (.l 8)) (.l 4)) (.l 1), true)]) (Kt eH) = true := by kernel_rfl
theorem run13 : kW eH Try.prog en1 fs 1000 40 3 args (st [(BE.eq (.o .rem .u8 (.v 0) (.l 6)) (.l 3), true), (BE.eq (.o .rem .i64 (.o .quo .u8 (.v 1) (.l 8)) (.l 4)) (.l 1), true)]) (Kt eH) = true := by kernel_rfl
theorem run17 : kW eH Try.prog en1 fs 1000 40 3 args (st [(BE.eq (.o .rem .u8 (.v 0) (.l 6)) (.l 4), true), (BE.eq (.o .rem .i64 (.o .quo .u8 (.v 1) (.l 8)) (.l 4)) (.l 1), true)]) (Kt eH) = true := by kernel_rfl
theorem run21 : kW eH Try.prog en1 fs 1000 40 3 args (st [(BE.eq (.o .rem .u8 (.v 0) (.l 6)) (.l 5), true), (BE.eq (.o .rem .i64 (.o .quo .u8 (.v 1) (.l 8)) (.l 4)) (.l 1), true)]) (Kt eH) = true := by kernel_rfl
/- OptBegins: runs of the closed reckoner. -/
theorem run2 : kW eH Try.prog en1 fs 1000 40 3 args (st [(BE.eq (.o .rem .u8 (.v 0) (.l 6)) (.l 0), true), (BE.eq (.o .rem .i64 (.o .quo .u8 (.v 1) (.l 8)) (.l 4)) (.l 2), true)]) (Kt eH) = true := by kernel_rfl
theorem run6 : kW eH Try.prog en1 fs 1000 40 3 args (st [(BE.eq (.o .rem .u8 (.v 0) (.l 6)) (.l 1), true), (BE.eq (.o .rem .i64 (.o .quo .u8 (.v 1) (.l 8)) (.l 4)) (.l 2), true)]) (Kt eH) = true := by kernel_rfl
theorem run10 : kW eH Try.prog en1 fs 1000 40 3 args (st [(BE.eq (.o .rem .u8 (.v 0) (.l 6)) (.l 2), true), (BE.eq (.o .rem .i64 (.o .quo .u8 (.v 1) (.l 8)) (.l 4)) (.l 2), true)]) (Kt eH) = true := by kernel_rfl
theorem run14 : kW eH Try.prog en1 fs 1000 40 3 args (st [(BE.eq (.o .rem .u8 (.v 0) (.l 6)) (.l 3), true), (BE.eq (.o .rem .i64 (.o .quo .u8 (.v 1) (.l 8)) (.l 4)) (.l 2), true)]) (Kt eH) = true := by kernel_rfl
theorem run18 : kW eH Try.prog en1 fs 1000 40 3 args (st [(BE.eq (.o .rem .u8 (.v 0) (.l 6)) (.l 4), true), (BE.eq (.o .rem .i64 (.o .quo .u8 (.v 1) (.l 8)) (.l 4)) (.l 2), true)]) (Kt eH) = true := by kernel_rfl
theorem run22 : kW eH Try.prog en1 fs 1000 40 3 args (st [(BE.eq (.o .rem .u8 (.v 0) (.l 6)) (.l 5), true), (BE.eq (.o .rem .i64 (.o .quo .u8 (.v 1) (.l 8)) (.l 4)) (.l 2), true)]) (Kt eH) = true := by kernel_rfl
/- OptBegins: runs of the closed reckoner. -/
theorem run3 : kW eH Try.prog en1 fs 1000 40 3 args (st [(BE.eq (.o .rem .u8 (.v 0) (.l 6)) (.l 0), true), (BE.eq (.o .rem .i64 (.o .quo .u8 (.v 1) (.l 8)) (.l 4)) (.l 3), true)]) (Kt eH) = true := by kernel_rfl
theorem run7 : kW eH Try.prog en1 fs 1000 40 3 args (st [(BE.eq (.o .rem .u8 (.v 0) (.l 6)) (.l 1), true), (BE.eq (.o .rem .i64 (.o .quo .u8 (.v 1) (.l 8)) (.l 4)) (.l 3), true)]) (Kt eH) = true := by kernel_rfl
theorem run11 : kW eH Try.prog en1 fs 1000 40 3 args (st [(BE.eq (.o .rem .u8 (.v 0) (.l 6)) (.l 2), true), (BE.eq (.o .rem .i64 (.o .quo .u8 (.v 1) (.l 8)) (.l 4)) (.l 3), true)]) (Kt eH) = true := by kernel_rfl
theorem run15 : kW eH Try.prog en1 fs 1000 40 3 args (st [(BE.eq (.o .rem .u8 (.v 0) (.l 6)) (.l 3), true), (BE.eq (.o .rem .i64 (.o .quo .u8 (.v 1) (.l 8)) (.l 4)) (.l 3), true)]) (Kt eH) = true := by kernel_rfl
theorem run19 : kW eH Try.prog en1 fs 1000 40 3 args (st [(BE.eq (.o .rem .u8 (.v 0) (.l 6)) (.l 4), true), (BE.eq (.o .rem .i64 (.o .quo .u8 (.v 1) (.l 8)) (.l 4)) (.l 3), true)]) (Kt eH) = true := by kernel_rfl
theorem run23 : kW eH Try.prog en1 fs 1000 40 3 args (st [(BE.eq (.o .rem .u8 (.v 0) (.l 6)) (.l 5), true), (BE.eq (.o .rem .i64 (.o .quo .u8 (.v 1) (.l 8)) (.l 4)) (.l 3), true)]) (Kt eH) = true := by kernel_rfl
/- OptBegins: the whole walk, out of its runs. -/
theorem ent36 [r : Rho] (hr : ∀ i u, r.f i u = F i u) (hH : eH.Ok) : jK Try.prog 36 (op3 eH 0 .u32 .u32 .u32 .u32) := by
  refine op3_ok hH Try.func36 (by kernel_rfl) (by kernel_rfl) (F := fun x y z => ((uN 2 0 (n32 x) (n32 y) (n32 z) : Nat) : Int)) (fun _ _ _ => by rw [hr]; rfl) (fun _ _ _ _ _ _ => kR (yX ..)) fun x y z hx hy hz w => ?_
  obtain ⟨k, hk⟩ := (yL (n32 x) (n32 y) (n32 z) (mI x) (mI y) (mI z)).rounds
  rw [iZ hx, iZ hy, iZ hz] at hk
  exact (gV.calls k x y z _ w hk).mono fun e w' he => he
theorem ent20 [r : Rho] (hr : ∀ i u, r.f i u = F i u) (hH : eH.Ok) : jK Try.prog 20 (op2 eH 1 .u32 .u32 .u32) := by
  refine vE hH Try.func20 (by kernel_rfl) (by kernel_rfl) (F := fun x y => ((mulN 2 0 (n32 x) (n32 y) : Nat) : Int)) (fun _ _ => by rw [hr]; rfl) (fun _ _ _ _ => kR (mul_32 ..)) fun x y hx hy w => ?_
  obtain ⟨k, hk⟩ := (fmul_ev (n32 x) (n32 y) (mI x) (mI y)).rounds
  rw [iZ hx, iZ hy] at hk
  exact (iY.calls k x y _ w hk).mono fun e w' he => he
theorem ent86 [r : Rho] (hr : ∀ i u, r.f i u = F i u) (hH : eH.Ok) : jK Try.prog 86 (op2 eH 2 .u32 .u32 .u32) := by
  refine vE hH Try.func86 (by kernel_rfl) (by kernel_rfl) (F := fun x y => ((subN 2 0 (n32 x) (n32 y) : Nat) : Int)) (fun _ _ => by rw [hr]; rfl) (fun _ _ _ _ => kR (sub_32 ..)) fun x y hx hy w => ?_
  obtain ⟨k, hk⟩ := (fsub_ev (n32 x) (n32 y) (mI x) (mI y)).rounds
  rw [iZ hx, iZ hy] at hk
  exact (jA.calls k x y _ w hk).mono fun e w' he => he
theorem ent60 [r : Rho] (hr : ∀ i u, r.f i u = F i u) (hH : eH.Ok) : jK Try.prog 60 (op2 eH 3 .u32 .u32 .u32) := by
  refine vE hH Try.func60 (by kernel_rfl) (by kernel_rfl) (F := fun x y => ((divN 2 0 (n32 x) (n32 y) : Nat) : Int)) (fun _ _ => by rw [hr]; rfl) (fun _ _ _ _ => kR (zO ..)) fun x y hx hy w => ?_
  obtain ⟨k, hk⟩ := (yS (n32 x) (n32 y) (mI x) (mI y)).rounds
  rw [iZ hx, iZ hy] at hk
  exact (dN.calls k x y _ w hk).mono fun e w' he => he
theorem ent87 [r : Rho] (hr : ∀ i u, r.f i u = F i u) (hH : eH.Ok) : jK Try.prog 87 (op2 eH 4 .u32 .u32 .u32) := by
  refine vE hH Try.func87 (by kernel_rfl) (by kernel_rfl) (F := fun x y => ((sumN 2 0 (n32 x) (n32 y) : Nat) : Int)) (fun _ _ => by rw [hr]; rfl) (fun _ _ _ _ => kR (xL ..)) fun x y hx hy w => ?_
  obtain ⟨k, hk⟩ := (fadd_ev (n32 x) (n32 y) (mI x) (mI y)).rounds
  rw [iZ hx, iZ hy] at hk
  exact (iV.calls k x y _ w hk).mono fun e w' he => he
theorem ent88 [r : Rho] (hr : ∀ i u, r.f i u = F i u) (hH : eH.Ok) : jK Try.prog 88 (op1 eH 5 .u32 .u32) := by
  refine op1_ok hH Try.func88 (by kernel_rfl) (by kernel_rfl) (F := fun x => ((mU 2 0 (n32 x) : Nat) : Int)) (fun _ => by rw [hr]; rfl) (fun _ _ => kR (uY _)) fun x hx w => ?_
  obtain ⟨k, hk⟩ := (qE (n32 x) (mI x)).rounds
  rw [iZ hx] at hk
  exact (eT.calls k x _ w hk).mono fun e w' he => he
theorem ent37 [r : Rho] (hr : ∀ i u, r.f i u = F i u) (hH : eH.Ok) : jK Try.prog 37 (op1 eH 6 .u32 .u32) := by
  refine op1_ok hH Try.func37 (by kernel_rfl) (by kernel_rfl) (F := fun x => ((jE 2 (n32 x) : Nat) : Int)) (fun _ => by rw [hr]; rfl) (fun _ _ => kR (turn_l _)) fun x hx w => ?_
  have hk := fminus_f (n32 x) (mI x)
  rw [iZ hx] at hk
  exact (gM.calls x _ w hk).mono fun e w' he => ⟨he.1, he.2.below⟩
theorem ent8 [r : Rho] (hr : ∀ i u, r.f i u = F i u) : jK Try.prog 8 (parE 20 20 25 48) :=
  parE_ok Try.func8 (by kernel_rfl) (by kernel_rfl) (by decide) (fun _ _ _ _ => by rw [hr]; rfl) (fun _ _ _ _ => ParF.tv_u _ _) ParF.xP
theorem ent35 [r : Rho] (hr : ∀ i u, r.f i u = F i u) (hH : eH.Ok) : jK Try.prog 35 (rowsE eH 21) :=
  rowsE_ok hH Try.func35 (by kernel_rfl) (by kernel_rfl) (F := pX) (fun _ _ => by rw [hr]; rfl) aAh fun xs ys a b ca cb W h1 h2 h3 h4 h5 h6 r1 r2 => by
    obtain ⟨k, hk⟩ := (trust_v xs ys h5 h6 h3 h4).rounds
    exact gB.calls k (fun _ => True) a ca xs (fun _ => True) b cb ys _ W (Kd.V_mk h1 (foot_int r1)) (Kd.V_mk h2 (foot_int r2)) hk
theorem ent33 [r : Rho] (hr : ∀ i u, r.f i u = F i u) (hH : eH.Ok) : jK Try.prog 33 SingleE.sgE := SingleE.sgE_ok
theorem aAf [r : Rho] (hr : ∀ i u, r.f i u = F i u) (hH : eH.Ok) : fG Try.prog en := by
  unfold en
  exact fG.cons (ent8 hr) (fG.cons (ent20 hr hH) (fG.cons (ent33 hr hH) (fG.cons (ent35 hr hH) (fG.cons (ent36 hr hH) (fG.cons (ent37 hr hH) (fG.cons (ent60 hr hH) (fG.cons (ent86 hr hH) (fG.cons (ent87 hr hH) (fG.cons (ent88 hr hH) (fG.nil))))))))))
noncomputable abbrev rho (a0 : Int) (a1 : Int) (len2 : Nat) (z2 : List Int) : Rho := ⟨fun i => match i with
  | 0 => .n a0
  | 1 => .n a1
  | 2 => .s (z2.take len2)
  | _ => .n 0, F⟩
theorem simpU_v [r : Rho] (_ : ∀ i u, r.f i u = F i u) {t t' : Tm} (h : simpU t = some t') : t'.d = t.d := by cases h
theorem decU_v [r : Rho] (_ : ∀ i u, r.f i u = F i u) {pc : Facts} (_ : jO pc) {b : BE} {v : Bool} (h : decU pc b = some v) : b.d = v := by cases h
theorem hook_ok (a0 a1 : Int) (len2 : Nat) (z2 : List Int) (h0 : IntKind.u8.has a0) (h1 : IntKind.u8.has a1) : letI := rho a0 a1 len2 z2; eH.Ok := by
  letI := rho a0 a1 len2 z2
  refine ⟨fun t t' h => ?_, fun pc b r hp h => ?_, fun i => ?_, fun i x => F_range i _⟩
  · change simpA t = some t' at h
    unfold simpA at h
    split at h
    · next e => cases h; exact simpU_v (fun _ _ => rfl) e
    · exact cl_v (fun _ _ => rfl) h
  · exact decU_v (fun _ _ => rfl) hp h
  · match i with
    | 0 => exact h0
    | 1 => exact h1
    | 2 => exact ⟨Int.le_refl _, Int.le_refl _⟩
    | n + 3 => exact ⟨Int.le_refl _, Int.le_refl _⟩
theorem qJ [r : Rho] (hr : ∀ i u, r.f i u = F i u) (hH : eH.Ok) (w : World) : Calls Try.prog 6 #[] w fun e w' => e = .returned (.bool true) ∧ Below w.heap.size w w' := by
  have hv : ∀ v ∈ ([] : List PV), v.ok (fun _ => False) := fun v hv => by cases hv
  have hc := law_v hH (aAf hr hH) fk_ok (start_pc w [] (fun p hp => by cases hp)) hv yP
  have e : (([] : List PV).map (PV.v m00)).toArray = #[] := rfl
  rw [e] at hc
  exact hc
theorem rem_u8_6 : ∀ n : Nat, n < 256 → TO.run .rem .u8 (n : Int) 6 = 0 ∨ TO.run .rem .u8 (n : Int) 6 = 1 ∨ TO.run .rem .u8 (n : Int) 6 = 2 ∨ TO.run .rem .u8 (n : Int) 6 = 3 ∨ TO.run .rem .u8 (n : Int) 6 = 4 ∨ TO.run .rem .u8 (n : Int) 6 = 5 := by decide +kernel
theorem term_1 : ∀ n : Nat, n < 256 → TO.run .rem .i64 (TO.run .quo .u8 (n : Int) 8) 4 = 0 ∨ TO.run .rem .i64 (TO.run .quo .u8 (n : Int) 8) 4 = 1 ∨ TO.run .rem .i64 (TO.run .quo .u8 (n : Int) 8) 4 = 2 ∨ TO.run .rem .i64 (TO.run .quo .u8 (n : Int) 8) 4 = 3 := by decide +kernel
theorem walk (a0 a1 : Int) (a2 : Option Addr) (len2 cap2 : Nat) (z2 : List Int) (W : World) (w0 : (Lit.int .u8 a0).wf = true) (w1 : (Lit.int .u8 a1).wf = true) (w2 : rU .u32 W a2 len2 cap2 z2) :
    Calls Try.prog 3 #[.int .u8 a0, .int .u8 a1, .slice a2 len2 cap2] W fun e W' => e = .returned (.bool true) ∧ Below W.heap.size W W' := by
  letI := rho a0 a1 len2 z2
  have h0 := uU.1 w0
  have h1 := uU.1 w1
  have hH : eH.Ok := hook_ok a0 a1 len2 z2 h0 h1
  have hen : fG Try.prog en1 := fG.cons (yes0_ok Try.func6 (by kernel_rfl) (by kernel_rfl) fun w => qJ (fun _ _ => rfl) hH w) (aAf (fun _ _ => rfl) hH)
  have hv : ∀ v ∈ args, v.ok (fun j => j = 0) := by
    intro v hv
    simp only [args, List.mem_cons, List.not_mem_nil, or_false] at hv
    rcases hv with rfl | rfl | rfl
    · exact h0
    · exact h1
    · exact rfl
  have e : (args.map (PV.v (m1 a2 len2 cap2))).toArray = #[.int .u8 a0, .int .u8 a1, .slice a2 len2 cap2] := by
    simp only [args, List.map]
    show #[Value.int .u8 a0, Value.int .u8 a1, Value.slice a2 len2 cap2] = _
    rfl
  have fin : ∀ pc : Facts, jO pc → kW eH Try.prog en1 fs 1000 40 3 args (st pc) (Kt eH) = true → Calls Try.prog 3 #[.int .u8 a0, .int .u8 a1, .slice a2 len2 cap2] W fun e W' => e = .returned (.bool true) ∧ Below W.heap.size W W' := by
    intro pc hpc hrun
    have hc := law_v hH hen fs_ok (zL W pc hpc w2 rfl) hv hrun
    rw [e] at hc
    exact hc
  obtain ⟨i0, hi0, he0⟩ : ∃ i : Int, (i = 0 ∨ i = 1 ∨ i = 2 ∨ i = 3 ∨ i = 4 ∨ i = 5) ∧ TO.run .rem .u8 a0 6 = i := by
    have b0 : (0 : Int) ≤ a0 := h0.1
    have b1 : a0 ≤ 255 := h0.2
    obtain ⟨n, hn⟩ : ∃ n : Nat, a0 = n := ⟨(a0).toNat, by omega⟩
    rw [hn]
    exact ⟨_, rem_u8_6 n (by omega), rfl⟩
  obtain ⟨i1, hi1, he1⟩ : ∃ i : Int, (i = 0 ∨ i = 1 ∨ i = 2 ∨ i = 3) ∧ TO.run .rem .i64 (TO.run .quo .u8 a1 8) 4 = i := by
    have b0 : (0 : Int) ≤ a1 := h1.1
    have b1 : a1 ≤ 255 := h1.2
    obtain ⟨n, hn⟩ : ∃ n : Nat, a1 = n := ⟨(a1).toNat, by omega⟩
    rw [hn]
    exact ⟨_, term_1 n (by omega), rfl⟩
  refine fin [(BE.eq (.o .rem .u8 (.v 0) (.l 6)) (.l i0), true), (BE.eq (.o .rem .i64 (.o .quo .u8 (.v 1) (.l 8)) (.l 4)) (.l i1), true)] (fun p hp => ?_) ?_
  · simp only [List.mem_cons, List.not_mem_nil, or_false] at hp
    rcases hp with rfl | rfl
    · show decide (TO.run .rem .u8 a0 6 = i0) = true
      exact decide_eq_true he0
    · show decide (TO.run .rem .i64 (TO.run .quo .u8 a1 8) 4 = i1) = true
      exact decide_eq_true he1
  · clear fin hv e hen hH
    rcases hi0 with h_ | h_ | h_ | h_ | h_ | h_
    · subst h_
      rcases hi1 with h_ | h_ | h_ | h_
      · subst h_
        exact run0
      · subst h_
        exact run1
      · subst h_
        exact run2
      · subst h_
        exact run3
    · subst h_
      rcases hi1 with h_ | h_ | h_ | h_
      · subst h_
        exact run4
      · subst h_
        exact run5
      · subst h_
        exact run6
      · subst h_
        exact run7
    · subst h_
      rcases hi1 with h_ | h_ | h_ | h_
      · subst h_
        exact run8
      · subst h_
        exact run9
      · subst h_
        exact run10
      · subst h_
        exact run11
    · subst h_
      rcases hi1 with h_ | h_ | h_ | h_
      · subst h_
        exact run12
      · subst h_
        exact run13
      · subst h_
        exact run14
      · subst h_
        exact run15
    · subst h_
      rcases hi1 with h_ | h_ | h_ | h_
      · subst h_
        exact run16
      · subst h_
        exact run17
      · subst h_
        exact run18
      · subst h_
        exact run19
    · subst h_
      rcases hi1 with h_ | h_ | h_ | h_
      · subst h_
        exact run20
      · subst h_
        exact run21
      · subst h_
        exact run22
      · subst h_
        exact run23
end Go.Proofs.Ytfapjegkilljnaa.XwOb
