import Derived.Test.YtfapjegkilljnaaQobZ
import Derived.Test.YtfapjegkilljnaaQobM4
import Derived.Test.YtfapjegkilljnaaQobM10
-- Printed by a program of this session's out of Lean's print of the translation; Lean checks it.
set_option linter.unusedVariables false
set_option linter.unusedSimpArgs false
namespace Go.Proofs.Ytfapjegkilljnaa.P
open Go.RowKit Go.Proofs.YtfapjegkilljnaaW.PrintWords Go.Proofs.YtfapjegkilljnaaW.PrintLast Go.Proofs.YtfapjegkilljnaaW.PrintMore
attribute [local go_sem] max2_int min2_int max_two min_two max_three min_three max_four min_four

-- NEED 1
/-! ### aJ: function 8 -/
mutual
def aJ.l0 : Nat → List Int → List Int → Bool → List (S48) → Int → Option ((List (S48)))
 |0, _, _, _, _, _ => none
 |k + 1, x0, x1, x2, x7, x8 => if (wrap64 (x8 + 1)) < (x0.length : Int) then (aJ.l1 k x0 x1 x2 x7 x8 ([] : List Int) 0) else (some x7)
def aJ.l1 : Nat → List Int → List Int → Bool → List (S48) → Int → List Int → Int → Option ((List (S48)))
 |0, _, _, _, _, _, _, _ => none
 |k + 1, x0, x1, x2, x7, x8, x9, x10 => if x10 < (x1.length : Int) then (if 0 ≤ x10 then (if x9.length < 35184372088832 then (aJ.l1 k x0 x1 x2 x7 x8 (x9 ++ [((rd x1 x10) + ((((x8) % 4294967296) * 77) % 4294967296)) % 4294967296]) (wrap64 (x10 + 1))) else (none)) else (none)) else (if 0 ≤ (wrap64 (x8 + 1)) then (if (wrap64 (x8 + 1)) < (x0.length : Int) then (if 0 ≤ x8 then (if x8 < (x0.length : Int) then ((aC.f k (rd x0 (wrap64 (x8 + 1))) (rd x0 x8) 2 x9 x2).bind fun bt752 => ((aC.f k 1 (rd x0 (wrap64 (x8 + 1))) 2 x9 x2).bind fun bt759 => (if x7.length < 1466015503701 then (aJ.l0 k x0 x1 x2 (x7 ++ [(⟨(⟨bt752.1, bt752.2.1, bt752.2.2.1, bt752.2.2.2⟩ : S46), (⟨bt759.1, bt759.2.1, bt759.2.2.1, bt759.2.2.2⟩ : S46)⟩ : S48)]) (wrap64 (x8 + 1))) else (none)))) else (none)) else (none)) else (none)) else (none))
end
def aJ.f (k : Nat) (l0 l1 : List Int) (a2 : Bool) : Option ((List (S48))) := aJ.l0 k l0 l1 a2 ([] : List (S48)) 0
def aJ.T10 : Bool × List (List Nat × List Nat) := (true, [([], []), ([], []), ([], []), ([2], [2]), ([1, 3], [1, 3]), ([4], [4]), ([], []), ([], []), ([6, 7], [6, 7]), ([8], [8]), ([], []), ([], []), ([5, 9, 10, 11], [5, 9, 10, 11]), ([], []), ([], []), ([14], [14]), ([13, 15], [13, 15]), ([16], [16]), ([], []), ([], []), ([17, 18, 19, 12], [17, 18, 19]), ([12, 20], [12, 20]), ([21], [21]), ([0, 22, 20], [0, 22]), ([23, 23, 0, 1, 2, 3, 4, 5, 6, 7, 8, 9, 10, 11, 12, 13, 14, 15, 16, 17, 18, 19, 20, 21, 22, 23], [0, 23])])
def aJ.B10 : List Nat := [0, 0, 0, 4, 14, 30, 0, 0, 192, 448, 0, 0, 4094, 0, 0, 16384, 57344, 122880, 0, 0, 1048574, 2097150, 4194302, 8388607, 16777215]
theorem aJ.tab10 : rtab .any (opsOf Try.f8 10) = aJ.T10 := by kernel_rfl
theorem aJ.yZ : waitsOk aJ.T10.2 aJ.B10 = true := by kernel_rfl
set_option maxHeartbeats 8000000 in
set_option maxRecDepth 100000 in
theorem aJ.calls (k : Nat) (A0 : Option Addr) (c0 : Nat) (l0 : List Int) (A1 : Option Addr) (c1 : Nat) (l1 : List Int) (a2 : Bool) (r : List (S48)) (w : World) (hr0 : Kd.C (Kd.int .i64) w A0 l0.length l0) (hc0 : l0.length ≤ c0) (hr1 : Kd.C (Kd.int .u32) w A1 l1.length l1) (hc1 : l1.length ≤ c1) (h : aJ.f k l0 l1 a2 = some r) :
  Calls Try.prog 8 #[.slice A0 l0.length c0, .slice A1 l1.length c1, .bool a2] w fun e w' => ∃ v0_ : Value, e = .returned (v0_) ∧ Kd.S k48 48 w' w.heap.size (fun _ => True) v0_ r ∧ Below w.heap.size w w' := by
 have hu48 := Try.underlying48
 have HR0 := Aside0.mk hr0
 have HC0 := Aside0.mk hc0
 clear hr0 hc0
 have HR1 := Aside0.mk hr1
 have HC1 := Aside0.mk hc1
 clear hr1 hc1
 have HB := Aside0.mk (Below.refl w.heap.size w)
 have H : (aJ.l0 k l0 l1 a2 ([] : List (S48)) 0) = some r := h
 clear h
 have H' := Aside0.mk H
 clear H
 go_enter Try.func8, Try.ntmps8
 go_wp2
 go_loopg [7, 8] k (fun kq v7 v8 w' => ∃ (x7_1 : List (S48)) (x8_1 : Int), v8 = .int .i64 x8_1 ∧ Aside0 (aJ.l0 kq l0 l1 a2 x7_1 x8_1 = some r) ∧ Aside0 (kq ≤ k) ∧ Aside0 (Kd.S k48 48 w' w.heap.size (fun _ => True) v7 x7_1) ∧ Aside0 (Below w.heap.size w w'))
 case atStart => exact ⟨(([] : List (S48))), (0), (gr_), H', ⟨Nat.le_refl _⟩, ⟨by first | exact Kd.S_nil _ _ _ _ _ | exact Kd.N_nil _ _ _ _ _ | exact Kd.V_nil _ _ _ _ _ | exact Kd.Q_nil _ _ _ _ _ | exact Kd.R_nil _ _ _ _ _⟩, ⟨bl0 HB.out⟩⟩
 case round =>
  clear H'
  try clear c1 p2
  obtain ⟨x7_1, x8_1, rfl, HA, HK1, HO_7, HB⟩ := hrel
  cases gk with
  |zero => exact absurd HA.out (by simp [aJ.l0])
  |succ k1 =>
   have H := HA.out
   clear HA
   simp only [aJ.l0] at H
   by_cases c4 : (wrap64 (x8_1 + 1)) < (l0.length : Int)
   ·rw [if_pos c4] at H
    have c4b0 : decide ((wrap64 (x8_1 + 1)) < (l0.length : Int)) = true := decide_eq_true c4
    clear c4
    have H' := Aside0.mk H
    clear H
    go_wp2
    go_loopg [9, 10] k1 (fun kq v9 v10 w' => ∃ (x9_2 : List Int) (x10_2 : Int), v10 = .int .i64 x10_2 ∧ Aside0 (aJ.l1 kq l0 l1 a2 x7_1 x8_1 x9_2 x10_2 = some r) ∧ Aside0 (kq ≤ k1) ∧ Aside0 (Kd.S k48 48 w' w.heap.size (fun k_ => some k_ ≠ (v9 : Value).ownBlock) u7 x7_1) ∧ Aside0 (Kd.R (Kd.int .u32) 25 w' w.heap.size (fun _ => True) v9 x9_2) ∧ Aside0 (Below w.heap.size w w'))
    case atStart => exact ⟨(([] : List Int)), (0), (gr_), H', ⟨Nat.le_refl _⟩, ⟨by (with_reducible repeat (first | apply Kd.S_alloc | apply Kd.S_drewN | apply Kd.S_drew)); exact Kd.S_mono HO_7.out (fun _ hk => (by simp [Value.ownBlock]))⟩, ⟨by first | exact Kd.R_nil _ _ _ _ _ | exact Kd.N_nil _ _ _ _ _ | exact Kd.V_nil _ _ _ _ _ | exact Kd.Q_nil _ _ _ _ _ | exact Kd.S_nil _ _ _ _ _⟩, ⟨bl0 HB.out⟩⟩
    case round =>
     clear H'
     try clear c1 p2 c4 c4b0 p2
     obtain ⟨x9_2, x10_2, rfl, HA, HK2, HO_7, HO_9, HB⟩ := hrel
     cases gk with
     |zero => exact absurd HA.out (by simp [aJ.l1])
     |succ k2 =>
      have H := HA.out
      clear HA
      simp only [aJ.l1] at H
      by_cases c5 : x10_2 < (l1.length : Int)
      ·rw [if_pos c5] at H
       have c5b0 : decide (x10_2 < (l1.length : Int)) = true := decide_eq_true c5
       clear c5
       by_cases c6 : 0 ≤ x10_2
       ·rw [if_pos c6] at H
        have c6b0 : decide (0 ≤ x10_2) = true := decide_eq_true c6
        clear c6
        obtain ⟨ji7, hji7⟩ : ∃ j_ : Int, ((((x8_1) % 4294967296) * 77) % 4294967296) = j_ := ⟨_, rfl⟩
        replace H : (if x9_2.length < 35184372088832 then (aJ.l1 k2 l0 l1 a2 x7_1 x8_1 (x9_2 ++ [((rd l1 x10_2) + (ji7)) % 4294967296]) (wrap64 (x10_2 + 1))) else (none)) = some r := by first | (rw [hji7] at H; exact H) | (simp only [hji7] at H ⊢; exact H)
        have hji7l : 0 ≤ ji7 := by rw [← hji7]; exact Int.emod_nonneg _ (by decide)
        have hji7h : ji7 ≤ 4294967295 := by have := Int.emod_lt_of_pos ((((x8_1) % 4294967296) * 77)) (show (0 : Int) < 4294967296 by decide); omega
        have hji7w : (IntKind.u32.wrap (((x8_1) % 4294967296) * 77)) = ji7 := (lL _).trans hji7
        (try (have hji7_ := hji7; simp only [Int.add_emod_emod, Int.emod_add_emod, Int.sub_emod_emod, Int.emod_sub_emod] at hji7_))
        obtain ⟨ji8, hji8⟩ : ∃ j_ : Int, (((rd l1 x10_2) + (ji7)) % 4294967296) = j_ := ⟨_, rfl⟩
        replace H : (if x9_2.length < 35184372088832 then (aJ.l1 k2 l0 l1 a2 x7_1 x8_1 (x9_2 ++ [ji8]) (wrap64 (x10_2 + 1))) else (none)) = some r := by first | (rw [hji8] at H; exact H) | (simp only [hji8] at H ⊢; exact H)
        have hji8l : 0 ≤ ji8 := by rw [← hji8]; exact Int.emod_nonneg _ (by decide)
        have hji8h : ji8 ≤ 4294967295 := by have := Int.emod_lt_of_pos (((rd l1 x10_2) + (ji7))) (show (0 : Int) < 4294967296 by decide); omega
        have hji8w : (IntKind.u32.wrap ((rd l1 x10_2) + (ji7))) = ji8 := (lL _).trans hji8
        (try (have hji8_ := hji8; simp only [Int.add_emod_emod, Int.emod_add_emod, Int.sub_emod_emod, Int.emod_sub_emod] at hji8_))
        by_cases c9 : x9_2.length < 35184372088832
        ·rw [if_pos c9] at H
         have LMc9 := Aside0.mk c9
         clear c9
         obtain ⟨y747, hy747⟩ : ∃ y_ : List Int, y_ = (x9_2 ++ [ji8]) := ⟨_, rfl⟩
         replace H : (aJ.l1 k2 l0 l1 a2 x7_1 x8_1 y747 (wrap64 (x10_2 + 1))) = some r := by first | (rw [hy747]; with_reducible exact H) | (have H2_ := (Option.bind_some _ _).symm.trans H; rw [hy747]; with_reducible exact H2_) | (have H2_ := (Option.bind_some _ _).symm.trans H; with_reducible exact H2_) | with_reducible exact H | (rw [hy747]; exact H) | exact H
         have Ny747 := Aside0.mk hy747
         clear hy747
         have H' := Aside0.mk H
         clear H
         have p746 : 0 ≤ (x10_2 : Int) := of_decide_eq_true (by first | (with_reducible assumption) | assumption)
         have q746 : x10_2 < (l1.length : Int) := of_decide_eq_true (by first | (with_reducible assumption) | assumption)
         obtain ⟨ad746, e746, hx746_0⟩ := Kd.at_int HR1.out x10_2 p746 q746
         cases e746
         replace hx746_0 := (HB.out.cell (World.block_lt_of_cell? w _ hx746_0)).trans hx746_0
         replace p746 := eq_true p746
         replace q746 := eq_true q746
         go_wp2_with (first | ((with_reducible refine gate_builtin (b := .append) (xs := #[.tmp 24, .tmp 33]) rfl ?_); at_builtin; refine Kd.R_append (Kd.int .u32) (w0 := w) w.heap.size rfl (.tmp 24) (.tmp 33) 22 25 (.int .u32 0) 4 rfl Try.underlying22 xV rfl (by decide) (by omega) u9 x9_2 ji8 [.int .u32 ji8] (fun _ => True) (fun _ => False) rfl rfl ?aP (fun _ hk => hk.elim) ?aF ?aO ?aB ?aS ?aL ?_; (case aP => exact rfl); (case aB => exact (bl0 HB.out)); (case aF => exact (fun _ _ => trivial)); (case aO => exact (by (with_reducible repeat (first | apply Kd.R_alloc | apply Kd.R_drewN | apply Kd.R_drew)); exact HO_9.out)); (case aS => exact (below_size (bl0 HB.out))); (case aL => have := LMc9.out; omega); intro v748 w10 ho hb hg hat; rw [← Ny747.out] at ho; have n0_ := Aside0.mk (Kd.S_after (ok := (fun _ => True)) (by (with_reducible repeat (first | apply Kd.S_alloc | apply Kd.S_drewN | apply Kd.S_drew)); exact Kd.S_mono HO_7.out (fun _ hk => ⟨trivial, hk⟩)) hg hat); have n1_ := Aside0.mk (hb); have n2_ := Aside0.mk (ho); clear HO_7; clear HB; clear HO_9; have HO_7 := n0_; have HB := n1_; have HO749 := n2_; clear n0_ n1_ n2_; clear ho hb hg hat))
         (try subst hji8)
         (try subst hji7)
         go_roundg k2
         case measure => have := HK1.out; have := HK2.out; omega
         case rel => exact ⟨(y747), (wrap64 (x10_2 + 1)), (gr_), H', ⟨by have := HK1.out; have := HK2.out; omega⟩, ⟨by (with_reducible repeat (first | apply Kd.S_alloc | apply Kd.S_drewN | apply Kd.S_drew)); exact Kd.S_mono HO_7.out (fun _ hk => hk.2)⟩, ⟨by (with_reducible repeat (first | apply Kd.R_alloc | apply Kd.R_drewN | apply Kd.R_drew)); exact HO749.out⟩, ⟨bl0 HB.out⟩⟩
        ·rw [if_neg c9] at H
         exact absurd H (by simp)
       ·rw [if_neg c6] at H
        exact absurd H (by simp)
      ·rw [if_neg c5] at H
       have c5b0 : decide (x10_2 < (l1.length : Int)) = false := decide_eq_false c5
       clear c5
       obtain ⟨ji11, hji11⟩ : ∃ j_ : Int, (wrap64 (x8_1 + 1)) = j_ := ⟨_, rfl⟩
       replace H : (if 0 ≤ (ji11) then (if (ji11) < (l0.length : Int) then (if 0 ≤ x8_1 then (if x8_1 < (l0.length : Int) then ((aC.f k2 (rd l0 (ji11)) (rd l0 x8_1) 2 x9_2 a2).bind fun bt752 => ((aC.f k2 1 (rd l0 (ji11)) 2 x9_2 a2).bind fun bt759 => (if x7_1.length < 1466015503701 then (aJ.l0 k2 l0 l1 a2 (x7_1 ++ [(⟨(⟨bt752.1, bt752.2.1, bt752.2.2.1, bt752.2.2.2⟩ : S46), (⟨bt759.1, bt759.2.1, bt759.2.2.1, bt759.2.2.2⟩ : S46)⟩ : S48)]) ji11) else (none)))) else (none)) else (none)) else (none)) else (none)) = some r := by first | (rw [hji11] at H; exact H) | (simp only [hji11] at H ⊢; exact H)
       (try rw [hji11] at c4b0)
       have hji11w : (IntKind.i64.wrap (x8_1 + 1)) = ji11 := (i64_w _).trans hji11
       by_cases c12 : 0 ≤ (ji11)
       ·rw [if_pos c12] at H
        have c12b0 : decide (0 ≤ (ji11)) = true := decide_eq_true c12
        clear c12
        by_cases c13 : (ji11) < (l0.length : Int)
        ·rw [if_pos c13] at H
         have c13b0 : decide ((ji11) < (l0.length : Int)) = true := decide_eq_true c13
         clear c13
         by_cases c14 : 0 ≤ x8_1
         ·rw [if_pos c14] at H
          have c14b0 : decide (0 ≤ x8_1) = true := decide_eq_true c14
          clear c14
          by_cases c15 : x8_1 < (l0.length : Int)
          ·rw [if_pos c15] at H
           have c15b0 : decide (x8_1 < (l0.length : Int)) = true := decide_eq_true c15
           clear c15
           replace H := bq_ H
           obtain ⟨⟨t752, t753, t754, t755⟩, A160, H⟩ := H
           replace H : ((aC.f k2 1 (rd l0 (ji11)) 2 x9_2 a2).bind fun bt759 => (if x7_1.length < 1466015503701 then (aJ.l0 k2 l0 l1 a2 (x7_1 ++ [(⟨(⟨t752, t753, t754, t755⟩ : S46), (⟨bt759.1, bt759.2.1, bt759.2.2.1, bt759.2.2.2⟩ : S46)⟩ : S48)]) ji11) else (none))) = some r := H
           have A16 := Aside0.mk A160
           clear A160
           replace H := bq_ H
           obtain ⟨⟨t759, t760, t761, t762⟩, A170, H⟩ := H
           replace H : (if x7_1.length < 1466015503701 then (aJ.l0 k2 l0 l1 a2 (x7_1 ++ [(⟨(⟨t752, t753, t754, t755⟩ : S46), (⟨t759, t760, t761, t762⟩ : S46)⟩ : S48)]) ji11) else (none)) = some r := H
           have A17 := Aside0.mk A170
           clear A170
           by_cases c18 : x7_1.length < 1466015503701
           ·rw [if_pos c18] at H
            have LMc18 := Aside0.mk c18
            clear c18
            obtain ⟨y765, hy765⟩ : ∃ y_ : List (S48), y_ = (x7_1 ++ [(⟨(⟨t752, t753, t754, t755⟩ : S46), (⟨t759, t760, t761, t762⟩ : S46)⟩ : S48)]) := ⟨_, rfl⟩
            replace H : (aJ.l0 k2 l0 l1 a2 y765 ji11) = some r := by first | (rw [hy765]; with_reducible exact H) | (have H2_ := (Option.bind_some _ _).symm.trans H; rw [hy765]; with_reducible exact H2_) | (have H2_ := (Option.bind_some _ _).symm.trans H; with_reducible exact H2_) | with_reducible exact H | (rw [hy765]; exact H) | exact H
            have Ny765 := Aside0.mk hy765
            clear hy765
            have H' := Aside0.mk H
            clear H
            try go_wp2
            have n0_ := Aside0.mk (Kd.S_drew HO_7.out)
            have n1_ := Aside0.mk (Kd.R_drew HO_9.out)
            have n2_ := Aside0.mk (below_drew1 HB.out)
            clear HO_7
            clear HO_9
            clear HB
            have HO_7 := n0_
            have HO_9 := n1_
            have HB := n2_
            clear n0_ n1_ n2_
            have p750 : 0 ≤ ((ji11) : Int) := of_decide_eq_true (by first | (with_reducible assumption) | assumption)
            have q750 : (ji11) < (l0.length : Int) := of_decide_eq_true (by first | (with_reducible assumption) | assumption)
            obtain ⟨ad750, e750, hx750_0⟩ := Kd.at_int HR0.out (ji11) p750 q750
            have hw750_0 := hx750_0
            cases e750
            replace hx750_0 := (HB.out.cell (World.block_lt_of_cell? w _ hx750_0)).trans hx750_0
            replace p750 := eq_true p750
            replace q750 := eq_true q750
            have p751 : 0 ≤ (x8_1 : Int) := of_decide_eq_true (by first | (with_reducible assumption) | assumption)
            have q751 : x8_1 < (l0.length : Int) := of_decide_eq_true (by first | (with_reducible assumption) | assumption)
            obtain ⟨ad751, e751, hx751_0⟩ := Kd.at_int HR0.out x8_1 p751 q751
            have hw751_0 := hx751_0
            obtain rfl : ad750 = ad751 := (by injection e751)
            replace hx751_0 := (HB.out.cell (World.block_lt_of_cell? w _ hx751_0)).trans hx751_0
            replace p751 := eq_true p751
            replace q751 := eq_true q751
            have p758 : 0 ≤ ((ji11) : Int) := of_decide_eq_true (by first | (with_reducible assumption) | assumption)
            have q758 : (ji11) < (l0.length : Int) := of_decide_eq_true (by first | (with_reducible assumption) | assumption)
            obtain ⟨ad758, e758, hx758_0⟩ := Kd.at_int HR0.out (ji11) p758 q758
            have hw758_0 := hx758_0
            obtain rfl : ad750 = ad758 := (by injection e758)
            replace hx758_0 := (HB.out.cell (World.block_lt_of_cell? w _ hx758_0)).trans hx758_0
            replace p758 := eq_true p758
            replace q758 := eq_true q758
            obtain ⟨Ao20, co20, eo20⟩ := Kd.R_slice HO_9.out
            (first | subst eo20 | (injection eo20 with f1_ f2_ f3_; have f4_ := f1_.symm; have f5_ := f3_.symm; clear f1_ f2_ f3_; subst f4_; subst f5_))
            refine start_ (n := 25) (S := fun w' => w'.cell? (ad750.add ((ji11)).toNat) = some (.int .i64 (rd l0 (ji11))) ∧ w'.cell? (ad750.add (x8_1).toNat) = some (.int .i64 (rd l0 x8_1)) ∧ w'.cell? (ad750.add ((ji11)).toNat) = some (.int .i64 (rd l0 (ji11)))) (ds := []) (tf 0 25) (by kernel_rfl) rfl rfl ⟨((HB.out.cell (World.block_lt_of_cell? w _ hw750_0)).trans hw750_0), ((HB.out.cell (World.block_lt_of_cell? w _ hw751_0)).trans hw751_0), ((HB.out.cell (World.block_lt_of_cell? w _ hw758_0)).trans hw758_0)⟩ (fun hHeld => ?_); refine with_tabW aJ.tab10 aJ.yZ (fun HT_ HW_ => ?_)
            generalize wr.drew = w19 at HO_7 HO_9 HB hx750_0 hx751_0 hx758_0 hHeld ⊢
            refine pure_ (i := 0) (N := some 35) (v := ?_) (a' := ?_) (tf 1 24) rfl rfl (any_of HT_.out (by kernel_rfl)) (fun _ _ _ h => h) (Or.inl ⟨by rfl, ?_⟩) ?_ ?_
            rotate_left
            ·intro w'
             go_simp
             with_reducible rfl
            rotate_left
            ·simp only [Act.put, sb, sz, ss, i64_w, i32_w]
             rfl
            refine pure_ (i := 1) (N := some 36) (v := ?_) (a' := ?_) (tf 2 23) rfl rfl (any_of HT_.out (by kernel_rfl)) (fun _ _ _ h => h) (Or.inl ⟨by rfl, ?_⟩) ?_ ?_
            rotate_left
            ·intro w'
             go_simp
             with_reducible rfl
            rotate_left
            ·simp only [Act.put, sb, sz, ss, i64_w, i32_w]
             rfl
            refine pure_ (i := 2) (N := some 37) (v := ?_) (a' := ?_) (tf 3 22) rfl rfl (any_of HT_.out (by kernel_rfl)) (fun _ _ _ h => h) (Or.inl ⟨by rfl, ?_⟩) ?_ ?_
            rotate_left
            ·intro w'
             go_simp
             with_reducible rfl
            rotate_left
            ·simp only [Act.put, sb, sz, ss, i64_w, i32_w]
             rfl
            refine pure_ (i := 3) (N := some 38) (v := ?_) (a' := ?_) (tf 4 21) rfl rfl (any_of HT_.out (by kernel_rfl)) (fun _ _ _ h => h) (Or.inl ⟨by rfl, ?_⟩) ?_ ?_
            rotate_left
            ·intro w'
             go_simp
             with_reducible rfl
            rotate_left
            ·simp only [Act.put, sb, sz, ss, i64_w, i32_w]
             rfl
            refine pure_ (i := 4) (N := some 39) (v := ?_) (a' := ?_) (tf 5 20) rfl rfl (any_of HT_.out (by kernel_rfl)) (fun _ _ _ h => h) (Or.inl ⟨by rfl, ?_⟩) ?_ ?_
            rotate_left
            ·intro w'
             go_simp
             with_reducible rfl
            rotate_left
            ·simp only [Act.put, sb, sz, ss, i64_w, i32_w]
             rfl
            refine pure_ (i := 6) (N := some 41) (v := ?_) (a' := ?_) #[true, true, true, true, true, false, true, false, false, false, false, false, false, false, false, false, false, false, false, false, false, false, false, false, false] rfl rfl (any_of HT_.out (by kernel_rfl)) (fun _ _ _ h => h) (Or.inl ⟨by rfl, ?_⟩) ?_ ?_
            rotate_left
            ·intro w'
             go_simp
             with_reducible rfl
            rotate_left
            ·simp only [Act.put, sb, sz, ss, i64_w, i32_w]
             rfl
            refine pure_ (i := 7) (N := some 42) (v := ?_) (a' := ?_) #[true, true, true, true, true, false, true, true, false, false, false, false, false, false, false, false, false, false, false, false, false, false, false, false, false] rfl rfl (any_of HT_.out (by kernel_rfl)) (fun _ _ _ h => h) (Or.inl ⟨by rfl, ?_⟩) ?_ ?_
            rotate_left
            ·intro w'
             go_simp
             with_reducible rfl
            rotate_left
            ·simp only [Act.put, sb, sz, ss, i64_w, i32_w]
             rfl
            refine pure_ (i := 8) (N := some 43) (v := ?_) (a' := ?_) #[true, true, true, true, true, false, true, true, true, false, false, false, false, false, false, false, false, false, false, false, false, false, false, false, false] rfl rfl (any_of HT_.out (by kernel_rfl)) (fun _ _ _ h => h) (Or.inl ⟨by rfl, ?_⟩) ?_ ?_
            rotate_left
            ·intro w'
             go_simp
             with_reducible rfl
            rotate_left
            ·simp only [Act.put, sb, sz, ss, i64_w, i32_w]
             rfl
            refine pure_ (i := 10) (N := some 45) (v := ?_) (a' := ?_) #[true, true, true, true, true, false, true, true, true, false, true, false, false, false, false, false, false, false, false, false, false, false, false, false, false] rfl rfl (any_of HT_.out (by kernel_rfl)) (fun _ _ _ h => h) (Or.inl ⟨by rfl, ?_⟩) ?_ ?_
            rotate_left
            ·intro w'
             go_simp
             with_reducible rfl
            rotate_left
            ·simp only [Act.put, sb, sz, ss, i64_w, i32_w]
             rfl
            refine pure_ (i := 11) (N := some 46) (v := ?_) (a' := ?_) #[true, true, true, true, true, false, true, true, true, false, true, true, false, false, false, false, false, false, false, false, false, false, false, false, false] rfl rfl (any_of HT_.out (by kernel_rfl)) (fun _ _ _ h => h) (Or.inl ⟨by rfl, ?_⟩) ?_ ?_
            rotate_left
            ·intro w'
             go_simp
             with_reducible rfl
            rotate_left
            ·simp only [Act.put, sb, sz, ss, i64_w, i32_w]
             rfl
            refine pure_ (i := 13) (N := some 48) (v := ?_) (a' := ?_) #[true, true, true, true, true, false, true, true, true, false, true, true, false, true, false, false, false, false, false, false, false, false, false, false, false] rfl rfl (any_of HT_.out (by kernel_rfl)) (fun _ _ _ h => h) (Or.inl ⟨by rfl, ?_⟩) ?_ ?_
            rotate_left
            ·intro w'
             go_simp
             with_reducible rfl
            rotate_left
            ·simp only [Act.put, sb, sz, ss, i64_w, i32_w]
             rfl
            refine pure_ (i := 14) (N := some 49) (v := ?_) (a' := ?_) #[true, true, true, true, true, false, true, true, true, false, true, true, false, true, true, false, false, false, false, false, false, false, false, false, false] rfl rfl (any_of HT_.out (by kernel_rfl)) (fun _ _ _ h => h) (Or.inl ⟨by rfl, ?_⟩) ?_ ?_
            rotate_left
            ·intro w'
             go_simp
             with_reducible rfl
            rotate_left
            ·simp only [Act.put, sb, sz, ss, i64_w, i32_w]
             rfl
            refine pure_ (i := 15) (N := some 50) (v := ?_) (a' := ?_) #[true, true, true, true, true, false, true, true, true, false, true, true, false, true, true, true, false, false, false, false, false, false, false, false, false] rfl rfl (any_of HT_.out (by kernel_rfl)) (fun _ _ _ h => h) (Or.inl ⟨by rfl, ?_⟩) ?_ ?_
            rotate_left
            ·intro w'
             go_simp
             with_reducible rfl
            rotate_left
            ·simp only [Act.put, sb, sz, ss, i64_w, i32_w]
             rfl
            refine pure_ (i := 16) (N := some 51) (v := ?_) (a' := ?_) #[true, true, true, true, true, false, true, true, true, false, true, true, false, true, true, true, true, false, false, false, false, false, false, false, false] rfl rfl (any_of HT_.out (by kernel_rfl)) (fun _ _ _ h => h) (Or.inl ⟨by rfl, ?_⟩) ?_ ?_
            rotate_left
            ·intro w'
             go_simp
             with_reducible rfl
            rotate_left
            ·simp only [Act.put, sb, sz, ss, i64_w, i32_w]
             rfl
            refine pure_ (i := 18) (N := some 53) (v := ?_) (a' := ?_) #[true, true, true, true, true, false, true, true, true, false, true, true, false, true, true, true, true, false, true, false, false, false, false, false, false] rfl rfl (any_of HT_.out (by kernel_rfl)) (fun _ _ _ h => h) (Or.inl ⟨by rfl, ?_⟩) ?_ ?_
            rotate_left
            ·intro w'
             go_simp
             with_reducible rfl
            rotate_left
            ·simp only [Act.put, sb, sz, ss, i64_w, i32_w]
             rfl
            refine pure_ (i := 19) (N := some 54) (v := ?_) (a' := ?_) #[true, true, true, true, true, false, true, true, true, false, true, true, false, true, true, true, true, false, true, true, false, false, false, false, false] rfl rfl (any_of HT_.out (by kernel_rfl)) (fun _ _ _ h => h) (Or.inl ⟨by rfl, ?_⟩) ?_ ?_
            rotate_left
            ·intro w'
             go_simp
             with_reducible rfl
            rotate_left
            ·simp only [Act.put, sb, sz, ss, i64_w, i32_w]
             rfl
            refine take_ (i := 5) (N := some 40) (v := ?_) (a' := ?_) #[true, true, true, true, true, true, true, true, true, false, true, true, false, true, true, true, true, false, true, true, false, false, false, false, false] rfl rfl (take_ofW HT_.out HW_.out (by kernel_rfl)) (fun _ _ _ h => h) (Or.inl ⟨by rfl, ?_⟩) hHeld ?_ ?_
            rotate_left
            ·rintro w' ⟨s0, s1, s2⟩
             go_simp
             with_reducible rfl
            rotate_left
            ·simp only [Act.put, sb, sz, ss, i64_w, i32_w]
             rfl
            refine take_ (i := 9) (N := some 44) (v := ?_) (a' := ?_) #[true, true, true, true, true, true, true, true, true, true, true, true, false, true, true, true, true, false, true, true, false, false, false, false, false] rfl rfl (take_ofW HT_.out HW_.out (by kernel_rfl)) (fun _ _ _ h => h) (Or.inl ⟨by rfl, ?_⟩) hHeld ?_ ?_
            rotate_left
            ·rintro w' ⟨s0, s1, s2⟩
             go_simp
             with_reducible rfl
            rotate_left
            ·simp only [Act.put, sb, sz, ss, i64_w, i32_w]
             rfl
            refine take_ (i := 17) (N := some 52) (v := ?_) (a' := ?_) #[true, true, true, true, true, true, true, true, true, true, true, true, false, true, true, true, true, true, true, true, false, false, false, false, false] rfl rfl (take_ofW HT_.out HW_.out (by kernel_rfl)) (fun _ _ _ h => h) (Or.inl ⟨by rfl, ?_⟩) hHeld ?_ ?_
            rotate_left
            ·rintro w' ⟨s0, s1, s2⟩
             go_simp
             with_reducible rfl
            rotate_left
            ·simp only [Act.put, sb, sz, ss, i64_w, i32_w]
             rfl
            refine one_ (i := 12) (N := some 47) (tf 20 5) rfl rfl (one_of HT_.out (by kernel_rfl)) (by decide) (fun K hK => ?_)
            refine goes_ Try.func16 (by kernel_rfl) rfl #[.int .i64 (rd l0 (ji11)), .int .i64 (rd l0 x8_1), .int .i64 2, .slice Ao20 x9_2.length co20, .bool a2] (by rfl) rfl rfl (by (try simp only [List.map_toArray, List.map_cons, List.map_nil]); first | done | (simp only [hji11]; rfl) | rfl | (simp only [List.length_drop, List.length_take]; rfl)) ?_
            with_reducible refine (aC.calls k2 (rd l0 (ji11)) (rd l0 x8_1) 2 _ _ x9_2 a2 t752 t753 t754 t755 _ ?side1 ?side2 A16.out).mono ?_
            (case side1 => repeat (first | exact (Kd.R_reads' HO_9.out).2.2 | (with_reducible refine Kd.C_alloc ?_ _) | (with_reducible refine Kd.C_drewN ?_ _) | (with_reducible refine Kd.C_drew ?_)))
            (case side2 => exact (Kd.R_reads' HO_9.out).2.1)
            rintro e w21 ⟨v756, rfl, ho0, hb⟩
            refine ⟨_, rfl, ?_⟩
            have n0_ := Aside0.mk (Kd.S_elder' (by (with_reducible repeat (first | apply Kd.S_alloc | apply Kd.S_drewN | apply Kd.S_drew)); exact HO_7.out) (Kd.R_base ho0) hb)
            have n1_ := Aside0.mk (Kd.R_elder' (by (with_reducible repeat (first | apply Kd.R_alloc | apply Kd.R_drewN | apply Kd.R_drew)); exact HO_9.out) (Kd.R_base ho0) hb)
            have n2_ := Aside0.mk (Kd.R_lower (Kd.R_new' ho0 (Kd.R_lt (by (with_reducible repeat (first | apply Kd.R_alloc | apply Kd.R_drewN | apply Kd.R_drew)); exact HO_9.out))) (below_size (bl0 HB.out)))
            have n3_ := Aside0.mk (below_step (bl0 HB.out) hb)
            clear HO_7
            clear HO_9
            clear HB
            have HO_7 := n0_
            have HO_9 := n1_
            have HO757 := n2_
            have HB := n3_
            clear n0_ n1_ n2_ n3_
            (try clear hb)
            (try clear hb2)
            (try clear hk)
            (try clear hi)
            (try clear ho0)
            refine hK.out _ _ ⟨((HB.out.cell (World.block_lt_of_cell? w _ hw750_0)).trans hw750_0), ((HB.out.cell (World.block_lt_of_cell? w _ hw751_0)).trans hw751_0), ((HB.out.cell (World.block_lt_of_cell? w _ hw758_0)).trans hw758_0)⟩ (fun hHeld => ?_)
            clear hK K
            refine norm_ (a' := ?_) ?_ ?_
            rotate_left
            ·show Act.put _ (some 47) _ = _
             simp only [Act.put, sb, sz, ss, i64_w, i32_w]
             rfl
            refine one_ (i := 20) (N := some 55) (tf 21 4) rfl rfl (one_of HT_.out (by kernel_rfl)) (by decide) (fun K hK => ?_)
            refine goes_ Try.func16 (by kernel_rfl) rfl #[.int .i64 1, .int .i64 (rd l0 (ji11)), .int .i64 2, .slice Ao20 x9_2.length co20, .bool a2] (by rfl) rfl rfl (by (try simp only [List.map_toArray, List.map_cons, List.map_nil]); first | done | (simp only [hji11]; rfl) | rfl | (simp only [List.length_drop, List.length_take]; rfl)) ?_
            with_reducible refine (aC.calls k2 1 (rd l0 (ji11)) 2 _ _ x9_2 a2 t759 t760 t761 t762 _ ?side1 ?side2 A17.out).mono ?_
            (case side1 => repeat (first | exact (Kd.R_reads' HO_9.out).2.2 | (with_reducible refine Kd.C_alloc ?_ _) | (with_reducible refine Kd.C_drewN ?_ _) | (with_reducible refine Kd.C_drew ?_)))
            (case side2 => exact (Kd.R_reads' HO_9.out).2.1)
            rintro e w22 ⟨v763, rfl, ho0, hb⟩
            refine ⟨_, rfl, ?_⟩
            have n0_ := Aside0.mk (Kd.S_elder' (by (with_reducible repeat (first | apply Kd.S_alloc | apply Kd.S_drewN | apply Kd.S_drew)); exact HO_7.out) (Kd.R_base ho0) hb)
            have n1_ := Aside0.mk (Kd.R_elder' (by (with_reducible repeat (first | apply Kd.R_alloc | apply Kd.R_drewN | apply Kd.R_drew)); exact HO_9.out) (Kd.R_base ho0) hb)
            have n2_ := Aside0.mk (Kd.R_elder' (by (with_reducible repeat (first | apply Kd.R_alloc | apply Kd.R_drewN | apply Kd.R_drew)); exact HO757.out) (Kd.R_base ho0) hb)
            have n3_ := Aside0.mk (Kd.R_lower (Kd.R_new' (Kd.R_new' ho0 (Kd.R_lt (by (with_reducible repeat (first | apply Kd.R_alloc | apply Kd.R_drewN | apply Kd.R_drew)); exact HO_9.out))) (Kd.R_lt (by (with_reducible repeat (first | apply Kd.R_alloc | apply Kd.R_drewN | apply Kd.R_drew)); exact HO757.out))) (below_size (bl0 HB.out)))
            have n4_ := Aside0.mk (below_step (bl0 HB.out) hb)
            clear HO_7
            clear HO_9
            clear HO757
            clear HB
            have HO_7 := n0_
            have HO_9 := n1_
            have HO757 := n2_
            have HO764 := n3_
            have HB := n4_
            clear n0_ n1_ n2_ n3_ n4_
            (try clear hb)
            (try clear hb2)
            (try clear hk)
            (try clear hi)
            (try clear ho0)
            obtain ⟨Ao23, co23, eo23⟩ := Kd.R_slice HO764.out
            (first | subst eo23 | (injection eo23 with f1_ f2_ f3_; have f4_ := f1_.symm; have f5_ := f3_.symm; clear f1_ f2_ f3_; subst f4_; subst f5_))
            obtain ⟨Ao24, co24, eo24⟩ := Kd.R_slice HO757.out
            (first | subst eo24 | (injection eo24 with f1_ f2_ f3_; have f4_ := f1_.symm; have f5_ := f3_.symm; clear f1_ f2_ f3_; subst f4_; subst f5_))
            refine hK.out _ _ ⟨((HB.out.cell (World.block_lt_of_cell? w _ hw750_0)).trans hw750_0), ((HB.out.cell (World.block_lt_of_cell? w _ hw751_0)).trans hw751_0), ((HB.out.cell (World.block_lt_of_cell? w _ hw758_0)).trans hw758_0)⟩ (fun hHeld => ?_)
            clear hK K
            refine norm_ (a' := ?_) ?_ ?_
            rotate_left
            ·show Act.put _ (some 55) _ = _
             simp only [Act.put, sb, sz, ss, i64_w, i32_w]
             rfl
            refine pure_ (i := 21) (N := some 56) (v := ?_) (a' := ?_) (tf 22 3) rfl rfl (any_of HT_.out (by kernel_rfl)) (fun _ _ _ h => h) (Or.inl ⟨by rfl, ?_⟩) ?_ ?_
            rotate_left
            ·intro w'
             go_simp
             with_reducible rfl
            rotate_left
            ·simp only [Act.put, sb, sz, ss, i64_w, i32_w]
             rfl
            refine one_ (i := 22) (N := some 57) (tf 23 2) rfl rfl (one_of HT_.out (by kernel_rfl)) (by decide) (fun K hK => ?_)
            refine value_ (w1 := ?_) (v := ?_) (by rfl) rfl ?_ ?_
            rotate_left 2
            ·go_simp
             constructor
             ·rfl
             ·rfl
            refine hK.out _ _ ⟨(World.cell?_alloc_lt _ _ _ (World.block_lt_of_cell? _ _ (((HB.out.cell (World.block_lt_of_cell? w _ hw750_0)).trans hw750_0)))).trans (((HB.out.cell (World.block_lt_of_cell? w _ hw750_0)).trans hw750_0)), (World.cell?_alloc_lt _ _ _ (World.block_lt_of_cell? _ _ (((HB.out.cell (World.block_lt_of_cell? w _ hw751_0)).trans hw751_0)))).trans (((HB.out.cell (World.block_lt_of_cell? w _ hw751_0)).trans hw751_0)), (World.cell?_alloc_lt _ _ _ (World.block_lt_of_cell? _ _ (((HB.out.cell (World.block_lt_of_cell? w _ hw758_0)).trans hw758_0)))).trans (((HB.out.cell (World.block_lt_of_cell? w _ hw758_0)).trans hw758_0))⟩ (fun hHeld => ?_)
            clear hK K
            refine norm_ (a' := ?_) ?_ ?_
            rotate_left
            ·show Act.put _ (some 57) _ = _
             simp only [Act.put, sb, sz, ss, i64_w, i32_w]
             rfl
            refine one_ (i := 23) (N := some 58) (tf 24 1) rfl rfl (one_of HT_.out (by kernel_rfl)) (by decide) (fun K hK => ?_)
            refine Kd.S_append_step k48 (w0 := w) w.heap.size (by rfl) (.tmp 35) (.tmp 57) 30 48 (.agg #[(.int .i64 0), (.int .i64 0), (.int .i64 0), (.slice none 0 0), (.int .i64 0), (.int .i64 0), (.int .i64 0), (.slice none 0 0)]) 96 rfl Try.underlying30 info48 rfl (by decide) (by omega) u7 x7_1 (⟨(⟨t752, t753, t754, t755⟩ : S46), (⟨t759, t760, t761, t762⟩ : S46)⟩ : S48) [.int .i64 t752, .int .i64 t753, .int .i64 t754, .slice Ao24 t755.length co24, .int .i64 t759, .int .i64 t760, .int .i64 t761, .slice Ao23 t762.length co23] (fun k_ => some k_ ≠ (.slice Ao20 x9_2.length co20 : Value).ownBlock) (fun k_ => some k_ = (.slice Ao24 t755.length co24 : Value).ownBlock ∨ some k_ = (.slice Ao23 t762.length co23 : Value).ownBlock) rfl rfl ?aP (fun k_ hk_ => hk_.elim (fun h_ => ((Kd.R_mono (ok' := fun k_ => ((fun k_ => some k_ ≠ (.slice Ao20 x9_2.length co20 : Value).ownBlock)) k_ ∧ some k_ ≠ (u7 : Value).ownBlock) (Kd.R_apart' (HO757.out) (Kd.S_typed HO_7.out) (by decide)) (fun k_ hk => ⟨hk.1.1.2, hk.2⟩))).1 k_ h_.symm) (fun h_ => ((Kd.R_mono (ok' := fun k_ => ((fun k_ => some k_ ≠ (.slice Ao20 x9_2.length co20 : Value).ownBlock)) k_ ∧ some k_ ≠ (u7 : Value).ownBlock) (Kd.R_apart' (HO764.out) (Kd.S_typed HO_7.out) (by decide)) (fun k_ hk => ⟨hk.1.1.2, hk.2⟩))).1 k_ h_.symm)) ?aF ?aO ?aB ?aS ?aL ?_
            (case aP => exact k48_mkM _ _ _ (⟨(⟨t752, t753, t754, t755⟩ : S46), (⟨t759, t760, t761, t762⟩ : S46)⟩ : S48) (Kd.R_mono (Kd.R_tight rfl (Kd.R_mono (ok' := fun k_ => ((fun k_ => some k_ ≠ (.slice Ao20 x9_2.length co20 : Value).ownBlock)) k_ ∧ some k_ ≠ (u7 : Value).ownBlock) (Kd.R_apart' (HO757.out) (Kd.S_typed HO_7.out) (by decide)) (fun k_ hk => ⟨hk.1.1.2, hk.2⟩))) (fun _ h_ => Or.inl h_)) (Kd.R_mono (Kd.R_tight rfl (Kd.R_mono (ok' := fun k_ => ((fun k_ => some k_ ≠ (.slice Ao20 x9_2.length co20 : Value).ownBlock)) k_ ∧ some k_ ≠ (u7 : Value).ownBlock) (Kd.R_apart' (HO764.out) (Kd.S_typed HO_7.out) (by decide)) (fun k_ hk => ⟨hk.1.1.2, hk.2⟩))) (fun _ h_ => Or.inr (h_))))
            (case aB => exact (bl0 HB.out))
            (case aF => exact (fun k_ hk => Kd.fresh' (Kd.R_lt (by (with_reducible repeat (first | apply Kd.R_alloc | apply Kd.R_drewN | apply Kd.R_drew)); exact HO_9.out)) k_ hk))
            (case aO => exact (by (with_reducible repeat (first | apply Kd.S_alloc | apply Kd.S_drewN | apply Kd.S_drew)); exact Kd.S_mono HO_7.out (fun k_ hk => ⟨hk.1.1, fun e_ => e_.elim (fun h_ => hk.1.2 h_) (fun h_ => hk.2 h_)⟩)))
            (case aS => exact (below_size (bl0 HB.out)))
            (case aL => have := LMc18.out; omega)
            intro v766 w25 ho hb hg hat
            rw [← Ny765.out] at ho
            have n0_ := Aside0.mk (Kd.R_over' (by (with_reducible repeat (first | apply Kd.R_alloc | apply Kd.R_drewN | apply Kd.R_drew)); exact HO_9.out) (Kd.S_typed (by (with_reducible repeat (first | apply Kd.S_alloc | apply Kd.S_drewN | apply Kd.S_drew)); exact HO_7.out)) (by decide) hg)
            have n1_ := Aside0.mk (hb)
            have n2_ := Aside0.mk (ho)
            clear HO_9
            clear HB
            clear HO_7
            clear HO757
            clear HO764
            have HO_9 := n0_
            have HB := n1_
            have HO767 := n2_
            clear n0_ n1_ n2_
            clear ho hb hg hat
            refine hK.out _ _ ⟨((HB.out.cell (World.block_lt_of_cell? w _ hw750_0)).trans hw750_0), ((HB.out.cell (World.block_lt_of_cell? w _ hw751_0)).trans hw751_0), ((HB.out.cell (World.block_lt_of_cell? w _ hw758_0)).trans hw758_0)⟩ (fun hHeld => ?_)
            clear hK K
            refine norm_ (a' := ?_) ?_ ?_
            rotate_left
            ·show Act.put _ (some 58) _ = _
             simp only [Act.put, sb, sz, ss, i64_w, i32_w]
             rfl
            refine pure_ (i := 24) (N := some 7) (v := ?_) (a' := ?_) (tf 25 0) rfl rfl (any_of HT_.out (by kernel_rfl)) (fun _ _ _ h => h) (Or.inl ⟨by rfl, ?_⟩) ?_ ?_
            rotate_left
            ·intro w'
             go_simp
             with_reducible rfl
            rotate_left
            ·simp only [Act.put, sb, sz, ss, i64_w, i32_w]
             rfl
            refine done_ (done_of HT_.out (by kernel_rfl)) ?_
            try go_wp2
            go_roundg k2
            case measure => have := HK1.out; have := HK2.out; omega
            case rel => exact ⟨(y765), (ji11), (by first | rfl | (simp; done) | (simp only [← hji11] <;> (first | rfl | (simp; done))) | (simp [*]; done) | (congr 1; (try unfold wrap64); omega) | (congr 1; rw [IntKind.wrap_u64]; omega)), H', ⟨by have := HK1.out; have := HK2.out; omega⟩, ⟨by (with_reducible repeat (first | apply Kd.S_alloc | apply Kd.S_drewN | apply Kd.S_drew)); exact Kd.S_mono HO767.out (fun _ hk => trivial)⟩, ⟨bl0 HB.out⟩⟩
           ·rw [if_neg c18] at H
            exact absurd H (by simp)
          ·rw [if_neg c15] at H
           exact absurd H (by simp)
         ·rw [if_neg c14] at H
          exact absurd H (by simp)
        ·rw [if_neg c13] at H
         exact absurd H (by simp)
       ·rw [if_neg c12] at H
        exact absurd H (by simp)
   ·rw [if_neg c4] at H
    have c4b0 : decide ((wrap64 (x8_1 + 1)) < (l0.length : Int)) = false := decide_eq_false c4
    clear c4
    obtain rfl := Option.some.inj H
    go_wp2
    go_ret
    exact ⟨_, by first | rfl | (simp [bK, bL] <;> rfl) | (simp [*, bK, bL] <;> rfl), by (with_reducible repeat (first | apply Kd.S_alloc | apply Kd.S_drewN | apply Kd.S_drew)); exact HO_7.out, bl0 HB.out⟩

end Go.Proofs.Ytfapjegkilljnaa.P
