-- Printed by a program of this session's out of Lean's print of the translation; Lean checks it.
import Derived.Test.YtjmihdhclbjaeaaPx0
import Derived.Test.YtjmihdhclbjaeaaPx1
import Derived.Test.YtjmihdhclbjaeaaPx2
namespace Go.Proofs.Ytjmihdhclbjaeaa.P
open Go.RowKit Go.Proofs.YtjmihdhclbjaeaaW.PrintWords Go.Proofs.YtjmihdhclbjaeaaW.PrintLast Go.Proofs.YtjmihdhclbjaeaaW.PrintMore
attribute [local go_sem] max2_int min2_int max_two min_two max_three min_three max_four min_four   -- for this text's walks alone
set_option linter.unusedVariables false
set_option linter.unusedSimpArgs false

/-! ### batch_Rows: function 22 -/
def batch_Rows.f (k : Nat) (a0 : Int) (a1 : Int) (a2 : Int) (a3 : Int) : Option (List Int) := (batch_few.f a0).bind fun t127 => ((batch_Epochs.f t127 (mn (mx a1 1) 256) a3).bind fun bt128 => ((batch_Order.f k t127 a2 bt128.1).bind fun t130 => (if 0 ≤ (wrap64 (bt128.2 * (mn (mx a1 1) 256))) then (if (wrap64 (bt128.2 * (mn (mx a1 1) 256))) ≤ (mn (wrap64 ((wrap64 (bt128.2 * (mn (mx a1 1) 256))) + (mn (mx a1 1) 256))) t127) then (if (mn (wrap64 ((wrap64 (bt128.2 * (mn (mx a1 1) 256))) + (mn (mx a1 1) 256))) t127) ≤ (t130.length : Int) then (some ((t130.take ((mn (wrap64 ((wrap64 (bt128.2 * (mn (mx a1 1) 256))) + (mn (mx a1 1) 256))) t127) : Int).toNat).drop ((wrap64 (bt128.2 * (mn (mx a1 1) 256))) : Int).toNat)) else (none)) else (none)) else (none))))
theorem batch_Rows.mono : ∀ a0 a1 a2 a3 k, LeO (batch_Rows.f k a0 a1 a2 a3) (batch_Rows.f (k + 1) a0 a1 a2 a3) := by
  intro a0 a1 a2 a3 k
  unfold batch_Rows.f
  repeat' first
      | (with_reducible exact batch_Order.mono _ _ _ _)
      | (with_reducible exact LeO.refl _)
      | (with_reducible exact LeO.none _)
      | (with_reducible refine LeO.ite ?_ ?_)
      | (with_reducible refine LeO.bind ?_ (fun _ => ?_))
      | exact batch_Order.mono _ _ _ _
      | exact LeO.none _
      | refine LeO.ite ?_ ?_
      | refine LeO.bind ?_ (fun _ => ?_)
set_option maxHeartbeats 8000000 in
set_option maxRecDepth 100000 in
theorem batch_Rows.calls (k : Nat) (a0 : Int) (a1 : Int) (a2 : Int) (a3 : Int) (r : List Int) (w : World) (h : batch_Rows.f k a0 a1 a2 a3 = some r) :
    Calls Try.prog 22 #[.int .i64 a0, .int .i64 a1, .int .u64 a2, .int .i64 a3] w fun e w' => ∃ v0_ : Value, e = .returned (v0_) ∧ Kd.V (Kd.int .i64) 3 w' w.heap.size (fun k_ => (w.heap.size ≤ k_)) v0_ r ∧ Below w.heap.size w w' := by
  have HB := Aside0.mk (Below.refl w.heap.size w)
  have H : ((batch_few.f a0).bind fun t127 => ((batch_Epochs.f t127 (mn (mx a1 1) 256) a3).bind fun bt128 => ((batch_Order.f k t127 a2 bt128.1).bind fun t130 => (if 0 ≤ (wrap64 (bt128.2 * (mn (mx a1 1) 256))) then (if (wrap64 (bt128.2 * (mn (mx a1 1) 256))) ≤ (mn (wrap64 ((wrap64 (bt128.2 * (mn (mx a1 1) 256))) + (mn (mx a1 1) 256))) t127) then (if (mn (wrap64 ((wrap64 (bt128.2 * (mn (mx a1 1) 256))) + (mn (mx a1 1) 256))) t127) ≤ (t130.length : Int) then (some ((t130.take ((mn (wrap64 ((wrap64 (bt128.2 * (mn (mx a1 1) 256))) + (mn (mx a1 1) 256))) t127) : Int).toNat).drop ((wrap64 (bt128.2 * (mn (mx a1 1) 256))) : Int).toNat)) else (none)) else (none)) else (none))))) = some r := h
  clear h
  replace H := Option.bind_eq_some_iff.mp H
  obtain ⟨t127, A50, H⟩ := H
  replace H : ((batch_Epochs.f t127 (mn (mx a1 1) 256) a3).bind fun bt128 => ((batch_Order.f k t127 a2 bt128.1).bind fun t130 => (if 0 ≤ (wrap64 (bt128.2 * (mn (mx a1 1) 256))) then (if (wrap64 (bt128.2 * (mn (mx a1 1) 256))) ≤ (mn (wrap64 ((wrap64 (bt128.2 * (mn (mx a1 1) 256))) + (mn (mx a1 1) 256))) t127) then (if (mn (wrap64 ((wrap64 (bt128.2 * (mn (mx a1 1) 256))) + (mn (mx a1 1) 256))) t127) ≤ (t130.length : Int) then (some ((t130.take ((mn (wrap64 ((wrap64 (bt128.2 * (mn (mx a1 1) 256))) + (mn (mx a1 1) 256))) t127) : Int).toNat).drop ((wrap64 (bt128.2 * (mn (mx a1 1) 256))) : Int).toNat)) else (none)) else (none)) else (none)))) = some r := H
  have A5 := Aside0.mk A50
  clear A50
  obtain ⟨ji6, hji6⟩ : ∃ j_ : Int, (mx a1 1) = j_ := ⟨_, rfl⟩
  replace H : ((batch_Epochs.f t127 (mn (ji6) 256) a3).bind fun bt128 => ((batch_Order.f k t127 a2 bt128.1).bind fun t130 => (if 0 ≤ (wrap64 (bt128.2 * (mn (ji6) 256))) then (if (wrap64 (bt128.2 * (mn (ji6) 256))) ≤ (mn (wrap64 ((wrap64 (bt128.2 * (mn (ji6) 256))) + (mn (ji6) 256))) t127) then (if (mn (wrap64 ((wrap64 (bt128.2 * (mn (ji6) 256))) + (mn (ji6) 256))) t127) ≤ (t130.length : Int) then (some ((t130.take ((mn (wrap64 ((wrap64 (bt128.2 * (mn (ji6) 256))) + (mn (ji6) 256))) t127) : Int).toNat).drop ((wrap64 (bt128.2 * (mn (ji6) 256))) : Int).toNat)) else (none)) else (none)) else (none)))) = some r := by first | (rw [hji6] at H; exact H) | (simp only [hji6] at H ⊢; exact H)
  (try rw [hji6] at A5)
  (try (have hji6l : 1 ≤ ji6 := by (rw [← hji6]; unfold mx; (repeat' split) <;> omega)))
  (try (have hji6m : 0 ≤ ji6 := by omega))
  have hji6_ : (if a1 < 1 then 1 else a1) = ji6 := hji6
  obtain ⟨ji7, hji7⟩ : ∃ j_ : Int, (mn (ji6) 256) = j_ := ⟨_, rfl⟩
  replace H : ((batch_Epochs.f t127 (ji7) a3).bind fun bt128 => ((batch_Order.f k t127 a2 bt128.1).bind fun t130 => (if 0 ≤ (wrap64 (bt128.2 * (ji7))) then (if (wrap64 (bt128.2 * (ji7))) ≤ (mn (wrap64 ((wrap64 (bt128.2 * (ji7))) + (ji7))) t127) then (if (mn (wrap64 ((wrap64 (bt128.2 * (ji7))) + (ji7))) t127) ≤ (t130.length : Int) then (some ((t130.take ((mn (wrap64 ((wrap64 (bt128.2 * (ji7))) + (ji7))) t127) : Int).toNat).drop ((wrap64 (bt128.2 * (ji7))) : Int).toNat)) else (none)) else (none)) else (none)))) = some r := by first | (rw [hji7] at H; exact H) | (simp only [hji7] at H ⊢; exact H)
  (try rw [hji7] at A5)
  have hji7_ : (if 256 < (ji6) then 256 else (ji6)) = ji7 := hji7
  replace H := Option.bind_eq_some_iff.mp H
  obtain ⟨⟨t128, t129⟩, A80, H⟩ := H
  replace H : ((batch_Order.f k t127 a2 t128).bind fun t130 => (if 0 ≤ (wrap64 (t129 * (ji7))) then (if (wrap64 (t129 * (ji7))) ≤ (mn (wrap64 ((wrap64 (t129 * (ji7))) + (ji7))) t127) then (if (mn (wrap64 ((wrap64 (t129 * (ji7))) + (ji7))) t127) ≤ (t130.length : Int) then (some ((t130.take ((mn (wrap64 ((wrap64 (t129 * (ji7))) + (ji7))) t127) : Int).toNat).drop ((wrap64 (t129 * (ji7))) : Int).toNat)) else (none)) else (none)) else (none))) = some r := H
  have A8 := Aside0.mk A80
  clear A80
  replace H := Option.bind_eq_some_iff.mp H
  obtain ⟨t130, A90, H⟩ := H
  replace H : (if 0 ≤ (wrap64 (t129 * (ji7))) then (if (wrap64 (t129 * (ji7))) ≤ (mn (wrap64 ((wrap64 (t129 * (ji7))) + (ji7))) t127) then (if (mn (wrap64 ((wrap64 (t129 * (ji7))) + (ji7))) t127) ≤ (t130.length : Int) then (some ((t130.take ((mn (wrap64 ((wrap64 (t129 * (ji7))) + (ji7))) t127) : Int).toNat).drop ((wrap64 (t129 * (ji7))) : Int).toNat)) else (none)) else (none)) else (none)) = some r := H
  have A9 := Aside0.mk A90
  clear A90
  obtain ⟨ji10, hji10⟩ : ∃ j_ : Int, (mn (wrap64 ((wrap64 (t129 * (ji7))) + (ji7))) t127) = j_ := ⟨_, rfl⟩
  replace H : (if 0 ≤ (wrap64 (t129 * (ji7))) then (if (wrap64 (t129 * (ji7))) ≤ (ji10) then (if (ji10) ≤ (t130.length : Int) then (some ((t130.take ((ji10) : Int).toNat).drop ((wrap64 (t129 * (ji7))) : Int).toNat)) else (none)) else (none)) else (none)) = some r := by first | (rw [hji10] at H; exact H) | (simp only [hji10] at H ⊢; exact H)
  (try rw [hji10] at A5)
  (try rw [hji10] at A8)
  (try rw [hji10] at A9)
  have hji10_ : (if t127 < (wrap64 ((wrap64 (t129 * (ji7))) + (ji7))) then t127 else (wrap64 ((wrap64 (t129 * (ji7))) + (ji7)))) = ji10 := hji10
  obtain ⟨ji11, hji11⟩ : ∃ j_ : Int, (wrap64 (t129 * (ji7))) = j_ := ⟨_, rfl⟩
  replace H : (if 0 ≤ (ji11) then (if (ji11) ≤ (ji10) then (if (ji10) ≤ (t130.length : Int) then (some ((t130.take ((ji10) : Int).toNat).drop ((ji11) : Int).toNat)) else (none)) else (none)) else (none)) = some r := by first | (rw [hji11] at H; exact H) | (simp only [hji11] at H ⊢; exact H)
  (try rw [hji11] at A5)
  (try rw [hji11] at A8)
  (try rw [hji11] at A9)
  (try rw [hji11] at hji10)
  (try rw [hji11] at hji10_)
  have hji11w : (IntKind.i64.wrap (t129 * (ji7))) = ji11 := (i64_w _).trans hji11
  by_cases c12 : 0 ≤ (ji11)
  · rw [if_pos c12] at H
    have c12b0 := eq_true c12
    have c12b1 : decide (0 ≤ (ji11)) = true := decide_eq_true c12
    clear c12
    by_cases c13 : (ji11) ≤ (ji10)
    · rw [if_pos c13] at H
      have c13b0 := eq_true c13
      have c13b1 : decide ((ji11) ≤ (ji10)) = true := decide_eq_true c13
      clear c13
      by_cases c14 : (ji10) ≤ (t130.length : Int)
      · rw [if_pos c14] at H
        have c14b0 := eq_true c14
        have c14b1 : decide ((ji10) ≤ (t130.length : Int)) = true := decide_eq_true c14
        clear c14
        obtain ⟨y133, hy133⟩ : ∃ y_ : List Int, y_ = ((t130.take ((ji10) : Int).toNat).drop ((ji11) : Int).toNat) := ⟨_, rfl⟩
        replace H : (some y133) = some r := by first | (rw [hy133]; with_reducible exact H) | (have H2_ := (Option.bind_some _ _).symm.trans H; rw [hy133]; with_reducible exact H2_) | (have H2_ := (Option.bind_some _ _).symm.trans H; with_reducible exact H2_) | with_reducible exact H | (rw [hy133]; exact H) | exact H
        have Ny133 := Aside0.mk hy133
        clear hy133
        obtain rfl := Option.some.inj H
        go_enter Try.func22, Try.ntmps22
        go_wp2_with (first | ((with_reducible refine gate_callee (f := 54) rfl ?_); refine goesL_ (some 13) rfl rfl Try.func54 (by kernel_rfl) rfl #[.int .i64 a0] rfl (by (try simp only [List.map_toArray, List.map_cons, List.map_nil]); first | done | rfl | (simp only [List.length_drop, List.length_take]; rfl)) ?_; (with_reducible refine (batch_few.calls a0 t127 _ A5.out).mono ?_); rintro e w15 ⟨rfl, hb⟩; refine ⟨_, rfl, ?_⟩; have n0_ := Aside0.mk (below_step (by repeat (first | (with_reducible first | exact HB.out | apply below_alloc | apply pw_below_drewN | apply below_drew1) | exact HB.out)) hb); clear HB; have HB := n0_; clear n0_; (try clear hb); (try clear hb2); (try clear hk); (try clear hi)) | ((with_reducible refine gate_callee (f := 17) rfl ?_); refine goesL_ (some 21) rfl rfl Try.func17 (by kernel_rfl) rfl #[.int .i64 t127, .int .i64 ji7, .int .i64 a3] rfl (by (try simp only [List.map_toArray, List.map_cons, List.map_nil]); first | done | (simp only [hji7]; rfl) | rfl | (simp only [List.length_drop, List.length_take]; rfl)) ?_; (with_reducible refine (batch_Epochs.calls t127 ji7 a3 t128 t129 _ A8.out).mono ?_); rintro e w16 ⟨rfl, hb⟩; refine ⟨_, rfl, ?_⟩; have n0_ := Aside0.mk (below_step (by repeat (first | (with_reducible first | exact HB.out | apply below_alloc | apply pw_below_drewN | apply below_drew1) | exact HB.out)) hb); clear HB; have HB := n0_; clear n0_; (try clear hb); (try clear hb2); (try clear hk); (try clear hi)) | ((with_reducible refine gate_callee (f := 20) rfl ?_); refine goesL_ (some 30) rfl rfl Try.func20 (by kernel_rfl) rfl #[.int .i64 t127, .int .u64 a2, .int .i64 t128] rfl (by (try simp only [List.map_toArray, List.map_cons, List.map_nil]); first | done | rfl | (simp only [List.length_drop, List.length_take]; rfl)) ?_; (with_reducible refine (batch_Order.calls k t127 a2 t128 t130 _ A9.out).mono ?_); rintro e w17 ⟨v131, rfl, ho0, hb⟩; refine ⟨_, rfl, ?_⟩; have n0_ := Aside0.mk (Kd.R_lower (Kd.R_newM (M := fun k_ => (w.heap.size ≤ k_)) ho0 (below_size (by repeat (first | (with_reducible first | exact HB.out | apply below_alloc | apply pw_below_drewN | apply below_drew1) | exact HB.out))) (fun k_ h_ => h_)) (below_size (by repeat (first | (with_reducible first | exact HB.out | apply below_alloc | apply pw_below_drewN | apply below_drew1) | exact HB.out)))); have n1_ := Aside0.mk (below_step (by repeat (first | (with_reducible first | exact HB.out | apply below_alloc | apply pw_below_drewN | apply below_drew1) | exact HB.out)) hb); clear HB; have HO132 := n0_; have HB := n1_; clear n0_ n1_; (try clear hb); (try clear hb2); (try clear hk); (try clear hi); (try clear ho0); obtain ⟨Ao19, co19, eo19⟩ := Kd.R_slice HO132.out; subst eo19; have q18 : ((ji10) : Int) ≤ ((t130.length : Int) : Int) := of_decide_eq_true (by first | (with_reducible assumption) | assumption); obtain ⟨i018, hi018, _, hsz18, _⟩ := info_parts info3; have hroom18 : t130.length ≤ co19 := (Kd.R_reads' HO132.out).2.1; have hC18 : Kd.F (Kd.int .i64) _ _ Ao19 t130.length t130 := (Kd.V_at (base := w.heap.size) (Kd.R_V HO132.out)).2.2; have ql18 : ((ji11) : Int) ≤ ((ji10) : Int) := of_decide_eq_true (by first | (with_reducible assumption) | assumption); have q018 : (0 : Int) ≤ ((ji11) : Int) := of_decide_eq_true (by first | (with_reducible assumption) | assumption); have hcut18 := cut_mid (P := Try.prog) 30 3 .i64 .i64 Try.underlying30 hi018 1 hsz18 Ao19 t130.length co19 (ji11) (ji10) q018 ql18 q18 hroom18; have hr18 := Kd.F_mid (lo := ((ji11) : Int).toNat) (hi := ((ji10) : Int).toNat) (c := co19) hC18 (by omega) (by omega) hroom18; obtain ⟨A18, hA18⟩ : ∃ A1, A1 = (if co19 = ((ji11) : Int).toNat then Ao19 else (Ao19 : Option Addr).map (·.add (((ji11) : Int).toNat * 1))) := ⟨_, rfl⟩; obtain ⟨c18, hc18⟩ : ∃ c1, c1 = co19 - ((ji11) : Int).toNat := ⟨_, rfl⟩; have hy18 : y133.length = ((ji10) : Int).toNat - ((ji11) : Int).toNat := (by rw [Ny133.out, List.length_drop, List.length_take] <;> omega); rw [show ((t130).take ((ji10) : Int).toNat).drop ((ji11) : Int).toNat = y133 from Ny133.out.symm] at hr18; replace hr18 : Kd.F (Kd.int .i64) _ _ A18 y133.length y133 := (by rw [hA18]; exact hr18); rw [← hy18, ← hA18, ← hc18] at hcut18; have HO137 := Aside0.mk (show Kd.V (Kd.int .i64) 3 _ w.heap.size _ (.slice A18 y133.length c18) y133 from Kd.V_mk (by rw [hy18, hc18]; exact Nat.sub_le_sub_right (Nat.le_trans (by omega) hroom18) _) hr18); have HC137 := Aside0.mk (show y133.length ≤ c18 from by rw [hy18, hc18]; exact Nat.sub_le_sub_right (Nat.le_trans (by omega) hroom18) _); clear hr18 hC18 hroom18 hi018 hsz18 hc18; have KY18 := Aside0.mk hy18; have KA18 := Aside0.mk hA18; clear hy18 hA18; replace q18 := eq_true q18))
        go_ret
        exact ⟨_, by first | rfl | (simp [errW_none, errW_some] <;> rfl) | (simp only [← hji6, ← hji7, ← hji10, ← hji11]; first | rfl | (simp [errW_none, errW_some] <;> rfl)) | (simp [*, errW_none, errW_some] <;> rfl), by (with_reducible repeat (first | apply Kd.V_alloc | apply Kd.V_drewN | apply Kd.V_drew)); exact Kd.V_mono HO137.out (fun _ hk => hk.1), by repeat (first | (with_reducible first | exact HB.out | apply below_alloc | apply pw_below_drewN | apply below_drew1) | exact HB.out)⟩
      · rw [if_neg c14] at H
        exact absurd H (by simp)
    · rw [if_neg c13] at H
      exact absurd H (by simp)
  · rw [if_neg c12] at H
    exact absurd H (by simp)

/-! ### anneallaw26_known: function 15 -/
def anneallaw26_known.f (k : Nat)  : Option (Bool) := (batch_Rows.f k 3 2 7 0).bind fun t138 => ((batch_Rows.f k 3 2 7 1).bind fun t141 => ((batch_Epochs.f 3 2 5).bind fun bt144 => (if (t138.length : Int) = 2 then (if (t141.length : Int) = 1 then (if bt144.1 = 2 then (if bt144.2 = 1 then ((batch_Order.f k 4 7 0).bind fun t146 => (some ((t146.length : Int) == 4))) else (some false)) else (some false)) else (some false)) else (some false))))
theorem anneallaw26_known.mono : ∀ k, LeO (anneallaw26_known.f k ) (anneallaw26_known.f (k + 1) ) := by
  intro  k
  unfold anneallaw26_known.f
  repeat' first
      | (with_reducible exact batch_Order.mono _ _ _ _)
      | (with_reducible exact batch_Rows.mono _ _ _ _ _)
      | (with_reducible exact LeO.refl _)
      | (with_reducible exact LeO.none _)
      | (with_reducible refine LeO.ite ?_ ?_)
      | (with_reducible refine LeO.bind ?_ (fun _ => ?_))
      | exact batch_Order.mono _ _ _ _
      | exact batch_Rows.mono _ _ _ _ _
      | exact LeO.none _
      | refine LeO.ite ?_ ?_
      | refine LeO.bind ?_ (fun _ => ?_)
set_option maxHeartbeats 8000000 in
set_option maxRecDepth 100000 in
theorem anneallaw26_known.calls (k : Nat)  (r : Bool) (w : World) (h : anneallaw26_known.f k  = some r) :
    Calls Try.prog 15 #[] w fun e w' => e = .returned (.bool r) ∧ Below w.heap.size w w' := by
  have HB := Aside0.mk (Below.refl w.heap.size w)
  have H : ((batch_Rows.f k 3 2 7 0).bind fun t138 => ((batch_Rows.f k 3 2 7 1).bind fun t141 => ((batch_Epochs.f 3 2 5).bind fun bt144 => (if (t138.length : Int) = 2 then (if (t141.length : Int) = 1 then (if bt144.1 = 2 then (if bt144.2 = 1 then ((batch_Order.f k 4 7 0).bind fun t146 => (some ((t146.length : Int) == 4))) else (some false)) else (some false)) else (some false)) else (some false))))) = some r := h
  clear h
  replace H := Option.bind_eq_some_iff.mp H
  obtain ⟨t138, A10, H⟩ := H
  replace H : ((batch_Rows.f k 3 2 7 1).bind fun t141 => ((batch_Epochs.f 3 2 5).bind fun bt144 => (if (t138.length : Int) = 2 then (if (t141.length : Int) = 1 then (if bt144.1 = 2 then (if bt144.2 = 1 then ((batch_Order.f k 4 7 0).bind fun t146 => (some ((t146.length : Int) == 4))) else (some false)) else (some false)) else (some false)) else (some false)))) = some r := H
  have A1 := Aside0.mk A10
  clear A10
  replace H := Option.bind_eq_some_iff.mp H
  obtain ⟨t141, A20, H⟩ := H
  replace H : ((batch_Epochs.f 3 2 5).bind fun bt144 => (if (t138.length : Int) = 2 then (if (t141.length : Int) = 1 then (if bt144.1 = 2 then (if bt144.2 = 1 then ((batch_Order.f k 4 7 0).bind fun t146 => (some ((t146.length : Int) == 4))) else (some false)) else (some false)) else (some false)) else (some false))) = some r := H
  have A2 := Aside0.mk A20
  clear A20
  replace H := Option.bind_eq_some_iff.mp H
  obtain ⟨⟨t144, t145⟩, A30, H⟩ := H
  replace H : (if (t138.length : Int) = 2 then (if (t141.length : Int) = 1 then (if t144 = 2 then (if t145 = 1 then ((batch_Order.f k 4 7 0).bind fun t146 => (some ((t146.length : Int) == 4))) else (some false)) else (some false)) else (some false)) else (some false)) = some r := H
  have A3 := Aside0.mk A30
  clear A30
  by_cases c4 : (t138.length : Int) = 2
  · rw [if_pos c4] at H
    have c4b0 : ((t138.length : Int) == 2) = true := beq_iff_eq.mpr c4
    have c4b1 : ((t138.length : Int) != 2) = false := bne_eq_false_iff_eq.mpr c4
    clear c4
    by_cases c5 : (t141.length : Int) = 1
    · rw [if_pos c5] at H
      have c5b0 : ((t141.length : Int) == 1) = true := beq_iff_eq.mpr c5
      have c5b1 : ((t141.length : Int) != 1) = false := bne_eq_false_iff_eq.mpr c5
      clear c5
      by_cases c6 : t144 = 2
      · rw [if_pos c6] at H
        have c6b0 : (t144 == 2) = true := beq_iff_eq.mpr c6
        have c6b1 : (t144 != 2) = false := bne_eq_false_iff_eq.mpr c6
        clear c6
        by_cases c7 : t145 = 1
        · rw [if_pos c7] at H
          have c7b0 : (t145 == 1) = true := beq_iff_eq.mpr c7
          have c7b1 : (t145 != 1) = false := bne_eq_false_iff_eq.mpr c7
          clear c7
          replace H := Option.bind_eq_some_iff.mp H
          obtain ⟨t146, A80, H⟩ := H
          replace H : (some ((t146.length : Int) == 4)) = some r := H
          have A8 := Aside0.mk A80
          clear A80
          obtain rfl := Option.some.inj H
          go_enter Try.func15, Try.ntmps15
          go_wp2_with (first | ((with_reducible refine gate_callee (f := 22) rfl ?_); refine goesL_ (some 5) rfl rfl Try.func22 (by kernel_rfl) rfl #[.int .i64 3, .int .i64 2, .int .u64 7, .int .i64 0] rfl (by (try simp only [List.map_toArray, List.map_cons, List.map_nil]); first | done | rfl | (simp only [List.length_drop, List.length_take]; rfl)) ?_; (with_reducible refine (batch_Rows.calls k 3 2 7 0 t138 _ A1.out).mono ?_); rintro e w9 ⟨v139, rfl, ho0, hb⟩; refine ⟨_, rfl, ?_⟩; have n0_ := Aside0.mk (Kd.V_lower (Kd.V_mono (ok' := fun k_ => True) ho0 (fun k_ hk_ => trivial)) (below_size (by repeat (first | (with_reducible first | exact HB.out | apply below_alloc | apply pw_below_drewN | apply below_drew1) | exact HB.out)))); have n1_ := Aside0.mk (below_step (by repeat (first | (with_reducible first | exact HB.out | apply below_alloc | apply pw_below_drewN | apply below_drew1) | exact HB.out)) hb); clear HB; have HO140 := n0_; have HB := n1_; clear n0_ n1_; (try clear hb); (try clear hb2); (try clear hk); (try clear hi); (try clear ho0)) | ((with_reducible refine gate_callee (f := 22) rfl ?_); refine goesL_ (some 6) rfl rfl Try.func22 (by kernel_rfl) rfl #[.int .i64 3, .int .i64 2, .int .u64 7, .int .i64 1] rfl (by (try simp only [List.map_toArray, List.map_cons, List.map_nil]); first | done | rfl | (simp only [List.length_drop, List.length_take]; rfl)) ?_; (with_reducible refine (batch_Rows.calls k 3 2 7 1 t141 _ A2.out).mono ?_); rintro e w10 ⟨v142, rfl, ho0, hb⟩; refine ⟨_, rfl, ?_⟩; have n0_ := Aside0.mk (Kd.V_below (by (with_reducible repeat (first | apply Kd.V_alloc | apply Kd.V_drewN | apply Kd.V_drew)); exact HO140.out) hb); have n1_ := Aside0.mk (Kd.V_lower (Kd.V_mono (ok' := fun k_ => True) ho0 (fun k_ hk_ => trivial)) (below_size (by repeat (first | (with_reducible first | exact HB.out | apply below_alloc | apply pw_below_drewN | apply below_drew1) | exact HB.out)))); have n2_ := Aside0.mk (below_step (by repeat (first | (with_reducible first | exact HB.out | apply below_alloc | apply pw_below_drewN | apply below_drew1) | exact HB.out)) hb); clear HO140; clear HB; have HO140 := n0_; have HO143 := n1_; have HB := n2_; clear n0_ n1_ n2_; (try clear hb); (try clear hb2); (try clear hk); (try clear hi); (try clear ho0)) | ((with_reducible refine gate_callee (f := 17) rfl ?_); refine goesL_ (some 8) rfl rfl Try.func17 (by kernel_rfl) rfl #[.int .i64 3, .int .i64 2, .int .i64 5] rfl (by (try simp only [List.map_toArray, List.map_cons, List.map_nil]); first | done | rfl | (simp only [List.length_drop, List.length_take]; rfl)) ?_; (with_reducible refine (batch_Epochs.calls 3 2 5 t144 t145 _ A3.out).mono ?_); rintro e w11 ⟨rfl, hb⟩; refine ⟨_, rfl, ?_⟩; have n0_ := Aside0.mk (Kd.V_below (by (with_reducible repeat (first | apply Kd.V_alloc | apply Kd.V_drewN | apply Kd.V_drew)); exact HO140.out) hb); have n1_ := Aside0.mk (Kd.V_below (by (with_reducible repeat (first | apply Kd.V_alloc | apply Kd.V_drewN | apply Kd.V_drew)); exact HO143.out) hb); have n2_ := Aside0.mk (below_step (by repeat (first | (with_reducible first | exact HB.out | apply below_alloc | apply pw_below_drewN | apply below_drew1) | exact HB.out)) hb); clear HO140; clear HO143; clear HB; have HO140 := n0_; have HO143 := n1_; have HB := n2_; clear n0_ n1_ n2_; (try clear hb); (try clear hb2); (try clear hk); (try clear hi); obtain ⟨Ao12, co12, eo12⟩ := Kd.V_slice HO140.out; subst eo12; obtain ⟨Ao13, co13, eo13⟩ := Kd.V_slice HO143.out; subst eo13) | (go_at_call 20; (with_reducible refine (batch_Order.calls k 4 7 0 t146 _ A8.out).mono ?_); rintro e w14 ⟨v147, rfl, ho0, hb⟩; have n0_ := Aside0.mk (Kd.V_elder' (by (with_reducible repeat (first | apply Kd.V_alloc | apply Kd.V_drewN | apply Kd.V_drew)); exact HO140.out) (Kd.R_base ho0) hb); have n1_ := Aside0.mk (Kd.V_elder' (by (with_reducible repeat (first | apply Kd.V_alloc | apply Kd.V_drewN | apply Kd.V_drew)); exact HO143.out) (Kd.R_base ho0) hb); have n2_ := Aside0.mk (Kd.R_lower ho0 (below_size (by repeat (first | (with_reducible first | exact HB.out | apply below_alloc | apply pw_below_drewN | apply below_drew1) | exact HB.out)))); have n3_ := Aside0.mk (below_step (by repeat (first | (with_reducible first | exact HB.out | apply below_alloc | apply pw_below_drewN | apply below_drew1) | exact HB.out)) hb); clear HO140; clear HO143; clear HB; have HO140 := n0_; have HO143 := n1_; have HO148 := n2_; have HB := n3_; clear n0_ n1_ n2_ n3_; (try clear hb); (try clear hb2); (try clear hk); (try clear hi); (try clear ho0); obtain ⟨Ao15, co15, eo15⟩ := Kd.R_slice HO148.out; subst eo15))
          go_ret
          exact ⟨by first | rfl | (simp [errW_none, errW_some] <;> rfl) | (simp [*, errW_none, errW_some] <;> rfl), by repeat (first | (with_reducible first | exact HB.out | apply below_alloc | apply pw_below_drewN | apply below_drew1) | exact HB.out)⟩
        · rw [if_neg c7] at H
          have c7b0 : (t145 == 1) = false := beq_eq_false_iff_ne.mpr c7
          have c7b1 : (t145 != 1) = true := bne_iff_ne.mpr c7
          obtain rfl := Option.some.inj H
          go_enter Try.func15, Try.ntmps15
          go_wp2_with (first | ((with_reducible refine gate_callee (f := 22) rfl ?_); refine goesL_ (some 5) rfl rfl Try.func22 (by kernel_rfl) rfl #[.int .i64 3, .int .i64 2, .int .u64 7, .int .i64 0] rfl (by (try simp only [List.map_toArray, List.map_cons, List.map_nil]); first | done | rfl | (simp only [List.length_drop, List.length_take]; rfl)) ?_; (with_reducible refine (batch_Rows.calls k 3 2 7 0 t138 _ A1.out).mono ?_); rintro e w16 ⟨v139, rfl, ho0, hb⟩; refine ⟨_, rfl, ?_⟩; have n0_ := Aside0.mk (Kd.V_lower (Kd.V_mono (ok' := fun k_ => True) ho0 (fun k_ hk_ => trivial)) (below_size (by repeat (first | (with_reducible first | exact HB.out | apply below_alloc | apply pw_below_drewN | apply below_drew1) | exact HB.out)))); have n1_ := Aside0.mk (below_step (by repeat (first | (with_reducible first | exact HB.out | apply below_alloc | apply pw_below_drewN | apply below_drew1) | exact HB.out)) hb); clear HB; have HO140 := n0_; have HB := n1_; clear n0_ n1_; (try clear hb); (try clear hb2); (try clear hk); (try clear hi); (try clear ho0)) | ((with_reducible refine gate_callee (f := 22) rfl ?_); refine goesL_ (some 6) rfl rfl Try.func22 (by kernel_rfl) rfl #[.int .i64 3, .int .i64 2, .int .u64 7, .int .i64 1] rfl (by (try simp only [List.map_toArray, List.map_cons, List.map_nil]); first | done | rfl | (simp only [List.length_drop, List.length_take]; rfl)) ?_; (with_reducible refine (batch_Rows.calls k 3 2 7 1 t141 _ A2.out).mono ?_); rintro e w17 ⟨v142, rfl, ho0, hb⟩; refine ⟨_, rfl, ?_⟩; have n0_ := Aside0.mk (Kd.V_below (by (with_reducible repeat (first | apply Kd.V_alloc | apply Kd.V_drewN | apply Kd.V_drew)); exact HO140.out) hb); have n1_ := Aside0.mk (Kd.V_lower (Kd.V_mono (ok' := fun k_ => True) ho0 (fun k_ hk_ => trivial)) (below_size (by repeat (first | (with_reducible first | exact HB.out | apply below_alloc | apply pw_below_drewN | apply below_drew1) | exact HB.out)))); have n2_ := Aside0.mk (below_step (by repeat (first | (with_reducible first | exact HB.out | apply below_alloc | apply pw_below_drewN | apply below_drew1) | exact HB.out)) hb); clear HO140; clear HB; have HO140 := n0_; have HO143 := n1_; have HB := n2_; clear n0_ n1_ n2_; (try clear hb); (try clear hb2); (try clear hk); (try clear hi); (try clear ho0)) | ((with_reducible refine gate_callee (f := 17) rfl ?_); refine goesL_ (some 8) rfl rfl Try.func17 (by kernel_rfl) rfl #[.int .i64 3, .int .i64 2, .int .i64 5] rfl (by (try simp only [List.map_toArray, List.map_cons, List.map_nil]); first | done | rfl | (simp only [List.length_drop, List.length_take]; rfl)) ?_; (with_reducible refine (batch_Epochs.calls 3 2 5 t144 t145 _ A3.out).mono ?_); rintro e w18 ⟨rfl, hb⟩; refine ⟨_, rfl, ?_⟩; have n0_ := Aside0.mk (Kd.V_below (by (with_reducible repeat (first | apply Kd.V_alloc | apply Kd.V_drewN | apply Kd.V_drew)); exact HO140.out) hb); have n1_ := Aside0.mk (Kd.V_below (by (with_reducible repeat (first | apply Kd.V_alloc | apply Kd.V_drewN | apply Kd.V_drew)); exact HO143.out) hb); have n2_ := Aside0.mk (below_step (by repeat (first | (with_reducible first | exact HB.out | apply below_alloc | apply pw_below_drewN | apply below_drew1) | exact HB.out)) hb); clear HO140; clear HO143; clear HB; have HO140 := n0_; have HO143 := n1_; have HB := n2_; clear n0_ n1_ n2_; (try clear hb); (try clear hb2); (try clear hk); (try clear hi); obtain ⟨Ao19, co19, eo19⟩ := Kd.V_slice HO140.out; subst eo19; obtain ⟨Ao20, co20, eo20⟩ := Kd.V_slice HO143.out; subst eo20))
          go_ret
          exact ⟨by first | rfl | (simp [errW_none, errW_some] <;> rfl) | (simp [*, errW_none, errW_some] <;> rfl), by repeat (first | (with_reducible first | exact HB.out | apply below_alloc | apply pw_below_drewN | apply below_drew1) | exact HB.out)⟩
      · rw [if_neg c6] at H
        have c6b0 : (t144 == 2) = false := beq_eq_false_iff_ne.mpr c6
        have c6b1 : (t144 != 2) = true := bne_iff_ne.mpr c6
        obtain rfl := Option.some.inj H
        go_enter Try.func15, Try.ntmps15
        go_wp2_with (first | ((with_reducible refine gate_callee (f := 22) rfl ?_); refine goesL_ (some 5) rfl rfl Try.func22 (by kernel_rfl) rfl #[.int .i64 3, .int .i64 2, .int .u64 7, .int .i64 0] rfl (by (try simp only [List.map_toArray, List.map_cons, List.map_nil]); first | done | rfl | (simp only [List.length_drop, List.length_take]; rfl)) ?_; (with_reducible refine (batch_Rows.calls k 3 2 7 0 t138 _ A1.out).mono ?_); rintro e w21 ⟨v139, rfl, ho0, hb⟩; refine ⟨_, rfl, ?_⟩; have n0_ := Aside0.mk (Kd.V_lower (Kd.V_mono (ok' := fun k_ => True) ho0 (fun k_ hk_ => trivial)) (below_size (by repeat (first | (with_reducible first | exact HB.out | apply below_alloc | apply pw_below_drewN | apply below_drew1) | exact HB.out)))); have n1_ := Aside0.mk (below_step (by repeat (first | (with_reducible first | exact HB.out | apply below_alloc | apply pw_below_drewN | apply below_drew1) | exact HB.out)) hb); clear HB; have HO140 := n0_; have HB := n1_; clear n0_ n1_; (try clear hb); (try clear hb2); (try clear hk); (try clear hi); (try clear ho0)) | ((with_reducible refine gate_callee (f := 22) rfl ?_); refine goesL_ (some 6) rfl rfl Try.func22 (by kernel_rfl) rfl #[.int .i64 3, .int .i64 2, .int .u64 7, .int .i64 1] rfl (by (try simp only [List.map_toArray, List.map_cons, List.map_nil]); first | done | rfl | (simp only [List.length_drop, List.length_take]; rfl)) ?_; (with_reducible refine (batch_Rows.calls k 3 2 7 1 t141 _ A2.out).mono ?_); rintro e w22 ⟨v142, rfl, ho0, hb⟩; refine ⟨_, rfl, ?_⟩; have n0_ := Aside0.mk (Kd.V_below (by (with_reducible repeat (first | apply Kd.V_alloc | apply Kd.V_drewN | apply Kd.V_drew)); exact HO140.out) hb); have n1_ := Aside0.mk (Kd.V_lower (Kd.V_mono (ok' := fun k_ => True) ho0 (fun k_ hk_ => trivial)) (below_size (by repeat (first | (with_reducible first | exact HB.out | apply below_alloc | apply pw_below_drewN | apply below_drew1) | exact HB.out)))); have n2_ := Aside0.mk (below_step (by repeat (first | (with_reducible first | exact HB.out | apply below_alloc | apply pw_below_drewN | apply below_drew1) | exact HB.out)) hb); clear HO140; clear HB; have HO140 := n0_; have HO143 := n1_; have HB := n2_; clear n0_ n1_ n2_; (try clear hb); (try clear hb2); (try clear hk); (try clear hi); (try clear ho0)) | ((with_reducible refine gate_callee (f := 17) rfl ?_); refine goesL_ (some 8) rfl rfl Try.func17 (by kernel_rfl) rfl #[.int .i64 3, .int .i64 2, .int .i64 5] rfl (by (try simp only [List.map_toArray, List.map_cons, List.map_nil]); first | done | rfl | (simp only [List.length_drop, List.length_take]; rfl)) ?_; (with_reducible refine (batch_Epochs.calls 3 2 5 t144 t145 _ A3.out).mono ?_); rintro e w23 ⟨rfl, hb⟩; refine ⟨_, rfl, ?_⟩; have n0_ := Aside0.mk (Kd.V_below (by (with_reducible repeat (first | apply Kd.V_alloc | apply Kd.V_drewN | apply Kd.V_drew)); exact HO140.out) hb); have n1_ := Aside0.mk (Kd.V_below (by (with_reducible repeat (first | apply Kd.V_alloc | apply Kd.V_drewN | apply Kd.V_drew)); exact HO143.out) hb); have n2_ := Aside0.mk (below_step (by repeat (first | (with_reducible first | exact HB.out | apply below_alloc | apply pw_below_drewN | apply below_drew1) | exact HB.out)) hb); clear HO140; clear HO143; clear HB; have HO140 := n0_; have HO143 := n1_; have HB := n2_; clear n0_ n1_ n2_; (try clear hb); (try clear hb2); (try clear hk); (try clear hi); obtain ⟨Ao24, co24, eo24⟩ := Kd.V_slice HO140.out; subst eo24; obtain ⟨Ao25, co25, eo25⟩ := Kd.V_slice HO143.out; subst eo25))
        go_ret
        exact ⟨by first | rfl | (simp [errW_none, errW_some] <;> rfl) | (simp [*, errW_none, errW_some] <;> rfl), by repeat (first | (with_reducible first | exact HB.out | apply below_alloc | apply pw_below_drewN | apply below_drew1) | exact HB.out)⟩
    · rw [if_neg c5] at H
      have c5b0 : ((t141.length : Int) == 1) = false := beq_eq_false_iff_ne.mpr c5
      have c5b1 : ((t141.length : Int) != 1) = true := bne_iff_ne.mpr c5
      obtain rfl := Option.some.inj H
      go_enter Try.func15, Try.ntmps15
      go_wp2_with (first | ((with_reducible refine gate_callee (f := 22) rfl ?_); refine goesL_ (some 5) rfl rfl Try.func22 (by kernel_rfl) rfl #[.int .i64 3, .int .i64 2, .int .u64 7, .int .i64 0] rfl (by (try simp only [List.map_toArray, List.map_cons, List.map_nil]); first | done | rfl | (simp only [List.length_drop, List.length_take]; rfl)) ?_; (with_reducible refine (batch_Rows.calls k 3 2 7 0 t138 _ A1.out).mono ?_); rintro e w26 ⟨v139, rfl, ho0, hb⟩; refine ⟨_, rfl, ?_⟩; have n0_ := Aside0.mk (Kd.V_lower (Kd.V_mono (ok' := fun k_ => True) ho0 (fun k_ hk_ => trivial)) (below_size (by repeat (first | (with_reducible first | exact HB.out | apply below_alloc | apply pw_below_drewN | apply below_drew1) | exact HB.out)))); have n1_ := Aside0.mk (below_step (by repeat (first | (with_reducible first | exact HB.out | apply below_alloc | apply pw_below_drewN | apply below_drew1) | exact HB.out)) hb); clear HB; have HO140 := n0_; have HB := n1_; clear n0_ n1_; (try clear hb); (try clear hb2); (try clear hk); (try clear hi); (try clear ho0)) | ((with_reducible refine gate_callee (f := 22) rfl ?_); refine goesL_ (some 6) rfl rfl Try.func22 (by kernel_rfl) rfl #[.int .i64 3, .int .i64 2, .int .u64 7, .int .i64 1] rfl (by (try simp only [List.map_toArray, List.map_cons, List.map_nil]); first | done | rfl | (simp only [List.length_drop, List.length_take]; rfl)) ?_; (with_reducible refine (batch_Rows.calls k 3 2 7 1 t141 _ A2.out).mono ?_); rintro e w27 ⟨v142, rfl, ho0, hb⟩; refine ⟨_, rfl, ?_⟩; have n0_ := Aside0.mk (Kd.V_below (by (with_reducible repeat (first | apply Kd.V_alloc | apply Kd.V_drewN | apply Kd.V_drew)); exact HO140.out) hb); have n1_ := Aside0.mk (Kd.V_lower (Kd.V_mono (ok' := fun k_ => True) ho0 (fun k_ hk_ => trivial)) (below_size (by repeat (first | (with_reducible first | exact HB.out | apply below_alloc | apply pw_below_drewN | apply below_drew1) | exact HB.out)))); have n2_ := Aside0.mk (below_step (by repeat (first | (with_reducible first | exact HB.out | apply below_alloc | apply pw_below_drewN | apply below_drew1) | exact HB.out)) hb); clear HO140; clear HB; have HO140 := n0_; have HO143 := n1_; have HB := n2_; clear n0_ n1_ n2_; (try clear hb); (try clear hb2); (try clear hk); (try clear hi); (try clear ho0)) | ((with_reducible refine gate_callee (f := 17) rfl ?_); refine goesL_ (some 8) rfl rfl Try.func17 (by kernel_rfl) rfl #[.int .i64 3, .int .i64 2, .int .i64 5] rfl (by (try simp only [List.map_toArray, List.map_cons, List.map_nil]); first | done | rfl | (simp only [List.length_drop, List.length_take]; rfl)) ?_; (with_reducible refine (batch_Epochs.calls 3 2 5 t144 t145 _ A3.out).mono ?_); rintro e w28 ⟨rfl, hb⟩; refine ⟨_, rfl, ?_⟩; have n0_ := Aside0.mk (Kd.V_below (by (with_reducible repeat (first | apply Kd.V_alloc | apply Kd.V_drewN | apply Kd.V_drew)); exact HO140.out) hb); have n1_ := Aside0.mk (Kd.V_below (by (with_reducible repeat (first | apply Kd.V_alloc | apply Kd.V_drewN | apply Kd.V_drew)); exact HO143.out) hb); have n2_ := Aside0.mk (below_step (by repeat (first | (with_reducible first | exact HB.out | apply below_alloc | apply pw_below_drewN | apply below_drew1) | exact HB.out)) hb); clear HO140; clear HO143; clear HB; have HO140 := n0_; have HO143 := n1_; have HB := n2_; clear n0_ n1_ n2_; (try clear hb); (try clear hb2); (try clear hk); (try clear hi); obtain ⟨Ao29, co29, eo29⟩ := Kd.V_slice HO140.out; subst eo29; obtain ⟨Ao30, co30, eo30⟩ := Kd.V_slice HO143.out; subst eo30))
      go_ret
      exact ⟨by first | rfl | (simp [errW_none, errW_some] <;> rfl) | (simp [*, errW_none, errW_some] <;> rfl), by repeat (first | (with_reducible first | exact HB.out | apply below_alloc | apply pw_below_drewN | apply below_drew1) | exact HB.out)⟩
  · rw [if_neg c4] at H
    have c4b0 : ((t138.length : Int) == 2) = false := beq_eq_false_iff_ne.mpr c4
    have c4b1 : ((t138.length : Int) != 2) = true := bne_iff_ne.mpr c4
    obtain rfl := Option.some.inj H
    go_enter Try.func15, Try.ntmps15
    go_wp2_with (first | ((with_reducible refine gate_callee (f := 22) rfl ?_); refine goesL_ (some 5) rfl rfl Try.func22 (by kernel_rfl) rfl #[.int .i64 3, .int .i64 2, .int .u64 7, .int .i64 0] rfl (by (try simp only [List.map_toArray, List.map_cons, List.map_nil]); first | done | rfl | (simp only [List.length_drop, List.length_take]; rfl)) ?_; (with_reducible refine (batch_Rows.calls k 3 2 7 0 t138 _ A1.out).mono ?_); rintro e w31 ⟨v139, rfl, ho0, hb⟩; refine ⟨_, rfl, ?_⟩; have n0_ := Aside0.mk (Kd.V_lower (Kd.V_mono (ok' := fun k_ => True) ho0 (fun k_ hk_ => trivial)) (below_size (by repeat (first | (with_reducible first | exact HB.out | apply below_alloc | apply pw_below_drewN | apply below_drew1) | exact HB.out)))); have n1_ := Aside0.mk (below_step (by repeat (first | (with_reducible first | exact HB.out | apply below_alloc | apply pw_below_drewN | apply below_drew1) | exact HB.out)) hb); clear HB; have HO140 := n0_; have HB := n1_; clear n0_ n1_; (try clear hb); (try clear hb2); (try clear hk); (try clear hi); (try clear ho0)) | ((with_reducible refine gate_callee (f := 22) rfl ?_); refine goesL_ (some 6) rfl rfl Try.func22 (by kernel_rfl) rfl #[.int .i64 3, .int .i64 2, .int .u64 7, .int .i64 1] rfl (by (try simp only [List.map_toArray, List.map_cons, List.map_nil]); first | done | rfl | (simp only [List.length_drop, List.length_take]; rfl)) ?_; (with_reducible refine (batch_Rows.calls k 3 2 7 1 t141 _ A2.out).mono ?_); rintro e w32 ⟨v142, rfl, ho0, hb⟩; refine ⟨_, rfl, ?_⟩; have n0_ := Aside0.mk (Kd.V_below (by (with_reducible repeat (first | apply Kd.V_alloc | apply Kd.V_drewN | apply Kd.V_drew)); exact HO140.out) hb); have n1_ := Aside0.mk (Kd.V_lower (Kd.V_mono (ok' := fun k_ => True) ho0 (fun k_ hk_ => trivial)) (below_size (by repeat (first | (with_reducible first | exact HB.out | apply below_alloc | apply pw_below_drewN | apply below_drew1) | exact HB.out)))); have n2_ := Aside0.mk (below_step (by repeat (first | (with_reducible first | exact HB.out | apply below_alloc | apply pw_below_drewN | apply below_drew1) | exact HB.out)) hb); clear HO140; clear HB; have HO140 := n0_; have HO143 := n1_; have HB := n2_; clear n0_ n1_ n2_; (try clear hb); (try clear hb2); (try clear hk); (try clear hi); (try clear ho0)) | ((with_reducible refine gate_callee (f := 17) rfl ?_); refine goesL_ (some 8) rfl rfl Try.func17 (by kernel_rfl) rfl #[.int .i64 3, .int .i64 2, .int .i64 5] rfl (by (try simp only [List.map_toArray, List.map_cons, List.map_nil]); first | done | rfl | (simp only [List.length_drop, List.length_take]; rfl)) ?_; (with_reducible refine (batch_Epochs.calls 3 2 5 t144 t145 _ A3.out).mono ?_); rintro e w33 ⟨rfl, hb⟩; refine ⟨_, rfl, ?_⟩; have n0_ := Aside0.mk (Kd.V_below (by (with_reducible repeat (first | apply Kd.V_alloc | apply Kd.V_drewN | apply Kd.V_drew)); exact HO140.out) hb); have n1_ := Aside0.mk (Kd.V_below (by (with_reducible repeat (first | apply Kd.V_alloc | apply Kd.V_drewN | apply Kd.V_drew)); exact HO143.out) hb); have n2_ := Aside0.mk (below_step (by repeat (first | (with_reducible first | exact HB.out | apply below_alloc | apply pw_below_drewN | apply below_drew1) | exact HB.out)) hb); clear HO140; clear HO143; clear HB; have HO140 := n0_; have HO143 := n1_; have HB := n2_; clear n0_ n1_ n2_; (try clear hb); (try clear hb2); (try clear hk); (try clear hi); obtain ⟨Ao34, co34, eo34⟩ := Kd.V_slice HO140.out; subst eo34))
    go_ret
    exact ⟨by first | rfl | (simp [errW_none, errW_some] <;> rfl) | (simp [*, errW_none, errW_some] <;> rfl), by repeat (first | (with_reducible first | exact HB.out | apply below_alloc | apply pw_below_drewN | apply below_drew1) | exact HB.out)⟩

/-! ### annealhelp_Place: function 16 -/
def annealhelp_Place.f (a0 : Int) (a1 : Int) : Option (Int) := if a1 = 0 then (none) else (if (Int.tmod a0 a1) < 0 then (some (wrap64 ((Int.tmod a0 a1) + a1))) else (some (Int.tmod a0 a1)))
set_option maxHeartbeats 8000000 in
set_option maxRecDepth 100000 in
theorem annealhelp_Place.calls (a0 : Int) (a1 : Int) (r : Int) (w : World) (h : annealhelp_Place.f a0 a1 = some r) :
    Calls Try.prog 16 #[.int .i64 a0, .int .i64 a1] w fun e w' => e = .returned (.int .i64 r) ∧ Drawn0 w w' := by
  have H : (if a1 = 0 then (none) else (if (Int.tmod a0 a1) < 0 then (some (wrap64 ((Int.tmod a0 a1) + a1))) else (some (Int.tmod a0 a1)))) = some r := h
  clear h
  by_cases c3 : a1 = 0
  · rw [if_pos c3] at H
    exact absurd H (by simp)
  · rw [if_neg c3] at H
    have c3b0 : (a1 == 0) = false := beq_eq_false_iff_ne.mpr c3
    have c3b1 : (a1 != 0) = true := bne_iff_ne.mpr c3
    by_cases c4 : (Int.tmod a0 a1) < 0
    · rw [if_pos c4] at H
      have c4b0 : decide ((Int.tmod a0 a1) < 0) = true := decide_eq_true c4
      clear c4
      obtain rfl := Option.some.inj H
      go_enter Try.func16, Try.ntmps16
      go_wp2
      go_ret
      exact ⟨by first | rfl | (simp; done) | (simp [*]; done) | (congr 1; (try unfold wrap64); omega), by repeat (first | exact Drawn0.refl _ | apply Drawn0.step)⟩
    · rw [if_neg c4] at H
      have c4b0 : decide ((Int.tmod a0 a1) < 0) = false := decide_eq_false c4
      clear c4
      obtain rfl := Option.some.inj H
      go_enter Try.func16, Try.ntmps16
      go_wp2
      go_ret
      exact ⟨by first | rfl | (simp; done) | (simp [*]; done) | (congr 1; (try unfold wrap64); omega), by repeat (first | exact Drawn0.refl _ | apply Drawn0.step)⟩

/-! ### annealref24_Epochs: function 18 -/
def annealref24_Epochs.f (a0 : Int) (a1 : Int) (a2 : Int) : Option (Int × Int) := if (mn (mx a1 1) 256) = 0 then (none) else (if ((((mn (mx a0 0) 4096) + (mn (mx a1 1) 256)) - 1) / (mn (mx a1 1) 256)) = 0 then (some (0, 0)) else (some (wrap64 (Int.tdiv (mx a2 0) ((((mn (mx a0 0) 4096) + (mn (mx a1 1) 256)) - 1) / (mn (mx a1 1) 256))), (mx a2 0) % ((((mn (mx a0 0) 4096) + (mn (mx a1 1) 256)) - 1) / (mn (mx a1 1) 256)))))
set_option maxHeartbeats 8000000 in
set_option maxRecDepth 100000 in
theorem annealref24_Epochs.calls (a0 : Int) (a1 : Int) (a2 : Int) (r1 : Int) (r2 : Int) (w : World) (h : annealref24_Epochs.f a0 a1 a2 = some (r1, r2)) :
    Calls Try.prog 18 #[.int .i64 a0, .int .i64 a1, .int .i64 a2] w fun e w' => e = .returned (.tuple #[.int .i64 r1, .int .i64 r2]) ∧ Below w.heap.size w w' := by
  have HB := Aside0.mk (Below.refl w.heap.size w)
  have H : (if (mn (mx a1 1) 256) = 0 then (none) else (if ((((mn (mx a0 0) 4096) + (mn (mx a1 1) 256)) - 1) / (mn (mx a1 1) 256)) = 0 then (some (0, 0)) else (some (wrap64 (Int.tdiv (mx a2 0) ((((mn (mx a0 0) 4096) + (mn (mx a1 1) 256)) - 1) / (mn (mx a1 1) 256))), (mx a2 0) % ((((mn (mx a0 0) 4096) + (mn (mx a1 1) 256)) - 1) / (mn (mx a1 1) 256)))))) = some (r1, r2) := h
  clear h
  obtain ⟨ji4, hji4⟩ : ∃ j_ : Int, (mx a0 0) = j_ := ⟨_, rfl⟩
  replace H : (if (mn (mx a1 1) 256) = 0 then (none) else (if ((((mn (ji4) 4096) + (mn (mx a1 1) 256)) - 1) / (mn (mx a1 1) 256)) = 0 then (some (0, 0)) else (some (wrap64 (Int.tdiv (mx a2 0) ((((mn (ji4) 4096) + (mn (mx a1 1) 256)) - 1) / (mn (mx a1 1) 256))), (mx a2 0) % ((((mn (ji4) 4096) + (mn (mx a1 1) 256)) - 1) / (mn (mx a1 1) 256)))))) = some (r1, r2) := by first | (rw [hji4] at H; exact H) | (simp only [hji4] at H ⊢; exact H)
  (try (have hji4l : 0 ≤ ji4 := by (rw [← hji4]; unfold mx; (repeat' split) <;> omega)))
  (try (have hji4m : 0 ≤ ji4 := by omega))
  have hji4_ : (if a0 < 0 then 0 else a0) = ji4 := hji4
  obtain ⟨ji5, hji5⟩ : ∃ j_ : Int, (mn (ji4) 4096) = j_ := ⟨_, rfl⟩
  replace H : (if (mn (mx a1 1) 256) = 0 then (none) else (if ((((ji5) + (mn (mx a1 1) 256)) - 1) / (mn (mx a1 1) 256)) = 0 then (some (0, 0)) else (some (wrap64 (Int.tdiv (mx a2 0) ((((ji5) + (mn (mx a1 1) 256)) - 1) / (mn (mx a1 1) 256))), (mx a2 0) % ((((ji5) + (mn (mx a1 1) 256)) - 1) / (mn (mx a1 1) 256)))))) = some (r1, r2) := by first | (rw [hji5] at H; exact H) | (simp only [hji5] at H ⊢; exact H)
  have hji5_ : (if 4096 < (ji4) then 4096 else (ji4)) = ji5 := hji5
  obtain ⟨ji6, hji6⟩ : ∃ j_ : Int, (mx a1 1) = j_ := ⟨_, rfl⟩
  replace H : (if (mn (ji6) 256) = 0 then (none) else (if ((((ji5) + (mn (ji6) 256)) - 1) / (mn (ji6) 256)) = 0 then (some (0, 0)) else (some (wrap64 (Int.tdiv (mx a2 0) ((((ji5) + (mn (ji6) 256)) - 1) / (mn (ji6) 256))), (mx a2 0) % ((((ji5) + (mn (ji6) 256)) - 1) / (mn (ji6) 256)))))) = some (r1, r2) := by first | (rw [hji6] at H; exact H) | (simp only [hji6] at H ⊢; exact H)
  (try (have hji6l : 1 ≤ ji6 := by (rw [← hji6]; unfold mx; (repeat' split) <;> omega)))
  (try (have hji6m : 0 ≤ ji6 := by omega))
  have hji6_ : (if a1 < 1 then 1 else a1) = ji6 := hji6
  obtain ⟨ji7, hji7⟩ : ∃ j_ : Int, (mn (ji6) 256) = j_ := ⟨_, rfl⟩
  replace H : (if (ji7) = 0 then (none) else (if ((((ji5) + (ji7)) - 1) / (ji7)) = 0 then (some (0, 0)) else (some (wrap64 (Int.tdiv (mx a2 0) ((((ji5) + (ji7)) - 1) / (ji7))), (mx a2 0) % ((((ji5) + (ji7)) - 1) / (ji7)))))) = some (r1, r2) := by first | (rw [hji7] at H; exact H) | (simp only [hji7] at H ⊢; exact H)
  have hji7_ : (if 256 < (ji6) then 256 else (ji6)) = ji7 := hji7
  obtain ⟨ji8, hji8⟩ : ∃ j_ : Int, (mx a2 0) = j_ := ⟨_, rfl⟩
  replace H : (if (ji7) = 0 then (none) else (if ((((ji5) + (ji7)) - 1) / (ji7)) = 0 then (some (0, 0)) else (some (wrap64 (Int.tdiv (ji8) ((((ji5) + (ji7)) - 1) / (ji7))), (ji8) % ((((ji5) + (ji7)) - 1) / (ji7)))))) = some (r1, r2) := by first | (rw [hji8] at H; exact H) | (simp only [hji8] at H ⊢; exact H)
  (try (have hji8l : 0 ≤ ji8 := by (rw [← hji8]; unfold mx; (repeat' split) <;> omega)))
  (try (have hji8m : 0 ≤ ji8 := by omega))
  have hji8_ : (if a2 < 0 then 0 else a2) = ji8 := hji8
  by_cases c9 : (ji7) = 0
  · rw [if_pos c9] at H
    exact absurd H (by simp)
  · rw [if_neg c9] at H
    have c9b0 : ((ji7) == 0) = false := beq_eq_false_iff_ne.mpr c9
    have c9b1 : ((ji7) != 0) = true := bne_iff_ne.mpr c9
    by_cases c10 : ((((ji5) + (ji7)) - 1) / (ji7)) = 0
    · rw [if_pos c10] at H
      have c10b0 : (((((ji5) + (ji7)) - 1) / (ji7)) == 0) = true := beq_iff_eq.mpr c10
      have c10b1 : (((((ji5) + (ji7)) - 1) / (ji7)) != 0) = false := bne_eq_false_iff_eq.mpr c10
      clear c10
      simp only [Option.some.injEq, Prod.mk.injEq] at H
      obtain ⟨rfl, rfl⟩ := H
      go_enter Try.func18, Try.ntmps18
      go_wp2
      repeat (go_quiet (fail); try go_wp2)
      go_ret2
      exact ⟨by first | rfl | (simp [errW_none, errW_some] <;> rfl) | (simp only [← hji4, ← hji5, ← hji6, ← hji7, ← hji8]; first | rfl | (simp [errW_none, errW_some] <;> rfl)) | (simp [*, errW_none, errW_some] <;> rfl), by repeat (first | (with_reducible first | exact HB.out | apply below_alloc | apply pw_below_drewN | apply below_drew1) | exact HB.out)⟩
    · rw [if_neg c10] at H
      have c10b0 : (((((ji5) + (ji7)) - 1) / (ji7)) == 0) = false := beq_eq_false_iff_ne.mpr c10
      have c10b1 : (((((ji5) + (ji7)) - 1) / (ji7)) != 0) = true := bne_iff_ne.mpr c10
      simp only [Option.some.injEq, Prod.mk.injEq] at H
      obtain ⟨rfl, rfl⟩ := H
      go_enter Try.func18, Try.ntmps18
      go_wp2
      repeat (go_quiet (fail); try go_wp2)
      go_ret2
      exact ⟨by first | rfl | (simp [errW_none, errW_some] <;> rfl) | (simp only [← hji4, ← hji5, ← hji6, ← hji7, ← hji8]; first | rfl | (simp [errW_none, errW_some] <;> rfl)) | (simp [*, errW_none, errW_some] <;> rfl), by repeat (first | (with_reducible first | exact HB.out | apply below_alloc | apply pw_below_drewN | apply below_drew1) | exact HB.out)⟩

end Go.Proofs.Ytjmihdhclbjaeaa.P
