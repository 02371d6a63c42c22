/- The walk of ChanceBetween: printed; its closure's part by hand. -/
import Derived.Test.YtoljndjpnbdjmaaQcbM3
import Derived.Test.YtoljndjpnbdjmaaQcbM4
import Derived.Test.YtoljndjpnbdjmaaQcbM5

namespace Go.Proofs.Ytoljndjpnbdjmaa.P
open Go.RowKit Go.Proofs.YtoljndjpnbdjmaaW.PrintWords Go.Proofs.YtoljndjpnbdjmaaW.PrintLast Go.Proofs.YtoljndjpnbdjmaaW.PrintMore
attribute [local go_sem] max2_int min2_int max_two min_two max_three min_three max_four min_four   -- for this text's walks alone
set_option linter.unusedVariables false
set_option linter.unusedSimpArgs false
theorem run_makeFunc_ (P : Program) (fn : Fn) (first cap : Array Value) (w : World) : (Instr.makeFunc fn first cap).run P w = .ok (.func fn first cap) w := rfl
theorem events_makeFunc_ (P : Program) (fn : Fn) (first cap : Array Value) (w : World) (es : Array Event) : (Instr.makeFunc fn first cap).events P w es = es := rfl
attribute [local go_sem] run_makeFunc_ events_makeFunc_
/-! ### anneallaw11_ChanceBetween$1: function 40 -/
def anneallaw11_ChanceBetween_1.f (a0 : Int) (a1 : Int) : Option (Int) := (annealref1_Zero.f a1 true).bind fun t338 => (some (Go.bits .andNot .u32 a0 t338))
set_option maxHeartbeats 8000000 in
set_option maxRecDepth 100000 in
theorem anneallaw11_ChanceBetween_1.calls (a0 : Int) (a1 : Int) (g : Nat) (r : Int) (w : World) (BK : w.heap[g]? = some (.cells #[.int .i64 a1] 3 (0, 0))) (h : anneallaw11_ChanceBetween_1.f a0 a1 = some r) :
    Calls Try.prog 40 #[.int .u32 a0, .pointer (some ⟨g, 0, none⟩)] w fun e w' => e = .returned (.int .u32 r) ∧ Drawn0 w w' := by
  have H : ((annealref1_Zero.f a1 true).bind fun t338 => (some (Go.bits .andNot .u32 a0 t338))) = some r := h
  clear h
  replace H := Option.bind_eq_some_iff.mp H
  obtain ⟨t338, A30, H⟩ := H
  replace H : (some (Go.bits .andNot .u32 a0 t338)) = some r := H
  have A3 := Aside0.mk A30
  clear A30
  obtain rfl := Option.some.inj H
  have hcz_ : w.cell? ⟨g, 0, none⟩ = some (.int .i64 a1) := (blk_cell BK 0).trans rfl
  have hfz_ := blk_frozen BK 0
  go_enter Try.func40, Try.ntmps40
  go_wp2_with (first | ((with_reducible refine gate_callee (f := 23) rfl ?_); refine goesL_ (some 6) rfl rfl Try.func23 (by kernel_rfl) rfl #[.int .i64 a1, .bool true] rfl (by (try simp only [List.map_toArray, List.map_cons, List.map_nil]); first | done | rfl | (simp only [List.length_drop, List.length_take]; rfl)) ?_; (with_reducible refine (annealref1_Zero.calls a1 true t338 _ A3.out).mono ?_); rintro e w' ⟨rfl, ⟨nd, rfl⟩⟩; refine ⟨_, rfl, ?_⟩))
  go_ret
  exact ⟨by first | rfl | (simp; done) | (simp [*]; done), by repeat (first | exact Drawn0.refl _ | apply Drawn0.step)⟩

/-! ### anneallaw11_ChanceBetween: function 12 -/
mutual
def anneallaw11_ChanceBetween.j0 : Nat → Int → Int → Int → Int → Option (Bool)
  | 0, _, _, _, _ => none
  | k + 1, x1, x2, x3, x341000 => (annealseat_Mild.f 2 x1).bind fun t341 => ((annealref1_To.f k 2 x341000 3 t341).bind fun bt342 => ((annealref1_To.f k 2 x341000 2 t341).bind fun bt349 => ((chance_Narrow.f k x341000 t341 (mn x2 x3)).bind fun t356 => ((chance_Narrow.f k x341000 t341 (mx x2 x3)).bind fun t357 => (if bt342.2.2.2.2.2 = true then (if t356 = bt342.1 then (if t357 = bt342.1 then ((anneallaw11_ChanceBetween_1.f t357 x341000).bind fun t358 => ((anneallaw11_ChanceBetween_1.f t356 x341000).bind fun t359 => (anneallaw11_ChanceBetween.j2 k (decide (t358 ≤ t359))))) else (if t357 = bt349.1 then ((anneallaw11_ChanceBetween_1.f t357 x341000).bind fun t360 => ((anneallaw11_ChanceBetween_1.f t356 x341000).bind fun t361 => (anneallaw11_ChanceBetween.j2 k (decide (t360 ≤ t361))))) else (anneallaw11_ChanceBetween.j2 k false))) else (if t356 = bt349.1 then (if t357 = bt342.1 then ((anneallaw11_ChanceBetween_1.f t357 x341000).bind fun t362 => ((anneallaw11_ChanceBetween_1.f t356 x341000).bind fun t363 => (anneallaw11_ChanceBetween.j2 k (decide (t362 ≤ t363))))) else (if t357 = bt349.1 then ((anneallaw11_ChanceBetween_1.f t357 x341000).bind fun t364 => ((anneallaw11_ChanceBetween_1.f t356 x341000).bind fun t365 => (anneallaw11_ChanceBetween.j2 k (decide (t364 ≤ t365))))) else (anneallaw11_ChanceBetween.j2 k false))) else (anneallaw11_ChanceBetween.j2 k false))) else (if t356 = bt342.1 then (if t357 = bt342.1 then (anneallaw11_ChanceBetween.j1 k (bt342.1 == bt349.1)) else (anneallaw11_ChanceBetween.j1 k false)) else (anneallaw11_ChanceBetween.j1 k false)))))))
def anneallaw11_ChanceBetween.j2 : Nat → Bool → Option (Bool)
  | 0, _ => none
  | k + 1, x8 => some x8
def anneallaw11_ChanceBetween.j1 : Nat → Bool → Option (Bool)
  | 0, _ => none
  | k + 1, x8 => some x8
end
def anneallaw11_ChanceBetween.f (k : Nat) (a0 : Bool) (a1 : Int) (a2 : Int) (a3 : Int) : Option (Bool) := (anneallaw11_known.f k).bind fun t339 => (if t339 = true then (if a0 = true then (anneallaw11_ChanceBetween.j0 k a1 a2 a3 0) else (anneallaw11_ChanceBetween.j0 k a1 a2 a3 1)) else (some false))
theorem anneallaw11_ChanceBetween.mono_l : ∀ k, (∀ y0 y1 y2 y3, LeO (anneallaw11_ChanceBetween.j0 k y0 y1 y2 y3) (anneallaw11_ChanceBetween.j0 (k + 1) y0 y1 y2 y3)) ∧ (∀ y0, LeO (anneallaw11_ChanceBetween.j2 k y0) (anneallaw11_ChanceBetween.j2 (k + 1) y0)) ∧ (∀ y0, LeO (anneallaw11_ChanceBetween.j1 k y0) (anneallaw11_ChanceBetween.j1 (k + 1) y0))
  | 0 => ⟨fun _ _ _ _ r h => by simp [anneallaw11_ChanceBetween.j0] at h, fun _ r h => by simp [anneallaw11_ChanceBetween.j2] at h, fun _ r h => by simp [anneallaw11_ChanceBetween.j1] at h⟩
  | k + 1 => by
    obtain ⟨ih0, ih1, ih2⟩ := anneallaw11_ChanceBetween.mono_l k
    refine ⟨?_, ?_, ?_⟩
    · intro y0 y1 y2 y3
      unfold anneallaw11_ChanceBetween.j0
      repeat' first
      | (with_reducible exact ih0 _ _ _ _)
      | (with_reducible exact ih1 _)
      | (with_reducible exact ih2 _)
      | (with_reducible exact anneallaw11_known.mono _)
      | (with_reducible exact annealref1_To.mono _ _ _ _ _)
      | (with_reducible exact chance_Narrow.mono _ _ _ _)
      | (with_reducible exact LeO.refl _)
      | (with_reducible exact LeO.none _)
      | (with_reducible refine LeO.ite ?_ ?_)
      | (with_reducible refine LeO.bind ?_ (fun _ => ?_))
      | exact ih0 _ _ _ _
      | exact ih1 _
      | exact ih2 _
      | exact anneallaw11_known.mono _
      | exact annealref1_To.mono _ _ _ _ _
      | exact chance_Narrow.mono _ _ _ _
      | exact LeO.none _
      | refine LeO.ite ?_ ?_
      | refine LeO.bind ?_ (fun _ => ?_)
    · intro y0
      unfold anneallaw11_ChanceBetween.j2
      repeat' first
      | (with_reducible exact ih0 _ _ _ _)
      | (with_reducible exact ih1 _)
      | (with_reducible exact ih2 _)
      | (with_reducible exact anneallaw11_known.mono _)
      | (with_reducible exact annealref1_To.mono _ _ _ _ _)
      | (with_reducible exact chance_Narrow.mono _ _ _ _)
      | (with_reducible exact LeO.refl _)
      | (with_reducible exact LeO.none _)
      | (with_reducible refine LeO.ite ?_ ?_)
      | (with_reducible refine LeO.bind ?_ (fun _ => ?_))
      | exact ih0 _ _ _ _
      | exact ih1 _
      | exact ih2 _
      | exact anneallaw11_known.mono _
      | exact annealref1_To.mono _ _ _ _ _
      | exact chance_Narrow.mono _ _ _ _
      | exact LeO.none _
      | refine LeO.ite ?_ ?_
      | refine LeO.bind ?_ (fun _ => ?_)
    · intro y0
      unfold anneallaw11_ChanceBetween.j1
      repeat' first
      | (with_reducible exact ih0 _ _ _ _)
      | (with_reducible exact ih1 _)
      | (with_reducible exact ih2 _)
      | (with_reducible exact anneallaw11_known.mono _)
      | (with_reducible exact annealref1_To.mono _ _ _ _ _)
      | (with_reducible exact chance_Narrow.mono _ _ _ _)
      | (with_reducible exact LeO.refl _)
      | (with_reducible exact LeO.none _)
      | (with_reducible refine LeO.ite ?_ ?_)
      | (with_reducible refine LeO.bind ?_ (fun _ => ?_))
      | exact ih0 _ _ _ _
      | exact ih1 _
      | exact ih2 _
      | exact anneallaw11_known.mono _
      | exact annealref1_To.mono _ _ _ _ _
      | exact chance_Narrow.mono _ _ _ _
      | exact LeO.none _
      | refine LeO.ite ?_ ?_
      | refine LeO.bind ?_ (fun _ => ?_)
theorem anneallaw11_ChanceBetween.mono : ∀ a0 a1 a2 a3 k, LeO (anneallaw11_ChanceBetween.f k a0 a1 a2 a3) (anneallaw11_ChanceBetween.f (k + 1) a0 a1 a2 a3) := by
  intro a0 a1 a2 a3 k
  obtain ⟨ih0, ih1, ih2⟩ := anneallaw11_ChanceBetween.mono_l k
  unfold anneallaw11_ChanceBetween.f
  repeat' first
      | (with_reducible exact ih0 _ _ _ _)
      | (with_reducible exact ih1 _)
      | (with_reducible exact ih2 _)
      | (with_reducible exact anneallaw11_known.mono _)
      | (with_reducible exact annealref1_To.mono _ _ _ _ _)
      | (with_reducible exact chance_Narrow.mono _ _ _ _)
      | (with_reducible exact LeO.refl _)
      | (with_reducible exact LeO.none _)
      | (with_reducible refine LeO.ite ?_ ?_)
      | (with_reducible refine LeO.bind ?_ (fun _ => ?_))
      | exact ih0 _ _ _ _
      | exact ih1 _
      | exact ih2 _
      | exact anneallaw11_known.mono _
      | exact annealref1_To.mono _ _ _ _ _
      | exact chance_Narrow.mono _ _ _ _
      | exact LeO.none _
      | refine LeO.ite ?_ ?_
      | refine LeO.bind ?_ (fun _ => ?_)
def anneallaw11_ChanceBetween.T9 : Bool × List (List Nat × List Nat) := (true, [([], []), ([], []), ([], []), ([], []), ([2, 3], [2, 3]), ([0, 1, 4], [0, 1, 4]), ([], []), ([], []), ([], []), ([], []), ([8, 9], [8, 9]), ([6, 7, 10, 5], [6, 7, 10]), ([5, 11, 0, 1, 2, 3, 4, 5], [5]), ([11, 12, 0, 1, 2, 3, 4, 5, 6, 7, 8, 9, 10, 11, 12], [11])])
def anneallaw11_ChanceBetween.B9 : List Nat := [0, 0, 0, 0, 12, 31, 0, 0, 0, 0, 768, 2047, 4095, 8191]
theorem anneallaw11_ChanceBetween.tab9 : rtab .any (opsOf Try.f12 9) = anneallaw11_ChanceBetween.T9 := by kernel_rfl
theorem anneallaw11_ChanceBetween.bits9 : waitsOk anneallaw11_ChanceBetween.T9.2 anneallaw11_ChanceBetween.B9 = true := by kernel_rfl
set_option maxHeartbeats 8000000 in
set_option maxRecDepth 100000 in
theorem anneallaw11_ChanceBetween.calls (k : Nat) (a0 : Bool) (a1 : Int) (a2 : Int) (a3 : Int) (r : Bool) (w : World) (h : anneallaw11_ChanceBetween.f k a0 a1 a2 a3 = some r) :
    Calls Try.prog 12 #[.bool a0, .int .u32 a1, .int .u32 a2, .int .u32 a3] w fun e w' => e = .returned (.bool r) ∧ Below w.heap.size w w' := by
  have hu30 := Try.underlying30
  have HB := Aside0.mk (Below.refl w.heap.size w)
  have H : ((anneallaw11_known.f k).bind fun t339 => (if t339 = true then (if a0 = true then (anneallaw11_ChanceBetween.j0 k a1 a2 a3 0) else (anneallaw11_ChanceBetween.j0 k a1 a2 a3 1)) else (some false))) = some r := h
  clear h
  replace H := Option.bind_eq_some_iff.mp H
  obtain ⟨t339, A50, H⟩ := H
  replace H : (if t339 = true then (if a0 = true then (anneallaw11_ChanceBetween.j0 k a1 a2 a3 0) else (anneallaw11_ChanceBetween.j0 k a1 a2 a3 1)) else (some false)) = some r := H
  have A5 := Aside0.mk A50
  clear A50
  by_cases c6 : t339 = true
  · subst c6
    have H1 : (if a0 = true then (anneallaw11_ChanceBetween.j0 k a1 a2 a3 0) else (anneallaw11_ChanceBetween.j0 k a1 a2 a3 1)) = some r := by rw [if_pos rfl] at H; exact H
    clear H
    have H := H1
    clear H1
    have HC7 := Aside0.mk H
    clear H
    go_enter Try.func12, Try.ntmps12
    go_upto_if 20 with (first | ((with_reducible refine gate_callee (f := 37) rfl ?_); refine goesL_ (some 18) rfl rfl Try.func37 (by kernel_rfl) rfl #[] rfl (by (try simp only [List.map_toArray, List.map_cons, List.map_nil]); first | done | rfl | (simp only [List.length_drop, List.length_take]; rfl)) ?_; (with_reducible refine (anneallaw11_known.calls k  true _ A5.out).mono ?_); rintro e w8 ⟨rfl, hb⟩; refine ⟨_, rfl, ?_⟩; have n0_ := Aside0.mk (below_step (by repeat (first | (with_reducible first | exact HB.out | apply below_alloc | apply pw_below_drewN | apply below_drew1) | exact HB.out)) hb); clear HB; have HB := n0_; clear n0_; (try clear hb); (try clear hb2); (try clear hk); (try clear hi)) | ((with_reducible refine gate_dst (N := 9) rfl ?_); refine box_event ?hg (N := 9) ?hd (cs := #[.int .i64 0]) (t := 3) ?hr ?_; (case hd => rfl); (case hg => rfl); (case hr => first | (go_simp; done) | (go_simp; rfl)); intro gb340 hg w9 hbox hb; have n0_ := Aside0.mk (below_step (by repeat (first | (with_reducible first | exact HB.out | apply below_alloc | apply pw_below_drewN | apply below_drew1) | exact HB.out)) hb); have n1_ := Aside0.mk (hbox); have n2_ := Aside0.mk ((by rw [hg]; exact (below_size (by repeat (first | (with_reducible first | exact HB.out | apply below_alloc | apply pw_below_drewN | apply below_drew1) | exact HB.out))) : w.heap.size ≤ gb340)); have n3_ := Aside0.mk ((by rw [hg]; exact (below_size (by repeat (first | (with_reducible first | exact HB.out | apply below_alloc | apply pw_below_drewN | apply below_drew1) | exact HB.out))) : w.heap.size ≤ gb340)); clear HB; have HB := n0_; have BK340 := n1_; have GW340 := n2_; have GE340 := n3_; clear n0_ n1_ n2_ n3_; clear hb hbox hg; have hcz10_0 : w9.cell? ⟨gb340, 0, none⟩ = some (.int .i64 0) := (blk_cell BK340.out 0).trans rfl; have hfz10_0 := blk_frozen BK340.out 0))
    (try simp only [Act.put, List.setIfInBounds_toArray, List.set_cons_zero, List.set_cons_succ])
    go_cut [] (fun wc => ∃ (kq : Nat) (x341000_6 : Int), Aside0 (anneallaw11_ChanceBetween.j0 kq a1 a2 a3 x341000_6 = some r) ∧ Aside0 (kq ≤ k) ∧ Aside0 (wc.heap[gb340]? = some (.cells #[.int .i64 x341000_6] 3 (0, 0))) ∧ Aside0 (Below w.heap.size w wc))
    case first =>
      have H := HC7.out
      clear HC7
      by_cases c11 : a0 = true
      · subst c11
        have H1 : (anneallaw11_ChanceBetween.j0 k a1 a2 a3 0) = some r := by rw [if_pos rfl] at H; exact H
        clear H
        have H := H1
        clear H1
        have H' := Aside0.mk H
        clear H
        have hcz12_0 : w9.cell? ⟨gb340, 0, none⟩ = some (.int .i64 0) := (blk_cell BK340.out 0).trans rfl
        have hfz12_0 := blk_frozen BK340.out 0
        go_wp2
        go_meet
        case rel => exact ⟨_, (0), H', ⟨by first | omega | exact Nat.le_refl _⟩, ⟨by (with_reducible repeat (first | refine blk_drewN ?_ _ | refine blk_drew ?_ | refine blk_alloc ?_ _)); refine blk_put (cs := #[.int .i64 1]) ?_ 0 _ rfl; (with_reducible repeat (first | refine blk_drewN ?_ _ | refine blk_drew ?_ | refine blk_alloc ?_ _)); refine blk_put (cs := #[.int .i64 0]) ?_ 0 _ rfl; (with_reducible repeat (first | refine blk_drewN ?_ _ | refine blk_drew ?_ | refine blk_alloc ?_ _)); exact BK340.out⟩, ⟨by repeat (first | (with_reducible first | exact HB.out | apply below_alloc | apply pw_below_drewN | apply below_drew1 | refine below_set ?_ GE340.out) | exact HB.out)⟩⟩
      · replace c11 := Bool.eq_false_iff.mpr c11
        subst c11
        have H1 : (anneallaw11_ChanceBetween.j0 k a1 a2 a3 1) = some r := by rw [if_neg (show ¬ (false = true) by decide)] at H; exact H
        clear H
        have H := H1
        clear H1
        have H' := Aside0.mk H
        clear H
        go_wp2
        go_meet
        case rel => exact ⟨_, (1), H', ⟨by first | omega | exact Nat.le_refl _⟩, ⟨by (with_reducible repeat (first | refine blk_drewN ?_ _ | refine blk_drew ?_ | refine blk_alloc ?_ _)); refine blk_put (cs := #[.int .i64 0]) ?_ 0 _ rfl; (with_reducible repeat (first | refine blk_drewN ?_ _ | refine blk_drew ?_ | refine blk_alloc ?_ _)); exact BK340.out⟩, ⟨by repeat (first | (with_reducible first | exact HB.out | apply below_alloc | apply pw_below_drewN | apply below_drew1 | refine below_set ?_ GE340.out) | exact HB.out)⟩⟩
    case rest =>
      clear HC7
      try clear c1
      try clear p2
      try clear c3
      try clear c6
      try clear c11
      try clear c12
      try clear hcz10_0
      try clear hcz12_0
      try clear hfz10_0
      try clear hfz12_0
      obtain ⟨kq, x341000_6, HA, HJ6, BK340, HB⟩ := hcut
      cases kq with
      | zero => exact absurd HA.out (by simp [anneallaw11_ChanceBetween.j0])
      | succ kj6 =>
        have H := HA.out
        clear HA
        simp only [anneallaw11_ChanceBetween.j0] at H
        replace H := Option.bind_eq_some_iff.mp H
        obtain ⟨t341, A130, H⟩ := H
        replace H : ((annealref1_To.f kj6 2 x341000_6 3 t341).bind fun bt342 => ((annealref1_To.f kj6 2 x341000_6 2 t341).bind fun bt349 => ((chance_Narrow.f kj6 x341000_6 t341 (mn a2 a3)).bind fun t356 => ((chance_Narrow.f kj6 x341000_6 t341 (mx a2 a3)).bind fun t357 => (if bt342.2.2.2.2.2 = true then (if t356 = bt342.1 then (if t357 = bt342.1 then ((anneallaw11_ChanceBetween_1.f t357 x341000_6).bind fun t358 => ((anneallaw11_ChanceBetween_1.f t356 x341000_6).bind fun t359 => (anneallaw11_ChanceBetween.j2 kj6 (decide (t358 ≤ t359))))) else (if t357 = bt349.1 then ((anneallaw11_ChanceBetween_1.f t357 x341000_6).bind fun t360 => ((anneallaw11_ChanceBetween_1.f t356 x341000_6).bind fun t361 => (anneallaw11_ChanceBetween.j2 kj6 (decide (t360 ≤ t361))))) else (anneallaw11_ChanceBetween.j2 kj6 false))) else (if t356 = bt349.1 then (if t357 = bt342.1 then ((anneallaw11_ChanceBetween_1.f t357 x341000_6).bind fun t362 => ((anneallaw11_ChanceBetween_1.f t356 x341000_6).bind fun t363 => (anneallaw11_ChanceBetween.j2 kj6 (decide (t362 ≤ t363))))) else (if t357 = bt349.1 then ((anneallaw11_ChanceBetween_1.f t357 x341000_6).bind fun t364 => ((anneallaw11_ChanceBetween_1.f t356 x341000_6).bind fun t365 => (anneallaw11_ChanceBetween.j2 kj6 (decide (t364 ≤ t365))))) else (anneallaw11_ChanceBetween.j2 kj6 false))) else (anneallaw11_ChanceBetween.j2 kj6 false))) else (if t356 = bt342.1 then (if t357 = bt342.1 then (anneallaw11_ChanceBetween.j1 kj6 (bt342.1 == bt349.1)) else (anneallaw11_ChanceBetween.j1 kj6 false)) else (anneallaw11_ChanceBetween.j1 kj6 false))))))) = some r := H
        have A13 := Aside0.mk A130
        clear A130
        replace H := Option.bind_eq_some_iff.mp H
        obtain ⟨⟨t342, t343, t344, t345, t346, t347⟩, A140, H⟩ := H
        replace H : ((annealref1_To.f kj6 2 x341000_6 2 t341).bind fun bt349 => ((chance_Narrow.f kj6 x341000_6 t341 (mn a2 a3)).bind fun t356 => ((chance_Narrow.f kj6 x341000_6 t341 (mx a2 a3)).bind fun t357 => (if t347 = true then (if t356 = t342 then (if t357 = t342 then ((anneallaw11_ChanceBetween_1.f t357 x341000_6).bind fun t358 => ((anneallaw11_ChanceBetween_1.f t356 x341000_6).bind fun t359 => (anneallaw11_ChanceBetween.j2 kj6 (decide (t358 ≤ t359))))) else (if t357 = bt349.1 then ((anneallaw11_ChanceBetween_1.f t357 x341000_6).bind fun t360 => ((anneallaw11_ChanceBetween_1.f t356 x341000_6).bind fun t361 => (anneallaw11_ChanceBetween.j2 kj6 (decide (t360 ≤ t361))))) else (anneallaw11_ChanceBetween.j2 kj6 false))) else (if t356 = bt349.1 then (if t357 = t342 then ((anneallaw11_ChanceBetween_1.f t357 x341000_6).bind fun t362 => ((anneallaw11_ChanceBetween_1.f t356 x341000_6).bind fun t363 => (anneallaw11_ChanceBetween.j2 kj6 (decide (t362 ≤ t363))))) else (if t357 = bt349.1 then ((anneallaw11_ChanceBetween_1.f t357 x341000_6).bind fun t364 => ((anneallaw11_ChanceBetween_1.f t356 x341000_6).bind fun t365 => (anneallaw11_ChanceBetween.j2 kj6 (decide (t364 ≤ t365))))) else (anneallaw11_ChanceBetween.j2 kj6 false))) else (anneallaw11_ChanceBetween.j2 kj6 false))) else (if t356 = t342 then (if t357 = t342 then (anneallaw11_ChanceBetween.j1 kj6 (t342 == bt349.1)) else (anneallaw11_ChanceBetween.j1 kj6 false)) else (anneallaw11_ChanceBetween.j1 kj6 false)))))) = some r := H
        have A14 := Aside0.mk A140
        clear A140
        replace H := Option.bind_eq_some_iff.mp H
        obtain ⟨⟨t349, t350, t351, t352, t353, t354⟩, A150, H⟩ := H
        replace H : ((chance_Narrow.f kj6 x341000_6 t341 (mn a2 a3)).bind fun t356 => ((chance_Narrow.f kj6 x341000_6 t341 (mx a2 a3)).bind fun t357 => (if t347 = true then (if t356 = t342 then (if t357 = t342 then ((anneallaw11_ChanceBetween_1.f t357 x341000_6).bind fun t358 => ((anneallaw11_ChanceBetween_1.f t356 x341000_6).bind fun t359 => (anneallaw11_ChanceBetween.j2 kj6 (decide (t358 ≤ t359))))) else (if t357 = t349 then ((anneallaw11_ChanceBetween_1.f t357 x341000_6).bind fun t360 => ((anneallaw11_ChanceBetween_1.f t356 x341000_6).bind fun t361 => (anneallaw11_ChanceBetween.j2 kj6 (decide (t360 ≤ t361))))) else (anneallaw11_ChanceBetween.j2 kj6 false))) else (if t356 = t349 then (if t357 = t342 then ((anneallaw11_ChanceBetween_1.f t357 x341000_6).bind fun t362 => ((anneallaw11_ChanceBetween_1.f t356 x341000_6).bind fun t363 => (anneallaw11_ChanceBetween.j2 kj6 (decide (t362 ≤ t363))))) else (if t357 = t349 then ((anneallaw11_ChanceBetween_1.f t357 x341000_6).bind fun t364 => ((anneallaw11_ChanceBetween_1.f t356 x341000_6).bind fun t365 => (anneallaw11_ChanceBetween.j2 kj6 (decide (t364 ≤ t365))))) else (anneallaw11_ChanceBetween.j2 kj6 false))) else (anneallaw11_ChanceBetween.j2 kj6 false))) else (if t356 = t342 then (if t357 = t342 then (anneallaw11_ChanceBetween.j1 kj6 (t342 == t349)) else (anneallaw11_ChanceBetween.j1 kj6 false)) else (anneallaw11_ChanceBetween.j1 kj6 false))))) = some r := H
        have A15 := Aside0.mk A150
        clear A150
        obtain ⟨ji16, hji16⟩ : ∃ j_ : Int, (mn a2 a3) = j_ := ⟨_, rfl⟩
        replace H : ((chance_Narrow.f kj6 x341000_6 t341 (ji16)).bind fun t356 => ((chance_Narrow.f kj6 x341000_6 t341 (mx a2 a3)).bind fun t357 => (if t347 = true then (if t356 = t342 then (if t357 = t342 then ((anneallaw11_ChanceBetween_1.f t357 x341000_6).bind fun t358 => ((anneallaw11_ChanceBetween_1.f t356 x341000_6).bind fun t359 => (anneallaw11_ChanceBetween.j2 kj6 (decide (t358 ≤ t359))))) else (if t357 = t349 then ((anneallaw11_ChanceBetween_1.f t357 x341000_6).bind fun t360 => ((anneallaw11_ChanceBetween_1.f t356 x341000_6).bind fun t361 => (anneallaw11_ChanceBetween.j2 kj6 (decide (t360 ≤ t361))))) else (anneallaw11_ChanceBetween.j2 kj6 false))) else (if t356 = t349 then (if t357 = t342 then ((anneallaw11_ChanceBetween_1.f t357 x341000_6).bind fun t362 => ((anneallaw11_ChanceBetween_1.f t356 x341000_6).bind fun t363 => (anneallaw11_ChanceBetween.j2 kj6 (decide (t362 ≤ t363))))) else (if t357 = t349 then ((anneallaw11_ChanceBetween_1.f t357 x341000_6).bind fun t364 => ((anneallaw11_ChanceBetween_1.f t356 x341000_6).bind fun t365 => (anneallaw11_ChanceBetween.j2 kj6 (decide (t364 ≤ t365))))) else (anneallaw11_ChanceBetween.j2 kj6 false))) else (anneallaw11_ChanceBetween.j2 kj6 false))) else (if t356 = t342 then (if t357 = t342 then (anneallaw11_ChanceBetween.j1 kj6 (t342 == t349)) else (anneallaw11_ChanceBetween.j1 kj6 false)) else (anneallaw11_ChanceBetween.j1 kj6 false))))) = some r := by first | (rw [hji16] at H; exact H) | (simp only [hji16] at H ⊢; exact H)
        (try rw [hji16] at A13)
        (try rw [hji16] at A14)
        (try rw [hji16] at A15)
        have hji16_ : (if a3 < a2 then a3 else a2) = ji16 := hji16
        replace H := Option.bind_eq_some_iff.mp H
        obtain ⟨t356, A170, H⟩ := H
        replace H : ((chance_Narrow.f kj6 x341000_6 t341 (mx a2 a3)).bind fun t357 => (if t347 = true then (if t356 = t342 then (if t357 = t342 then ((anneallaw11_ChanceBetween_1.f t357 x341000_6).bind fun t358 => ((anneallaw11_ChanceBetween_1.f t356 x341000_6).bind fun t359 => (anneallaw11_ChanceBetween.j2 kj6 (decide (t358 ≤ t359))))) else (if t357 = t349 then ((anneallaw11_ChanceBetween_1.f t357 x341000_6).bind fun t360 => ((anneallaw11_ChanceBetween_1.f t356 x341000_6).bind fun t361 => (anneallaw11_ChanceBetween.j2 kj6 (decide (t360 ≤ t361))))) else (anneallaw11_ChanceBetween.j2 kj6 false))) else (if t356 = t349 then (if t357 = t342 then ((anneallaw11_ChanceBetween_1.f t357 x341000_6).bind fun t362 => ((anneallaw11_ChanceBetween_1.f t356 x341000_6).bind fun t363 => (anneallaw11_ChanceBetween.j2 kj6 (decide (t362 ≤ t363))))) else (if t357 = t349 then ((anneallaw11_ChanceBetween_1.f t357 x341000_6).bind fun t364 => ((anneallaw11_ChanceBetween_1.f t356 x341000_6).bind fun t365 => (anneallaw11_ChanceBetween.j2 kj6 (decide (t364 ≤ t365))))) else (anneallaw11_ChanceBetween.j2 kj6 false))) else (anneallaw11_ChanceBetween.j2 kj6 false))) else (if t356 = t342 then (if t357 = t342 then (anneallaw11_ChanceBetween.j1 kj6 (t342 == t349)) else (anneallaw11_ChanceBetween.j1 kj6 false)) else (anneallaw11_ChanceBetween.j1 kj6 false)))) = some r := H
        have A17 := Aside0.mk A170
        clear A170
        obtain ⟨ji18, hji18⟩ : ∃ j_ : Int, (mx a2 a3) = j_ := ⟨_, rfl⟩
        replace H : ((chance_Narrow.f kj6 x341000_6 t341 (ji18)).bind fun t357 => (if t347 = true then (if t356 = t342 then (if t357 = t342 then ((anneallaw11_ChanceBetween_1.f t357 x341000_6).bind fun t358 => ((anneallaw11_ChanceBetween_1.f t356 x341000_6).bind fun t359 => (anneallaw11_ChanceBetween.j2 kj6 (decide (t358 ≤ t359))))) else (if t357 = t349 then ((anneallaw11_ChanceBetween_1.f t357 x341000_6).bind fun t360 => ((anneallaw11_ChanceBetween_1.f t356 x341000_6).bind fun t361 => (anneallaw11_ChanceBetween.j2 kj6 (decide (t360 ≤ t361))))) else (anneallaw11_ChanceBetween.j2 kj6 false))) else (if t356 = t349 then (if t357 = t342 then ((anneallaw11_ChanceBetween_1.f t357 x341000_6).bind fun t362 => ((anneallaw11_ChanceBetween_1.f t356 x341000_6).bind fun t363 => (anneallaw11_ChanceBetween.j2 kj6 (decide (t362 ≤ t363))))) else (if t357 = t349 then ((anneallaw11_ChanceBetween_1.f t357 x341000_6).bind fun t364 => ((anneallaw11_ChanceBetween_1.f t356 x341000_6).bind fun t365 => (anneallaw11_ChanceBetween.j2 kj6 (decide (t364 ≤ t365))))) else (anneallaw11_ChanceBetween.j2 kj6 false))) else (anneallaw11_ChanceBetween.j2 kj6 false))) else (if t356 = t342 then (if t357 = t342 then (anneallaw11_ChanceBetween.j1 kj6 (t342 == t349)) else (anneallaw11_ChanceBetween.j1 kj6 false)) else (anneallaw11_ChanceBetween.j1 kj6 false)))) = some r := by first | (rw [hji18] at H; exact H) | (simp only [hji18] at H ⊢; exact H)
        (try rw [hji18] at A13)
        (try rw [hji18] at A14)
        (try rw [hji18] at A15)
        (try rw [hji18] at A17)
        have hji18_ : (if a2 < a3 then a3 else a2) = ji18 := hji18
        replace H := Option.bind_eq_some_iff.mp H
        obtain ⟨t357, A190, H⟩ := H
        replace H : (if t347 = true then (if t356 = t342 then (if t357 = t342 then ((anneallaw11_ChanceBetween_1.f t357 x341000_6).bind fun t358 => ((anneallaw11_ChanceBetween_1.f t356 x341000_6).bind fun t359 => (anneallaw11_ChanceBetween.j2 kj6 (decide (t358 ≤ t359))))) else (if t357 = t349 then ((anneallaw11_ChanceBetween_1.f t357 x341000_6).bind fun t360 => ((anneallaw11_ChanceBetween_1.f t356 x341000_6).bind fun t361 => (anneallaw11_ChanceBetween.j2 kj6 (decide (t360 ≤ t361))))) else (anneallaw11_ChanceBetween.j2 kj6 false))) else (if t356 = t349 then (if t357 = t342 then ((anneallaw11_ChanceBetween_1.f t357 x341000_6).bind fun t362 => ((anneallaw11_ChanceBetween_1.f t356 x341000_6).bind fun t363 => (anneallaw11_ChanceBetween.j2 kj6 (decide (t362 ≤ t363))))) else (if t357 = t349 then ((anneallaw11_ChanceBetween_1.f t357 x341000_6).bind fun t364 => ((anneallaw11_ChanceBetween_1.f t356 x341000_6).bind fun t365 => (anneallaw11_ChanceBetween.j2 kj6 (decide (t364 ≤ t365))))) else (anneallaw11_ChanceBetween.j2 kj6 false))) else (anneallaw11_ChanceBetween.j2 kj6 false))) else (if t356 = t342 then (if t357 = t342 then (anneallaw11_ChanceBetween.j1 kj6 (t342 == t349)) else (anneallaw11_ChanceBetween.j1 kj6 false)) else (anneallaw11_ChanceBetween.j1 kj6 false))) = some r := H
        have A19 := Aside0.mk A190
        clear A190
        by_cases c20 : t347 = true
        · subst c20
          have H1 : (if t356 = t342 then (if t357 = t342 then ((anneallaw11_ChanceBetween_1.f t357 x341000_6).bind fun t358 => ((anneallaw11_ChanceBetween_1.f t356 x341000_6).bind fun t359 => (anneallaw11_ChanceBetween.j2 kj6 (decide (t358 ≤ t359))))) else (if t357 = t349 then ((anneallaw11_ChanceBetween_1.f t357 x341000_6).bind fun t360 => ((anneallaw11_ChanceBetween_1.f t356 x341000_6).bind fun t361 => (anneallaw11_ChanceBetween.j2 kj6 (decide (t360 ≤ t361))))) else (anneallaw11_ChanceBetween.j2 kj6 false))) else (if t356 = t349 then (if t357 = t342 then ((anneallaw11_ChanceBetween_1.f t357 x341000_6).bind fun t362 => ((anneallaw11_ChanceBetween_1.f t356 x341000_6).bind fun t363 => (anneallaw11_ChanceBetween.j2 kj6 (decide (t362 ≤ t363))))) else (if t357 = t349 then ((anneallaw11_ChanceBetween_1.f t357 x341000_6).bind fun t364 => ((anneallaw11_ChanceBetween_1.f t356 x341000_6).bind fun t365 => (anneallaw11_ChanceBetween.j2 kj6 (decide (t364 ≤ t365))))) else (anneallaw11_ChanceBetween.j2 kj6 false))) else (anneallaw11_ChanceBetween.j2 kj6 false))) = some r := by rw [if_pos rfl] at H; exact H
          clear H
          have H := H1
          clear H1
          have HC21 := Aside0.mk H
          clear H
          try go_wp2_with (first | ((with_reducible refine gate_callee (f := 27) rfl ?_); refine goesL_ (some 22) rfl rfl Try.func27 (by kernel_rfl) rfl #[.int .i64 2, .int .u32 a1] rfl (by (try simp only [List.map_toArray, List.map_cons, List.map_nil]); first | done | rfl | (simp only [List.length_drop, List.length_take]; rfl)) ?_; (with_reducible refine (annealseat_Mild.calls 2 a1 t341 _ A13.out).mono ?_); rintro e w' ⟨rfl, ⟨nd, rfl⟩⟩; refine ⟨_, rfl, ?_⟩; (try (rw [drewN_self wc]; generalize hq_ : World.drewN wc _ = wc; have n0_ : Aside0 (wc.heap[gb340]? = some (.cells #[.int .i64 x341000_6] 3 (0, 0))) := ⟨by rw [← hq_]; exact (by (with_reducible repeat (first | refine blk_drewN ?_ _ | refine blk_drew ?_ | refine blk_alloc ?_ _)); exact BK340.out)⟩; have n1_ : Aside0 (Below w.heap.size w wc) := ⟨by rw [← hq_]; exact (by repeat (first | (with_reducible first | exact HB.out | apply below_alloc | apply pw_below_drewN | apply below_drew1 | refine below_set ?_ GE340.out) | exact HB.out))⟩; clear BK340 HB hq_; have BK340 := n0_; have HB := n1_; clear n0_ n1_)); have hcz22_0 : wc.cell? ⟨gb340, 0, none⟩ = some (.int .i64 x341000_6) := (blk_cell BK340.out 0).trans rfl; have hfz22_0 := blk_frozen BK340.out 0) | ((with_reducible refine gate_callee (f := 29) rfl ?_); refine goesL_ (some 26) rfl rfl Try.func29 (by kernel_rfl) rfl #[.int .i64 2, .int .i64 x341000_6, .int .i64 3, .int .u32 t341] rfl (by (try simp only [List.map_toArray, List.map_cons, List.map_nil]); first | done | rfl | (simp only [List.length_drop, List.length_take]; rfl)) ?_; (with_reducible refine (annealref1_To.calls kj6 2 x341000_6 3 t341 t342 t343 t344 t345 t346 true _ A14.out).mono ?_); rintro e w23 ⟨rfl, hb⟩; refine ⟨_, rfl, ?_⟩; have n0_ := Aside0.mk (blk_below (g := gb340) (o := .cells #[.int .i64 x341000_6] 3 (0, 0)) (by (with_reducible repeat (first | refine blk_drewN ?_ _ | refine blk_drew ?_ | refine blk_alloc ?_ _)); exact BK340.out) hb); have n1_ := Aside0.mk (below_step (by repeat (first | (with_reducible first | exact HB.out | apply below_alloc | apply pw_below_drewN | apply below_drew1 | refine below_set ?_ GE340.out) | exact HB.out)) hb); clear BK340; clear HB; have BK340 := n0_; have HB := n1_; clear n0_ n1_; (try clear hb); (try clear hb2); (try clear hk); (try clear hi)) | ((with_reducible refine gate_dst (N := 12) rfl ?_); refine box_event ?hg (N := 12) ?hd (cs := #[.bool false, .bool false, .bool false, .bool false, .bool false]) (t := 30) ?hr ?_; (case hd => rfl); (case hg => rfl); (case hr => first | (go_simp; done) | (go_simp; rfl)); intro gb348 hg w24 hbox hb; have n0_ := Aside0.mk (blk_below (g := gb340) (o := .cells #[.int .i64 x341000_6] 3 (0, 0)) (by (with_reducible repeat (first | refine blk_drewN ?_ _ | refine blk_drew ?_ | refine blk_alloc ?_ _)); exact BK340.out) hb); have n1_ := Aside0.mk (below_step (by repeat (first | (with_reducible first | exact HB.out | apply below_alloc | apply pw_below_drewN | apply below_drew1 | refine below_set ?_ GE340.out) | exact HB.out)) hb); have n2_ := Aside0.mk (hbox); have n3_ := Aside0.mk ((by rw [hg]; exact (below_size (by repeat (first | (with_reducible first | exact HB.out | apply below_alloc | apply pw_below_drewN | apply below_drew1 | refine below_set ?_ GE340.out) | exact HB.out))) : w.heap.size ≤ gb348)); have n4_ := Aside0.mk ((by rw [hg]; exact (below_size (by repeat (first | (with_reducible first | exact HB.out | apply below_alloc | apply pw_below_drewN | apply below_drew1 | refine below_set ?_ GE340.out) | exact HB.out))) : w.heap.size ≤ gb348)); have n5_ := Aside0.mk ((by rw [hg]; exact Nat.ne_of_lt (blk_lt (g := gb340) (o := .cells #[.int .i64 x341000_6] 3 (0, 0)) (by (with_reducible repeat (first | refine blk_drewN ?_ _ | refine blk_drew ?_ | refine blk_alloc ?_ _)); exact BK340.out)) : gb340 ≠ gb348)); have n6_ := Aside0.mk ((by rw [hg]; exact Nat.ne_of_gt (blk_lt (g := gb340) (o := .cells #[.int .i64 x341000_6] 3 (0, 0)) (by (with_reducible repeat (first | refine blk_drewN ?_ _ | refine blk_drew ?_ | refine blk_alloc ?_ _)); exact BK340.out)) : gb348 ≠ gb340)); clear BK340; clear HB; have BK340 := n0_; have HB := n1_; have BK348 := n2_; have GW348 := n3_; have GE348 := n4_; have NB340_348 := n5_; have NB348_340 := n6_; clear n0_ n1_ n2_ n3_ n4_ n5_ n6_; clear hb hbox hg; have hnb25 := NB348_340.out; have hnc25 := NB340_348.out; have hcz26_0 : w24.cell? ⟨gb348, 0, none⟩ = some (.bool false) := (blk_cell BK348.out 0).trans rfl; have hcz26_1 : w24.cell? ⟨gb348, 1, none⟩ = some (.bool false) := (blk_cell BK348.out 1).trans rfl; have hcz26_2 : w24.cell? ⟨gb348, 2, none⟩ = some (.bool false) := (blk_cell BK348.out 2).trans rfl; have hcz26_3 : w24.cell? ⟨gb348, 3, none⟩ = some (.bool false) := (blk_cell BK348.out 3).trans rfl; have hcz26_4 : w24.cell? ⟨gb348, 4, none⟩ = some (.bool false) := (blk_cell BK348.out 4).trans rfl; have hfz26_0 := blk_frozen BK348.out 0; have hfz26_1 := blk_frozen BK348.out 1; have hfz26_2 := blk_frozen BK348.out 2; have hfz26_3 := blk_frozen BK348.out 3; have hfz26_4 := blk_frozen BK348.out 4; have hcz27_0 : w24.cell? ⟨gb340, 0, none⟩ = some (.int .i64 x341000_6) := (blk_cell BK340.out 0).trans rfl; have hfz27_0 := blk_frozen BK340.out 0) | ((with_reducible refine gate_callee (f := 29) rfl ?_); refine goesL_ (some 32) rfl rfl Try.func29 (by kernel_rfl) rfl #[.int .i64 2, .int .i64 x341000_6, .int .i64 2, .int .u32 t341] rfl (by (try simp only [List.map_toArray, List.map_cons, List.map_nil]); first | done | rfl | (simp only [List.length_drop, List.length_take]; rfl)) ?_; (with_reducible refine (annealref1_To.calls kj6 2 x341000_6 2 t341 t349 t350 t351 t352 t353 t354 _ A15.out).mono ?_); rintro e w28 ⟨rfl, hb⟩; refine ⟨_, rfl, ?_⟩; have n0_ := Aside0.mk (blk_below (g := gb340) (o := .cells #[.int .i64 x341000_6] 3 (0, 0)) (by (with_reducible repeat (first | refine blk_drewN ?_ _ | refine blk_drew ?_ | refine blk_alloc ?_ _)); refine blk_far ?_ NB340_348.out _; (with_reducible repeat (first | refine blk_drewN ?_ _ | refine blk_drew ?_ | refine blk_alloc ?_ _)); refine blk_far ?_ NB340_348.out _; (with_reducible repeat (first | refine blk_drewN ?_ _ | refine blk_drew ?_ | refine blk_alloc ?_ _)); refine blk_far ?_ NB340_348.out _; (with_reducible repeat (first | refine blk_drewN ?_ _ | refine blk_drew ?_ | refine blk_alloc ?_ _)); refine blk_far ?_ NB340_348.out _; (with_reducible repeat (first | refine blk_drewN ?_ _ | refine blk_drew ?_ | refine blk_alloc ?_ _)); refine blk_far ?_ NB340_348.out _; (with_reducible repeat (first | refine blk_drewN ?_ _ | refine blk_drew ?_ | refine blk_alloc ?_ _)); exact BK340.out) hb); have n1_ := Aside0.mk (blk_below (g := gb348) (o := .cells #[.bool t343, .bool t344, .bool t345, .bool t346, .bool true] 30 (0, 0)) (by (with_reducible repeat (first | refine blk_drewN ?_ _ | refine blk_drew ?_ | refine blk_alloc ?_ _)); refine blk_put (cs := #[.bool t343, .bool t344, .bool t345, .bool t346, .bool false]) ?_ 4 _ rfl; (with_reducible repeat (first | refine blk_drewN ?_ _ | refine blk_drew ?_ | refine blk_alloc ?_ _)); refine blk_put (cs := #[.bool t343, .bool t344, .bool t345, .bool false, .bool false]) ?_ 3 _ rfl; (with_reducible repeat (first | refine blk_drewN ?_ _ | refine blk_drew ?_ | refine blk_alloc ?_ _)); refine blk_put (cs := #[.bool t343, .bool t344, .bool false, .bool false, .bool false]) ?_ 2 _ rfl; (with_reducible repeat (first | refine blk_drewN ?_ _ | refine blk_drew ?_ | refine blk_alloc ?_ _)); refine blk_put (cs := #[.bool t343, .bool false, .bool false, .bool false, .bool false]) ?_ 1 _ rfl; (with_reducible repeat (first | refine blk_drewN ?_ _ | refine blk_drew ?_ | refine blk_alloc ?_ _)); refine blk_put (cs := #[.bool false, .bool false, .bool false, .bool false, .bool false]) ?_ 0 _ rfl; (with_reducible repeat (first | refine blk_drewN ?_ _ | refine blk_drew ?_ | refine blk_alloc ?_ _)); exact BK348.out) hb); have n2_ := Aside0.mk (below_step (by repeat (first | (with_reducible first | exact HB.out | apply below_alloc | apply pw_below_drewN | apply below_drew1 | refine below_set ?_ GE340.out | refine below_set ?_ GE348.out) | exact HB.out)) hb); clear BK340; clear BK348; clear HB; have BK340 := n0_; have BK348 := n1_; have HB := n2_; clear n0_ n1_ n2_; (try clear hb); (try clear hb2); (try clear hk); (try clear hi)) | ((with_reducible refine gate_dst (N := 14) rfl ?_); refine box_event ?hg (N := 14) ?hd (cs := #[.bool false, .bool false, .bool false, .bool false, .bool false]) (t := 30) ?hr ?_; (case hd => rfl); (case hg => rfl); (case hr => first | (go_simp; done) | (go_simp; rfl)); intro gb355 hg w29 hbox hb; have n0_ := Aside0.mk (blk_below (g := gb340) (o := .cells #[.int .i64 x341000_6] 3 (0, 0)) (by (with_reducible repeat (first | refine blk_drewN ?_ _ | refine blk_drew ?_ | refine blk_alloc ?_ _)); exact BK340.out) hb); have n1_ := Aside0.mk (blk_below (g := gb348) (o := .cells #[.bool t343, .bool t344, .bool t345, .bool t346, .bool true] 30 (0, 0)) (by (with_reducible repeat (first | refine blk_drewN ?_ _ | refine blk_drew ?_ | refine blk_alloc ?_ _)); exact BK348.out) hb); have n2_ := Aside0.mk (below_step (by repeat (first | (with_reducible first | exact HB.out | apply below_alloc | apply pw_below_drewN | apply below_drew1 | refine below_set ?_ GE340.out | refine below_set ?_ GE348.out) | exact HB.out)) hb); have n3_ := Aside0.mk (hbox); have n4_ := Aside0.mk ((by rw [hg]; exact (below_size (by repeat (first | (with_reducible first | exact HB.out | apply below_alloc | apply pw_below_drewN | apply below_drew1 | refine below_set ?_ GE340.out | refine below_set ?_ GE348.out) | exact HB.out))) : w.heap.size ≤ gb355)); have n5_ := Aside0.mk ((by rw [hg]; exact (below_size (by repeat (first | (with_reducible first | exact HB.out | apply below_alloc | apply pw_below_drewN | apply below_drew1 | refine below_set ?_ GE340.out | refine below_set ?_ GE348.out) | exact HB.out))) : w.heap.size ≤ gb355)); have n6_ := Aside0.mk ((by rw [hg]; exact Nat.ne_of_lt (blk_lt (g := gb340) (o := .cells #[.int .i64 x341000_6] 3 (0, 0)) (by (with_reducible repeat (first | refine blk_drewN ?_ _ | refine blk_drew ?_ | refine blk_alloc ?_ _)); exact BK340.out)) : gb340 ≠ gb355)); have n7_ := Aside0.mk ((by rw [hg]; exact Nat.ne_of_gt (blk_lt (g := gb340) (o := .cells #[.int .i64 x341000_6] 3 (0, 0)) (by (with_reducible repeat (first | refine blk_drewN ?_ _ | refine blk_drew ?_ | refine blk_alloc ?_ _)); exact BK340.out)) : gb355 ≠ gb340)); have n8_ := Aside0.mk ((by rw [hg]; exact Nat.ne_of_lt (blk_lt (g := gb348) (o := .cells #[.bool t343, .bool t344, .bool t345, .bool t346, .bool true] 30 (0, 0)) (by (with_reducible repeat (first | refine blk_drewN ?_ _ | refine blk_drew ?_ | refine blk_alloc ?_ _)); exact BK348.out)) : gb348 ≠ gb355)); have n9_ := Aside0.mk ((by rw [hg]; exact Nat.ne_of_gt (blk_lt (g := gb348) (o := .cells #[.bool t343, .bool t344, .bool t345, .bool t346, .bool true] 30 (0, 0)) (by (with_reducible repeat (first | refine blk_drewN ?_ _ | refine blk_drew ?_ | refine blk_alloc ?_ _)); exact BK348.out)) : gb355 ≠ gb348)); clear BK340; clear BK348; clear HB; have BK340 := n0_; have BK348 := n1_; have HB := n2_; have BK355 := n3_; have GW355 := n4_; have GE355 := n5_; have NB340_355 := n6_; have NB355_340 := n7_; have NB348_355 := n8_; have NB355_348 := n9_; clear n0_ n1_ n2_ n3_ n4_ n5_ n6_ n7_ n8_ n9_; clear hb hbox hg; have hnb30 := NB355_340.out; have hnc30 := NB340_355.out; have hnb31 := NB355_348.out; have hnc31 := NB348_355.out; have hcz32_0 : w29.cell? ⟨gb355, 0, none⟩ = some (.bool false) := (blk_cell BK355.out 0).trans rfl; have hcz32_1 : w29.cell? ⟨gb355, 1, none⟩ = some (.bool false) := (blk_cell BK355.out 1).trans rfl; have hcz32_2 : w29.cell? ⟨gb355, 2, none⟩ = some (.bool false) := (blk_cell BK355.out 2).trans rfl; have hcz32_3 : w29.cell? ⟨gb355, 3, none⟩ = some (.bool false) := (blk_cell BK355.out 3).trans rfl; have hcz32_4 : w29.cell? ⟨gb355, 4, none⟩ = some (.bool false) := (blk_cell BK355.out 4).trans rfl; have hfz32_0 := blk_frozen BK355.out 0; have hfz32_1 := blk_frozen BK355.out 1; have hfz32_2 := blk_frozen BK355.out 2; have hfz32_3 := blk_frozen BK355.out 3; have hfz32_4 := blk_frozen BK355.out 4))
          have n0_ : Aside0 ((((((w29.setCell ⟨gb355, 0, none⟩ (.bool t350)).setCell ⟨gb355, 1, none⟩ (.bool t351)).setCell ⟨gb355, 2, none⟩ (.bool t352)).setCell ⟨gb355, 3, none⟩ (.bool t353)).setCell ⟨gb355, 4, none⟩ (.bool t354)).heap[gb340]? = some (.cells #[.int .i64 x341000_6] 3 (0, 0))) := ⟨by (with_reducible repeat (first | refine blk_drewN ?_ _ | refine blk_drew ?_ | refine blk_alloc ?_ _)); refine blk_far ?_ NB340_355.out _; (with_reducible repeat (first | refine blk_drewN ?_ _ | refine blk_drew ?_ | refine blk_alloc ?_ _)); refine blk_far ?_ NB340_355.out _; (with_reducible repeat (first | refine blk_drewN ?_ _ | refine blk_drew ?_ | refine blk_alloc ?_ _)); refine blk_far ?_ NB340_355.out _; (with_reducible repeat (first | refine blk_drewN ?_ _ | refine blk_drew ?_ | refine blk_alloc ?_ _)); refine blk_far ?_ NB340_355.out _; (with_reducible repeat (first | refine blk_drewN ?_ _ | refine blk_drew ?_ | refine blk_alloc ?_ _)); refine blk_far ?_ NB340_355.out _; (with_reducible repeat (first | refine blk_drewN ?_ _ | refine blk_drew ?_ | refine blk_alloc ?_ _)); exact BK340.out⟩
          have n1_ : Aside0 ((((((w29.setCell ⟨gb355, 0, none⟩ (.bool t350)).setCell ⟨gb355, 1, none⟩ (.bool t351)).setCell ⟨gb355, 2, none⟩ (.bool t352)).setCell ⟨gb355, 3, none⟩ (.bool t353)).setCell ⟨gb355, 4, none⟩ (.bool t354)).heap[gb348]? = some (.cells #[.bool t343, .bool t344, .bool t345, .bool t346, .bool true] 30 (0, 0))) := ⟨by (with_reducible repeat (first | refine blk_drewN ?_ _ | refine blk_drew ?_ | refine blk_alloc ?_ _)); refine blk_far ?_ NB348_355.out _; (with_reducible repeat (first | refine blk_drewN ?_ _ | refine blk_drew ?_ | refine blk_alloc ?_ _)); refine blk_far ?_ NB348_355.out _; (with_reducible repeat (first | refine blk_drewN ?_ _ | refine blk_drew ?_ | refine blk_alloc ?_ _)); refine blk_far ?_ NB348_355.out _; (with_reducible repeat (first | refine blk_drewN ?_ _ | refine blk_drew ?_ | refine blk_alloc ?_ _)); refine blk_far ?_ NB348_355.out _; (with_reducible repeat (first | refine blk_drewN ?_ _ | refine blk_drew ?_ | refine blk_alloc ?_ _)); refine blk_far ?_ NB348_355.out _; (with_reducible repeat (first | refine blk_drewN ?_ _ | refine blk_drew ?_ | refine blk_alloc ?_ _)); exact BK348.out⟩
          have n2_ : Aside0 ((((((w29.setCell ⟨gb355, 0, none⟩ (.bool t350)).setCell ⟨gb355, 1, none⟩ (.bool t351)).setCell ⟨gb355, 2, none⟩ (.bool t352)).setCell ⟨gb355, 3, none⟩ (.bool t353)).setCell ⟨gb355, 4, none⟩ (.bool t354)).heap[gb355]? = some (.cells #[.bool t350, .bool t351, .bool t352, .bool t353, .bool t354] 30 (0, 0))) := ⟨by (with_reducible repeat (first | refine blk_drewN ?_ _ | refine blk_drew ?_ | refine blk_alloc ?_ _)); refine blk_put (cs := #[.bool t350, .bool t351, .bool t352, .bool t353, .bool false]) ?_ 4 _ rfl; (with_reducible repeat (first | refine blk_drewN ?_ _ | refine blk_drew ?_ | refine blk_alloc ?_ _)); refine blk_put (cs := #[.bool t350, .bool t351, .bool t352, .bool false, .bool false]) ?_ 3 _ rfl; (with_reducible repeat (first | refine blk_drewN ?_ _ | refine blk_drew ?_ | refine blk_alloc ?_ _)); refine blk_put (cs := #[.bool t350, .bool t351, .bool false, .bool false, .bool false]) ?_ 2 _ rfl; (with_reducible repeat (first | refine blk_drewN ?_ _ | refine blk_drew ?_ | refine blk_alloc ?_ _)); refine blk_put (cs := #[.bool t350, .bool false, .bool false, .bool false, .bool false]) ?_ 1 _ rfl; (with_reducible repeat (first | refine blk_drewN ?_ _ | refine blk_drew ?_ | refine blk_alloc ?_ _)); refine blk_put (cs := #[.bool false, .bool false, .bool false, .bool false, .bool false]) ?_ 0 _ rfl; (with_reducible repeat (first | refine blk_drewN ?_ _ | refine blk_drew ?_ | refine blk_alloc ?_ _)); exact BK355.out⟩
          have n3_ : Aside0 (Below w.heap.size w (((((w29.setCell ⟨gb355, 0, none⟩ (.bool t350)).setCell ⟨gb355, 1, none⟩ (.bool t351)).setCell ⟨gb355, 2, none⟩ (.bool t352)).setCell ⟨gb355, 3, none⟩ (.bool t353)).setCell ⟨gb355, 4, none⟩ (.bool t354))) := ⟨by repeat (first | (with_reducible first | exact HB.out | apply below_alloc | apply pw_below_drewN | apply below_drew1 | refine below_set ?_ GE340.out | refine below_set ?_ GE348.out | refine below_set ?_ GE355.out) | exact HB.out)⟩
          (try clear BK340)
          (try clear BK348)
          (try clear BK355)
          (try clear HB)
          generalize (((((w29.setCell ⟨gb355, 0, none⟩ (.bool t350)).setCell ⟨gb355, 1, none⟩ (.bool t351)).setCell ⟨gb355, 2, none⟩ (.bool t352)).setCell ⟨gb355, 3, none⟩ (.bool t353)).setCell ⟨gb355, 4, none⟩ (.bool t354)) = w33 at n0_ n1_ n2_ n3_ ⊢
          have BK340 := n0_
          have BK348 := n1_
          have BK355 := n2_
          have HB := n3_
          clear n0_ n1_ n2_ n3_
          have n0_ := Aside0.mk (blk_drew BK340.out)
          have n1_ := Aside0.mk (blk_drew BK348.out)
          have n2_ := Aside0.mk (blk_drew BK355.out)
          have n3_ := Aside0.mk (below_drew1 HB.out)
          clear BK340
          clear BK348
          clear BK355
          clear HB
          have BK340 := n0_
          have BK348 := n1_
          have BK355 := n2_
          have HB := n3_
          clear n0_ n1_ n2_ n3_
          refine start_ (n := 14) (S := fun w' => w'.cell? ⟨gb340, 0, none⟩ = some (.int .i64 x341000_6)) (ds := []) #[false, false, false, false, false, false, false, false, false, false, false, false, false, false] (by kernel_rfl) rfl rfl ((blk_cell BK340.out 0).trans rfl) (fun hHeld => ?_); refine with_tabW anneallaw11_ChanceBetween.tab9 anneallaw11_ChanceBetween.bits9 (fun HT_ HW_ => ?_)
          generalize w33.drew = w34 at BK340 BK348 BK355 HB hHeld ⊢
          refine pure_ (i := 1) (N := some 36) (v := ?_) (a' := ?_) #[false, true, false, false, false, false, false, false, false, false, false, false, false, false] rfl rfl (any_of HT_.out (by kernel_rfl)) (fun _ _ _ h => h) (Or.inl ⟨by rfl, ?_⟩) ?_ ?_
          rotate_left
          · intro w'
            go_simp
            with_reducible rfl
          rotate_left
          · simp only [Act.put, List.setIfInBounds_toArray, List.set_cons_zero, List.set_cons_succ, i64_w, i32_w]
            rfl
          refine pure_ (i := 2) (N := some 37) (v := ?_) (a' := ?_) #[false, true, true, false, false, false, false, false, false, false, false, false, false, false] rfl rfl (any_of HT_.out (by kernel_rfl)) (fun _ _ _ h => h) (Or.inl ⟨by rfl, ?_⟩) ?_ ?_
          rotate_left
          · intro w'
            go_simp
            with_reducible rfl
          rotate_left
          · simp only [Act.put, List.setIfInBounds_toArray, List.set_cons_zero, List.set_cons_succ, i64_w, i32_w]
            rfl
          refine pure_ (i := 3) (N := some 38) (v := ?_) (a' := ?_) #[false, true, true, true, false, false, false, false, false, false, false, false, false, false] rfl rfl (any_of HT_.out (by kernel_rfl)) (fun _ _ _ h => h) (Or.inl ⟨by rfl, ?_⟩) ?_ ?_
          rotate_left
          · intro w'
            go_simp
            with_reducible rfl
          rotate_left
          · simp only [Act.put, List.setIfInBounds_toArray, List.set_cons_zero, List.set_cons_succ, i64_w, i32_w]
            rfl
          refine pure_ (i := 4) (N := some 39) (v := ?_) (a' := ?_) #[false, true, true, true, true, false, false, false, false, false, false, false, false, false] rfl rfl (any_of HT_.out (by kernel_rfl)) (fun _ _ _ h => h) (Or.inl ⟨by rfl, ?_⟩) ?_ ?_
          rotate_left
          · intro w'
            go_simp
            with_reducible rfl
          rotate_left
          · simp only [Act.put, List.setIfInBounds_toArray, List.set_cons_zero, List.set_cons_succ, i64_w, i32_w]
            rfl
          refine pure_ (i := 7) (N := some 42) (v := ?_) (a' := ?_) #[false, true, true, true, true, false, false, true, false, false, false, false, false, false] rfl rfl (any_of HT_.out (by kernel_rfl)) (fun _ _ _ h => h) (Or.inl ⟨by rfl, ?_⟩) ?_ ?_
          rotate_left
          · intro w'
            go_simp
            with_reducible rfl
          rotate_left
          · simp only [Act.put, List.setIfInBounds_toArray, List.set_cons_zero, List.set_cons_succ, i64_w, i32_w]
            rfl
          refine pure_ (i := 8) (N := some 43) (v := ?_) (a' := ?_) #[false, true, true, true, true, false, false, true, true, false, false, false, false, false] rfl rfl (any_of HT_.out (by kernel_rfl)) (fun _ _ _ h => h) (Or.inl ⟨by rfl, ?_⟩) ?_ ?_
          rotate_left
          · intro w'
            go_simp
            with_reducible rfl
          rotate_left
          · simp only [Act.put, List.setIfInBounds_toArray, List.set_cons_zero, List.set_cons_succ, i64_w, i32_w]
            rfl
          refine pure_ (i := 9) (N := some 44) (v := ?_) (a' := ?_) #[false, true, true, true, true, false, false, true, true, true, false, false, false, false] rfl rfl (any_of HT_.out (by kernel_rfl)) (fun _ _ _ h => h) (Or.inl ⟨by rfl, ?_⟩) ?_ ?_
          rotate_left
          · intro w'
            go_simp
            with_reducible rfl
          rotate_left
          · simp only [Act.put, List.setIfInBounds_toArray, List.set_cons_zero, List.set_cons_succ, i64_w, i32_w]
            rfl
          refine pure_ (i := 10) (N := some 45) (v := ?_) (a' := ?_) #[false, true, true, true, true, false, false, true, true, true, true, false, false, false] rfl rfl (any_of HT_.out (by kernel_rfl)) (fun _ _ _ h => h) (Or.inl ⟨by rfl, ?_⟩) ?_ ?_
          rotate_left
          · intro w'
            go_simp
            with_reducible rfl
          rotate_left
          · simp only [Act.put, List.setIfInBounds_toArray, List.set_cons_zero, List.set_cons_succ, i64_w, i32_w]
            rfl
          refine take_ (i := 0) (N := some 35) (v := ?_) (a' := ?_) #[true, true, true, true, true, false, false, true, true, true, true, false, false, false] rfl rfl (take_ofW HT_.out HW_.out (by kernel_rfl)) (fun _ _ _ h => h) (Or.inl ⟨by rfl, ?_⟩) hHeld ?_ ?_
          rotate_left
          · intro w' s0
            go_simp
            with_reducible rfl
          rotate_left
          · simp only [Act.put, List.setIfInBounds_toArray, List.set_cons_zero, List.set_cons_succ, i64_w, i32_w]
            rfl
          refine take_ (i := 6) (N := some 41) (v := ?_) (a' := ?_) #[true, true, true, true, true, false, true, true, true, true, true, false, false, false] rfl rfl (take_ofW HT_.out HW_.out (by kernel_rfl)) (fun _ _ _ h => h) (Or.inl ⟨by rfl, ?_⟩) hHeld ?_ ?_
          rotate_left
          · intro w' s0
            go_simp
            with_reducible rfl
          rotate_left
          · simp only [Act.put, List.setIfInBounds_toArray, List.set_cons_zero, List.set_cons_succ, i64_w, i32_w]
            rfl
          refine one_ (i := 5) (N := some 40) #[true, true, true, true, true, true, true, true, true, true, true, false, false, false] rfl rfl (one_of HT_.out (by kernel_rfl)) (by decide) (fun K hK => ?_)
          refine goes_ Try.func38 (by kernel_rfl) rfl #[.int .i64 x341000_6, .int .u32 t341, .int .u32 ji16] (by rfl) rfl rfl (by (try simp only [List.map_toArray, List.map_cons, List.map_nil]); first | done | (simp only [hji16]; rfl) | rfl | (simp only [List.length_drop, List.length_take]; rfl)) ?_
          with_reducible refine (chance_Narrow.calls kj6 x341000_6 t341 ji16 t356 _ A17.out).mono ?_
          rintro e w35 ⟨rfl, hb⟩
          refine ⟨_, rfl, ?_⟩
          have n0_ := Aside0.mk (blk_below (g := gb340) (o := .cells #[.int .i64 x341000_6] 3 (0, 0)) (by (with_reducible repeat (first | refine blk_drewN ?_ _ | refine blk_drew ?_ | refine blk_alloc ?_ _)); exact BK340.out) hb)
          have n1_ := Aside0.mk (blk_below (g := gb348) (o := .cells #[.bool t343, .bool t344, .bool t345, .bool t346, .bool true] 30 (0, 0)) (by (with_reducible repeat (first | refine blk_drewN ?_ _ | refine blk_drew ?_ | refine blk_alloc ?_ _)); exact BK348.out) hb)
          have n2_ := Aside0.mk (blk_below (g := gb355) (o := .cells #[.bool t350, .bool t351, .bool t352, .bool t353, .bool t354] 30 (0, 0)) (by (with_reducible repeat (first | refine blk_drewN ?_ _ | refine blk_drew ?_ | refine blk_alloc ?_ _)); exact BK355.out) hb)
          have n3_ := Aside0.mk (below_step (by repeat (first | (with_reducible first | exact HB.out | apply below_alloc | apply pw_below_drewN | apply below_drew1 | refine below_set ?_ GE340.out | refine below_set ?_ GE348.out | refine below_set ?_ GE355.out) | exact HB.out)) hb)
          clear BK340
          clear BK348
          clear BK355
          clear HB
          have BK340 := n0_
          have BK348 := n1_
          have BK355 := n2_
          have HB := n3_
          clear n0_ n1_ n2_ n3_
          (try clear hb)
          (try clear hb2)
          (try clear hk)
          (try clear hi)
          refine hK.out _ _ ((blk_cell BK340.out 0).trans rfl) (fun hHeld => ?_)
          clear hK K
          refine norm_ (a' := ?_) ?_ ?_
          rotate_left
          · show Act.put _ (some 40) _ = _
            simp only [Act.put, List.setIfInBounds_toArray, List.set_cons_zero, List.set_cons_succ, i64_w, i32_w]
            rfl
          refine one_ (i := 11) (N := some 46) #[true, true, true, true, true, true, true, true, true, true, true, true, false, false] rfl rfl (one_of HT_.out (by kernel_rfl)) (by decide) (fun K hK => ?_)
          refine goes_ Try.func38 (by kernel_rfl) rfl #[.int .i64 x341000_6, .int .u32 t341, .int .u32 ji18] (by rfl) rfl rfl (by (try simp only [List.map_toArray, List.map_cons, List.map_nil]); first | done | (simp only [hji18]; rfl) | rfl | (simp only [List.length_drop, List.length_take]; rfl)) ?_
          with_reducible refine (chance_Narrow.calls kj6 x341000_6 t341 ji18 t357 _ A19.out).mono ?_
          rintro e w36 ⟨rfl, hb⟩
          refine ⟨_, rfl, ?_⟩
          have n0_ := Aside0.mk (blk_below (g := gb340) (o := .cells #[.int .i64 x341000_6] 3 (0, 0)) (by (with_reducible repeat (first | refine blk_drewN ?_ _ | refine blk_drew ?_ | refine blk_alloc ?_ _)); exact BK340.out) hb)
          have n1_ := Aside0.mk (blk_below (g := gb348) (o := .cells #[.bool t343, .bool t344, .bool t345, .bool t346, .bool true] 30 (0, 0)) (by (with_reducible repeat (first | refine blk_drewN ?_ _ | refine blk_drew ?_ | refine blk_alloc ?_ _)); exact BK348.out) hb)
          have n2_ := Aside0.mk (blk_below (g := gb355) (o := .cells #[.bool t350, .bool t351, .bool t352, .bool t353, .bool t354] 30 (0, 0)) (by (with_reducible repeat (first | refine blk_drewN ?_ _ | refine blk_drew ?_ | refine blk_alloc ?_ _)); exact BK355.out) hb)
          have n3_ := Aside0.mk (below_step (by repeat (first | (with_reducible first | exact HB.out | apply below_alloc | apply pw_below_drewN | apply below_drew1 | refine below_set ?_ GE340.out | refine below_set ?_ GE348.out | refine below_set ?_ GE355.out) | exact HB.out)) hb)
          clear BK340
          clear BK348
          clear BK355
          clear HB
          have BK340 := n0_
          have BK348 := n1_
          have BK355 := n2_
          have HB := n3_
          clear n0_ n1_ n2_ n3_
          (try clear hb)
          (try clear hb2)
          (try clear hk)
          (try clear hi)
          refine hK.out _ _ ((blk_cell BK340.out 0).trans rfl) (fun hHeld => ?_)
          clear hK K
          refine norm_ (a' := ?_) ?_ ?_
          rotate_left
          · show Act.put _ (some 46) _ = _
            simp only [Act.put, List.setIfInBounds_toArray, List.set_cons_zero, List.set_cons_succ, i64_w, i32_w]
            rfl
          refine pure_ (i := 12) (N := some 15) (v := ?_) (a' := ?_) #[true, true, true, true, true, true, true, true, true, true, true, true, true, false] rfl rfl (any_of HT_.out (by kernel_rfl)) (fun _ _ _ h => h) (Or.inl ⟨by rfl, ?_⟩) ?_ ?_
          rotate_left
          · intro w'
            go_simp
            with_reducible rfl
          rotate_left
          · simp only [Act.put, List.setIfInBounds_toArray, List.set_cons_zero, List.set_cons_succ, i64_w, i32_w]
            rfl
          refine pure_ (i := 13) (N := some 16) (v := ?_) (a' := ?_) #[true, true, true, true, true, true, true, true, true, true, true, true, true, true] rfl rfl (any_of HT_.out (by kernel_rfl)) (fun _ _ _ h => h) (Or.inl ⟨by rfl, ?_⟩) ?_ ?_
          rotate_left
          · intro w'
            go_simp
            with_reducible rfl
          rotate_left
          · simp only [Act.put, List.setIfInBounds_toArray, List.set_cons_zero, List.set_cons_succ, i64_w, i32_w]
            rfl
          refine done_ (done_of HT_.out (by kernel_rfl)) ?_
          have hcz37_0 : w36.cell? ⟨gb348, 0, none⟩ = some (.bool t343) := (blk_cell BK348.out 0).trans rfl
          have hcz37_1 : w36.cell? ⟨gb348, 1, none⟩ = some (.bool t344) := (blk_cell BK348.out 1).trans rfl
          have hcz37_2 : w36.cell? ⟨gb348, 2, none⟩ = some (.bool t345) := (blk_cell BK348.out 2).trans rfl
          have hcz37_3 : w36.cell? ⟨gb348, 3, none⟩ = some (.bool t346) := (blk_cell BK348.out 3).trans rfl
          have hcz37_4 : w36.cell? ⟨gb348, 4, none⟩ = some (.bool true) := (blk_cell BK348.out 4).trans rfl
          have hfz37_0 := blk_frozen BK348.out 0
          have hfz37_1 := blk_frozen BK348.out 1
          have hfz37_2 := blk_frozen BK348.out 2
          have hfz37_3 := blk_frozen BK348.out 3
          have hfz37_4 := blk_frozen BK348.out 4
          have hcz38_0 : w36.cell? ⟨gb340, 0, none⟩ = some (.int .i64 x341000_6) := (blk_cell BK340.out 0).trans rfl
          have hfz38_0 := blk_frozen BK340.out 0
          go_upto_region 13 with (fail)
          go_cut [8] (fun v8 wc => ∃ (kq : Nat) (x8_20 : Bool), v8 = .bool x8_20 ∧ Aside0 (anneallaw11_ChanceBetween.j2 kq x8_20 = some r) ∧ Aside0 (kq ≤ kj6) ∧ Aside0 (wc.heap[gb340]? = some (.cells #[.int .i64 x341000_6] 3 (0, 0))) ∧ Aside0 (wc.heap[gb348]? = some (.cells #[.bool t343, .bool t344, .bool t345, .bool t346, .bool true] 30 (0, 0))) ∧ Aside0 (wc.heap[gb355]? = some (.cells #[.bool t350, .bool t351, .bool t352, .bool t353, .bool t354] 30 (0, 0))) ∧ Aside0 (Below w.heap.size w wc))
          case first =>
            have H := HC21.out
            clear HC21
            by_cases c39 : t356 = t342
            · rw [if_pos c39] at H
              have c39b0 : (t356 == t342) = true := beq_iff_eq.mpr c39
              have c39b1 : (t356 != t342) = false := bne_eq_false_iff_eq.mpr c39
              clear c39
              (first | rw [c39b0] | (simp only [i64_w, i32_w]; rw [c39b0]) | skip)
              by_cases c40 : t357 = t342
              · rw [if_pos c40] at H
                have c40b0 : (t357 == t342) = true := beq_iff_eq.mpr c40
                have c40b1 : (t357 != t342) = false := bne_eq_false_iff_eq.mpr c40
                clear c40
                replace H := Option.bind_eq_some_iff.mp H
                obtain ⟨t358, A410, H⟩ := H
                replace H : ((anneallaw11_ChanceBetween_1.f t356 x341000_6).bind fun t359 => (anneallaw11_ChanceBetween.j2 kj6 (decide (t358 ≤ t359)))) = some r := H
                have A41 := Aside0.mk A410
                clear A410
                replace H := Option.bind_eq_some_iff.mp H
                obtain ⟨t359, A420, H⟩ := H
                replace H : (anneallaw11_ChanceBetween.j2 kj6 (decide (t358 ≤ t359))) = some r := H
                have A42 := Aside0.mk A420
                clear A420
                have H' := Aside0.mk H
                clear H
                go_wp2_with (first | (go_at_call 40; (with_reducible refine (anneallaw11_ChanceBetween_1.calls t357 x341000_6 gb340 t358 _ (by (with_reducible repeat (first | refine blk_drewN ?_ _ | refine blk_drew ?_ | refine blk_alloc ?_ _)); exact BK340.out) A41.out).mono ?_); rintro e w' ⟨rfl, ⟨nd, rfl⟩⟩) | (go_at_call 40; (with_reducible refine (anneallaw11_ChanceBetween_1.calls t356 x341000_6 gb340 t359 _ (by (with_reducible repeat (first | refine blk_drewN ?_ _ | refine blk_drew ?_ | refine blk_alloc ?_ _)); exact BK340.out) A42.out).mono ?_); rintro e w' ⟨rfl, ⟨nd, rfl⟩⟩))
                go_meet
                case rel => exact ⟨_, (decide (t358 ≤ t359)), (by first | rfl | (simp; done) | (simp [*]; done) | (congr 1; (try unfold wrap64); omega) | (congr 1; rw [IntKind.wrap_u64]; omega)), H', ⟨by have := HJ6.out; first | omega | exact Nat.le_refl _⟩, ⟨by (with_reducible repeat (first | refine blk_drewN ?_ _ | refine blk_drew ?_ | refine blk_alloc ?_ _)); exact BK340.out⟩, ⟨by (with_reducible repeat (first | refine blk_drewN ?_ _ | refine blk_drew ?_ | refine blk_alloc ?_ _)); exact BK348.out⟩, ⟨by (with_reducible repeat (first | refine blk_drewN ?_ _ | refine blk_drew ?_ | refine blk_alloc ?_ _)); exact BK355.out⟩, ⟨by repeat (first | (with_reducible first | exact HB.out | apply below_alloc | apply pw_below_drewN | apply below_drew1 | refine below_set ?_ GE340.out | refine below_set ?_ GE348.out | refine below_set ?_ GE355.out) | exact HB.out)⟩⟩
              · rw [if_neg c40] at H
                have c40b0 : (t357 == t342) = false := beq_eq_false_iff_ne.mpr c40
                have c40b1 : (t357 != t342) = true := bne_iff_ne.mpr c40
                by_cases c43 : t357 = t349
                · rw [if_pos c43] at H
                  have c43b0 : (t357 == t349) = true := beq_iff_eq.mpr c43
                  have c43b1 : (t357 != t349) = false := bne_eq_false_iff_eq.mpr c43
                  clear c43
                  replace H := Option.bind_eq_some_iff.mp H
                  obtain ⟨t360, A440, H⟩ := H
                  replace H : ((anneallaw11_ChanceBetween_1.f t356 x341000_6).bind fun t361 => (anneallaw11_ChanceBetween.j2 kj6 (decide (t360 ≤ t361)))) = some r := H
                  have A44 := Aside0.mk A440
                  clear A440
                  replace H := Option.bind_eq_some_iff.mp H
                  obtain ⟨t361, A450, H⟩ := H
                  replace H : (anneallaw11_ChanceBetween.j2 kj6 (decide (t360 ≤ t361))) = some r := H
                  have A45 := Aside0.mk A450
                  clear A450
                  have H' := Aside0.mk H
                  clear H
                  go_wp2_with (first | (go_at_call 40; (with_reducible refine (anneallaw11_ChanceBetween_1.calls t357 x341000_6 gb340 t360 _ (by (with_reducible repeat (first | refine blk_drewN ?_ _ | refine blk_drew ?_ | refine blk_alloc ?_ _)); exact BK340.out) A44.out).mono ?_); rintro e w' ⟨rfl, ⟨nd, rfl⟩⟩) | (go_at_call 40; (with_reducible refine (anneallaw11_ChanceBetween_1.calls t356 x341000_6 gb340 t361 _ (by (with_reducible repeat (first | refine blk_drewN ?_ _ | refine blk_drew ?_ | refine blk_alloc ?_ _)); exact BK340.out) A45.out).mono ?_); rintro e w' ⟨rfl, ⟨nd, rfl⟩⟩))
                  go_meet
                  case rel => exact ⟨_, (decide (t360 ≤ t361)), (by first | rfl | (simp; done) | (simp [*]; done) | (congr 1; (try unfold wrap64); omega) | (congr 1; rw [IntKind.wrap_u64]; omega)), H', ⟨by have := HJ6.out; first | omega | exact Nat.le_refl _⟩, ⟨by (with_reducible repeat (first | refine blk_drewN ?_ _ | refine blk_drew ?_ | refine blk_alloc ?_ _)); exact BK340.out⟩, ⟨by (with_reducible repeat (first | refine blk_drewN ?_ _ | refine blk_drew ?_ | refine blk_alloc ?_ _)); exact BK348.out⟩, ⟨by (with_reducible repeat (first | refine blk_drewN ?_ _ | refine blk_drew ?_ | refine blk_alloc ?_ _)); exact BK355.out⟩, ⟨by repeat (first | (with_reducible first | exact HB.out | apply below_alloc | apply pw_below_drewN | apply below_drew1 | refine below_set ?_ GE340.out | refine below_set ?_ GE348.out | refine below_set ?_ GE355.out) | exact HB.out)⟩⟩
                · rw [if_neg c43] at H
                  have c43b0 : (t357 == t349) = false := beq_eq_false_iff_ne.mpr c43
                  have c43b1 : (t357 != t349) = true := bne_iff_ne.mpr c43
                  have H' := Aside0.mk H
                  clear H
                  go_wp2
                  go_meet
                  case rel => exact ⟨_, (false), (by first | rfl | (simp; done) | (simp [*]; done) | (congr 1; (try unfold wrap64); omega) | (congr 1; rw [IntKind.wrap_u64]; omega)), H', ⟨by have := HJ6.out; first | omega | exact Nat.le_refl _⟩, ⟨by (with_reducible repeat (first | refine blk_drewN ?_ _ | refine blk_drew ?_ | refine blk_alloc ?_ _)); exact BK340.out⟩, ⟨by (with_reducible repeat (first | refine blk_drewN ?_ _ | refine blk_drew ?_ | refine blk_alloc ?_ _)); exact BK348.out⟩, ⟨by (with_reducible repeat (first | refine blk_drewN ?_ _ | refine blk_drew ?_ | refine blk_alloc ?_ _)); exact BK355.out⟩, ⟨by repeat (first | (with_reducible first | exact HB.out | apply below_alloc | apply pw_below_drewN | apply below_drew1 | refine below_set ?_ GE340.out | refine below_set ?_ GE348.out | refine below_set ?_ GE355.out) | exact HB.out)⟩⟩
            · rw [if_neg c39] at H
              have c39b0 : (t356 == t342) = false := beq_eq_false_iff_ne.mpr c39
              have c39b1 : (t356 != t342) = true := bne_iff_ne.mpr c39
              (first | rw [c39b0] | (simp only [i64_w, i32_w]; rw [c39b0]) | skip)
              by_cases c46 : t356 = t349
              · rw [if_pos c46] at H
                have c46b0 : (t356 == t349) = true := beq_iff_eq.mpr c46
                have c46b1 : (t356 != t349) = false := bne_eq_false_iff_eq.mpr c46
                clear c46
                by_cases c47 : t357 = t342
                · rw [if_pos c47] at H
                  have c47b0 : (t357 == t342) = true := beq_iff_eq.mpr c47
                  have c47b1 : (t357 != t342) = false := bne_eq_false_iff_eq.mpr c47
                  clear c47
                  replace H := Option.bind_eq_some_iff.mp H
                  obtain ⟨t362, A480, H⟩ := H
                  replace H : ((anneallaw11_ChanceBetween_1.f t356 x341000_6).bind fun t363 => (anneallaw11_ChanceBetween.j2 kj6 (decide (t362 ≤ t363)))) = some r := H
                  have A48 := Aside0.mk A480
                  clear A480
                  replace H := Option.bind_eq_some_iff.mp H
                  obtain ⟨t363, A490, H⟩ := H
                  replace H : (anneallaw11_ChanceBetween.j2 kj6 (decide (t362 ≤ t363))) = some r := H
                  have A49 := Aside0.mk A490
                  clear A490
                  have H' := Aside0.mk H
                  clear H
                  go_wp2_with (first | (go_at_call 40; (with_reducible refine (anneallaw11_ChanceBetween_1.calls t357 x341000_6 gb340 t362 _ (by (with_reducible repeat (first | refine blk_drewN ?_ _ | refine blk_drew ?_ | refine blk_alloc ?_ _)); exact BK340.out) A48.out).mono ?_); rintro e w' ⟨rfl, ⟨nd, rfl⟩⟩) | (go_at_call 40; (with_reducible refine (anneallaw11_ChanceBetween_1.calls t356 x341000_6 gb340 t363 _ (by (with_reducible repeat (first | refine blk_drewN ?_ _ | refine blk_drew ?_ | refine blk_alloc ?_ _)); exact BK340.out) A49.out).mono ?_); rintro e w' ⟨rfl, ⟨nd, rfl⟩⟩))
                  go_meet
                  case rel => exact ⟨_, (decide (t362 ≤ t363)), (by first | rfl | (simp; done) | (simp [*]; done) | (congr 1; (try unfold wrap64); omega) | (congr 1; rw [IntKind.wrap_u64]; omega)), H', ⟨by have := HJ6.out; first | omega | exact Nat.le_refl _⟩, ⟨by (with_reducible repeat (first | refine blk_drewN ?_ _ | refine blk_drew ?_ | refine blk_alloc ?_ _)); exact BK340.out⟩, ⟨by (with_reducible repeat (first | refine blk_drewN ?_ _ | refine blk_drew ?_ | refine blk_alloc ?_ _)); exact BK348.out⟩, ⟨by (with_reducible repeat (first | refine blk_drewN ?_ _ | refine blk_drew ?_ | refine blk_alloc ?_ _)); exact BK355.out⟩, ⟨by repeat (first | (with_reducible first | exact HB.out | apply below_alloc | apply pw_below_drewN | apply below_drew1 | refine below_set ?_ GE340.out | refine below_set ?_ GE348.out | refine below_set ?_ GE355.out) | exact HB.out)⟩⟩
                · rw [if_neg c47] at H
                  have c47b0 : (t357 == t342) = false := beq_eq_false_iff_ne.mpr c47
                  have c47b1 : (t357 != t342) = true := bne_iff_ne.mpr c47
                  by_cases c50 : t357 = t349
                  · rw [if_pos c50] at H
                    have c50b0 : (t357 == t349) = true := beq_iff_eq.mpr c50
                    have c50b1 : (t357 != t349) = false := bne_eq_false_iff_eq.mpr c50
                    clear c50
                    replace H := Option.bind_eq_some_iff.mp H
                    obtain ⟨t364, A510, H⟩ := H
                    replace H : ((anneallaw11_ChanceBetween_1.f t356 x341000_6).bind fun t365 => (anneallaw11_ChanceBetween.j2 kj6 (decide (t364 ≤ t365)))) = some r := H
                    have A51 := Aside0.mk A510
                    clear A510
                    replace H := Option.bind_eq_some_iff.mp H
                    obtain ⟨t365, A520, H⟩ := H
                    replace H : (anneallaw11_ChanceBetween.j2 kj6 (decide (t364 ≤ t365))) = some r := H
                    have A52 := Aside0.mk A520
                    clear A520
                    have H' := Aside0.mk H
                    clear H
                    go_wp2_with (first | (go_at_call 40; (with_reducible refine (anneallaw11_ChanceBetween_1.calls t357 x341000_6 gb340 t364 _ (by (with_reducible repeat (first | refine blk_drewN ?_ _ | refine blk_drew ?_ | refine blk_alloc ?_ _)); exact BK340.out) A51.out).mono ?_); rintro e w' ⟨rfl, ⟨nd, rfl⟩⟩) | (go_at_call 40; (with_reducible refine (anneallaw11_ChanceBetween_1.calls t356 x341000_6 gb340 t365 _ (by (with_reducible repeat (first | refine blk_drewN ?_ _ | refine blk_drew ?_ | refine blk_alloc ?_ _)); exact BK340.out) A52.out).mono ?_); rintro e w' ⟨rfl, ⟨nd, rfl⟩⟩))
                    go_meet
                    case rel => exact ⟨_, (decide (t364 ≤ t365)), (by first | rfl | (simp; done) | (simp [*]; done) | (congr 1; (try unfold wrap64); omega) | (congr 1; rw [IntKind.wrap_u64]; omega)), H', ⟨by have := HJ6.out; first | omega | exact Nat.le_refl _⟩, ⟨by (with_reducible repeat (first | refine blk_drewN ?_ _ | refine blk_drew ?_ | refine blk_alloc ?_ _)); exact BK340.out⟩, ⟨by (with_reducible repeat (first | refine blk_drewN ?_ _ | refine blk_drew ?_ | refine blk_alloc ?_ _)); exact BK348.out⟩, ⟨by (with_reducible repeat (first | refine blk_drewN ?_ _ | refine blk_drew ?_ | refine blk_alloc ?_ _)); exact BK355.out⟩, ⟨by repeat (first | (with_reducible first | exact HB.out | apply below_alloc | apply pw_below_drewN | apply below_drew1 | refine below_set ?_ GE340.out | refine below_set ?_ GE348.out | refine below_set ?_ GE355.out) | exact HB.out)⟩⟩
                  · rw [if_neg c50] at H
                    have c50b0 : (t357 == t349) = false := beq_eq_false_iff_ne.mpr c50
                    have c50b1 : (t357 != t349) = true := bne_iff_ne.mpr c50
                    have H' := Aside0.mk H
                    clear H
                    go_wp2
                    go_meet
                    case rel => exact ⟨_, (false), (by first | rfl | (simp; done) | (simp [*]; done) | (congr 1; (try unfold wrap64); omega) | (congr 1; rw [IntKind.wrap_u64]; omega)), H', ⟨by have := HJ6.out; first | omega | exact Nat.le_refl _⟩, ⟨by (with_reducible repeat (first | refine blk_drewN ?_ _ | refine blk_drew ?_ | refine blk_alloc ?_ _)); exact BK340.out⟩, ⟨by (with_reducible repeat (first | refine blk_drewN ?_ _ | refine blk_drew ?_ | refine blk_alloc ?_ _)); exact BK348.out⟩, ⟨by (with_reducible repeat (first | refine blk_drewN ?_ _ | refine blk_drew ?_ | refine blk_alloc ?_ _)); exact BK355.out⟩, ⟨by repeat (first | (with_reducible first | exact HB.out | apply below_alloc | apply pw_below_drewN | apply below_drew1 | refine below_set ?_ GE340.out | refine below_set ?_ GE348.out | refine below_set ?_ GE355.out) | exact HB.out)⟩⟩
              · rw [if_neg c46] at H
                have c46b0 : (t356 == t349) = false := beq_eq_false_iff_ne.mpr c46
                have c46b1 : (t356 != t349) = true := bne_iff_ne.mpr c46
                have H' := Aside0.mk H
                clear H
                go_wp2
                go_meet
                case rel => exact ⟨_, (false), (by first | rfl | (simp; done) | (simp [*]; done) | (congr 1; (try unfold wrap64); omega) | (congr 1; rw [IntKind.wrap_u64]; omega)), H', ⟨by have := HJ6.out; first | omega | exact Nat.le_refl _⟩, ⟨by (with_reducible repeat (first | refine blk_drewN ?_ _ | refine blk_drew ?_ | refine blk_alloc ?_ _)); exact BK340.out⟩, ⟨by (with_reducible repeat (first | refine blk_drewN ?_ _ | refine blk_drew ?_ | refine blk_alloc ?_ _)); exact BK348.out⟩, ⟨by (with_reducible repeat (first | refine blk_drewN ?_ _ | refine blk_drew ?_ | refine blk_alloc ?_ _)); exact BK355.out⟩, ⟨by repeat (first | (with_reducible first | exact HB.out | apply below_alloc | apply pw_below_drewN | apply below_drew1 | refine below_set ?_ GE340.out | refine below_set ?_ GE348.out | refine below_set ?_ GE355.out) | exact HB.out)⟩⟩
          case rest =>
            clear HC21
            try clear c1
            try clear c2
            try clear p2
            try clear c3
            try clear c4
            try clear c5
            try clear c6
            try clear p6
            try clear c11
            try clear c12
            try clear c20
            try clear c25
            try clear c27
            try clear c29
            try clear c30
            try clear c31
            try clear c37
            try clear c38
            try clear c39
            try clear c39b0
            try clear c39b1
            try clear c40
            try clear c40b0
            try clear c40b1
            try clear c43
            try clear c43b0
            try clear c43b1
            try clear c46
            try clear c46b0
            try clear c46b1
            try clear c47
            try clear c47b0
            try clear c47b1
            try clear c50
            try clear c50b0
            try clear c50b1
            try clear hcz10_0
            try clear hcz12_0
            try clear hcz22_0
            try clear hcz26_0
            try clear hcz26_1
            try clear hcz26_2
            try clear hcz26_3
            try clear hcz26_4
            try clear hcz27_0
            try clear hcz32_0
            try clear hcz32_1
            try clear hcz32_2
            try clear hcz32_3
            try clear hcz32_4
            try clear hcz37_0
            try clear hcz37_1
            try clear hcz37_2
            try clear hcz37_3
            try clear hcz37_4
            try clear hcz38_0
            try clear hfz10_0
            try clear hfz12_0
            try clear hfz22_0
            try clear hfz26_0
            try clear hfz26_1
            try clear hfz26_2
            try clear hfz26_3
            try clear hfz26_4
            try clear hfz27_0
            try clear hfz32_0
            try clear hfz32_1
            try clear hfz32_2
            try clear hfz32_3
            try clear hfz32_4
            try clear hfz37_0
            try clear hfz37_1
            try clear hfz37_2
            try clear hfz37_3
            try clear hfz37_4
            try clear hfz38_0
            try clear p2
            obtain ⟨kq, x8_20, rfl, HA, HJ20, BK340, BK348, BK355, HB⟩ := hcut
            cases kq with
            | zero => exact absurd HA.out (by simp [anneallaw11_ChanceBetween.j2])
            | succ kj20 =>
              have H := HA.out
              clear HA
              simp only [anneallaw11_ChanceBetween.j2] at H
              obtain rfl := Option.some.inj H
              go_wp2
              go_ret
              exact ⟨by first | rfl | (simp [errW_none, errW_some] <;> rfl) | (simp only [← hji16, ← hji18]; first | rfl | (simp [errW_none, errW_some] <;> rfl)) | (simp [*, errW_none, errW_some] <;> rfl), by repeat (first | (with_reducible first | exact HB.out | apply below_alloc | apply pw_below_drewN | apply below_drew1 | refine below_set ?_ GE340.out | refine below_set ?_ GE348.out | refine below_set ?_ GE355.out) | exact HB.out)⟩
        · replace c20 := Bool.eq_false_iff.mpr c20
          subst c20
          have H1 : (if t356 = t342 then (if t357 = t342 then (anneallaw11_ChanceBetween.j1 kj6 (t342 == t349)) else (anneallaw11_ChanceBetween.j1 kj6 false)) else (anneallaw11_ChanceBetween.j1 kj6 false)) = some r := by rw [if_neg (show ¬ (false = true) by decide)] at H; exact H
          clear H
          have H := H1
          clear H1
          have HC53 := Aside0.mk H
          clear H
          try go_wp2_with (first | ((with_reducible refine gate_callee (f := 27) rfl ?_); refine goesL_ (some 22) rfl rfl Try.func27 (by kernel_rfl) rfl #[.int .i64 2, .int .u32 a1] rfl (by (try simp only [List.map_toArray, List.map_cons, List.map_nil]); first | done | rfl | (simp only [List.length_drop, List.length_take]; rfl)) ?_; (with_reducible refine (annealseat_Mild.calls 2 a1 t341 _ A13.out).mono ?_); rintro e w' ⟨rfl, ⟨nd, rfl⟩⟩; refine ⟨_, rfl, ?_⟩; (try (rw [drewN_self wc]; generalize hq_ : World.drewN wc _ = wc; have n0_ : Aside0 (wc.heap[gb340]? = some (.cells #[.int .i64 x341000_6] 3 (0, 0))) := ⟨by rw [← hq_]; exact (by (with_reducible repeat (first | refine blk_drewN ?_ _ | refine blk_drew ?_ | refine blk_alloc ?_ _)); exact BK340.out)⟩; have n1_ : Aside0 (Below w.heap.size w wc) := ⟨by rw [← hq_]; exact (by repeat (first | (with_reducible first | exact HB.out | apply below_alloc | apply pw_below_drewN | apply below_drew1 | refine below_set ?_ GE340.out) | exact HB.out))⟩; clear BK340 HB hq_; have BK340 := n0_; have HB := n1_; clear n0_ n1_)); have hcz54_0 : wc.cell? ⟨gb340, 0, none⟩ = some (.int .i64 x341000_6) := (blk_cell BK340.out 0).trans rfl; have hfz54_0 := blk_frozen BK340.out 0) | ((with_reducible refine gate_callee (f := 29) rfl ?_); refine goesL_ (some 26) rfl rfl Try.func29 (by kernel_rfl) rfl #[.int .i64 2, .int .i64 x341000_6, .int .i64 3, .int .u32 t341] rfl (by (try simp only [List.map_toArray, List.map_cons, List.map_nil]); first | done | rfl | (simp only [List.length_drop, List.length_take]; rfl)) ?_; (with_reducible refine (annealref1_To.calls kj6 2 x341000_6 3 t341 t342 t343 t344 t345 t346 false _ A14.out).mono ?_); rintro e w55 ⟨rfl, hb⟩; refine ⟨_, rfl, ?_⟩; have n0_ := Aside0.mk (blk_below (g := gb340) (o := .cells #[.int .i64 x341000_6] 3 (0, 0)) (by (with_reducible repeat (first | refine blk_drewN ?_ _ | refine blk_drew ?_ | refine blk_alloc ?_ _)); exact BK340.out) hb); have n1_ := Aside0.mk (below_step (by repeat (first | (with_reducible first | exact HB.out | apply below_alloc | apply pw_below_drewN | apply below_drew1 | refine below_set ?_ GE340.out) | exact HB.out)) hb); clear BK340; clear HB; have BK340 := n0_; have HB := n1_; clear n0_ n1_; (try clear hb); (try clear hb2); (try clear hk); (try clear hi)) | ((with_reducible refine gate_dst (N := 12) rfl ?_); refine box_event ?hg (N := 12) ?hd (cs := #[.bool false, .bool false, .bool false, .bool false, .bool false]) (t := 30) ?hr ?_; (case hd => rfl); (case hg => rfl); (case hr => first | (go_simp; done) | (go_simp; rfl)); intro gb348 hg w56 hbox hb; have n0_ := Aside0.mk (blk_below (g := gb340) (o := .cells #[.int .i64 x341000_6] 3 (0, 0)) (by (with_reducible repeat (first | refine blk_drewN ?_ _ | refine blk_drew ?_ | refine blk_alloc ?_ _)); exact BK340.out) hb); have n1_ := Aside0.mk (below_step (by repeat (first | (with_reducible first | exact HB.out | apply below_alloc | apply pw_below_drewN | apply below_drew1 | refine below_set ?_ GE340.out) | exact HB.out)) hb); have n2_ := Aside0.mk (hbox); have n3_ := Aside0.mk ((by rw [hg]; exact (below_size (by repeat (first | (with_reducible first | exact HB.out | apply below_alloc | apply pw_below_drewN | apply below_drew1 | refine below_set ?_ GE340.out) | exact HB.out))) : w.heap.size ≤ gb348)); have n4_ := Aside0.mk ((by rw [hg]; exact (below_size (by repeat (first | (with_reducible first | exact HB.out | apply below_alloc | apply pw_below_drewN | apply below_drew1 | refine below_set ?_ GE340.out) | exact HB.out))) : w.heap.size ≤ gb348)); have n5_ := Aside0.mk ((by rw [hg]; exact Nat.ne_of_lt (blk_lt (g := gb340) (o := .cells #[.int .i64 x341000_6] 3 (0, 0)) (by (with_reducible repeat (first | refine blk_drewN ?_ _ | refine blk_drew ?_ | refine blk_alloc ?_ _)); exact BK340.out)) : gb340 ≠ gb348)); have n6_ := Aside0.mk ((by rw [hg]; exact Nat.ne_of_gt (blk_lt (g := gb340) (o := .cells #[.int .i64 x341000_6] 3 (0, 0)) (by (with_reducible repeat (first | refine blk_drewN ?_ _ | refine blk_drew ?_ | refine blk_alloc ?_ _)); exact BK340.out)) : gb348 ≠ gb340)); clear BK340; clear HB; have BK340 := n0_; have HB := n1_; have BK348 := n2_; have GW348 := n3_; have GE348 := n4_; have NB340_348 := n5_; have NB348_340 := n6_; clear n0_ n1_ n2_ n3_ n4_ n5_ n6_; clear hb hbox hg; have hnb57 := NB348_340.out; have hnc57 := NB340_348.out; have hcz58_0 : w56.cell? ⟨gb348, 0, none⟩ = some (.bool false) := (blk_cell BK348.out 0).trans rfl; have hcz58_1 : w56.cell? ⟨gb348, 1, none⟩ = some (.bool false) := (blk_cell BK348.out 1).trans rfl; have hcz58_2 : w56.cell? ⟨gb348, 2, none⟩ = some (.bool false) := (blk_cell BK348.out 2).trans rfl; have hcz58_3 : w56.cell? ⟨gb348, 3, none⟩ = some (.bool false) := (blk_cell BK348.out 3).trans rfl; have hcz58_4 : w56.cell? ⟨gb348, 4, none⟩ = some (.bool false) := (blk_cell BK348.out 4).trans rfl; have hfz58_0 := blk_frozen BK348.out 0; have hfz58_1 := blk_frozen BK348.out 1; have hfz58_2 := blk_frozen BK348.out 2; have hfz58_3 := blk_frozen BK348.out 3; have hfz58_4 := blk_frozen BK348.out 4; have hcz59_0 : w56.cell? ⟨gb340, 0, none⟩ = some (.int .i64 x341000_6) := (blk_cell BK340.out 0).trans rfl; have hfz59_0 := blk_frozen BK340.out 0) | ((with_reducible refine gate_callee (f := 29) rfl ?_); refine goesL_ (some 32) rfl rfl Try.func29 (by kernel_rfl) rfl #[.int .i64 2, .int .i64 x341000_6, .int .i64 2, .int .u32 t341] rfl (by (try simp only [List.map_toArray, List.map_cons, List.map_nil]); first | done | rfl | (simp only [List.length_drop, List.length_take]; rfl)) ?_; (with_reducible refine (annealref1_To.calls kj6 2 x341000_6 2 t341 t349 t350 t351 t352 t353 t354 _ A15.out).mono ?_); rintro e w60 ⟨rfl, hb⟩; refine ⟨_, rfl, ?_⟩; have n0_ := Aside0.mk (blk_below (g := gb340) (o := .cells #[.int .i64 x341000_6] 3 (0, 0)) (by (with_reducible repeat (first | refine blk_drewN ?_ _ | refine blk_drew ?_ | refine blk_alloc ?_ _)); refine blk_far ?_ NB340_348.out _; (with_reducible repeat (first | refine blk_drewN ?_ _ | refine blk_drew ?_ | refine blk_alloc ?_ _)); refine blk_far ?_ NB340_348.out _; (with_reducible repeat (first | refine blk_drewN ?_ _ | refine blk_drew ?_ | refine blk_alloc ?_ _)); refine blk_far ?_ NB340_348.out _; (with_reducible repeat (first | refine blk_drewN ?_ _ | refine blk_drew ?_ | refine blk_alloc ?_ _)); refine blk_far ?_ NB340_348.out _; (with_reducible repeat (first | refine blk_drewN ?_ _ | refine blk_drew ?_ | refine blk_alloc ?_ _)); refine blk_far ?_ NB340_348.out _; (with_reducible repeat (first | refine blk_drewN ?_ _ | refine blk_drew ?_ | refine blk_alloc ?_ _)); exact BK340.out) hb); have n1_ := Aside0.mk (blk_below (g := gb348) (o := .cells #[.bool t343, .bool t344, .bool t345, .bool t346, .bool false] 30 (0, 0)) (by (with_reducible repeat (first | refine blk_drewN ?_ _ | refine blk_drew ?_ | refine blk_alloc ?_ _)); refine blk_put (cs := #[.bool t343, .bool t344, .bool t345, .bool t346, .bool false]) ?_ 4 _ rfl; (with_reducible repeat (first | refine blk_drewN ?_ _ | refine blk_drew ?_ | refine blk_alloc ?_ _)); refine blk_put (cs := #[.bool t343, .bool t344, .bool t345, .bool false, .bool false]) ?_ 3 _ rfl; (with_reducible repeat (first | refine blk_drewN ?_ _ | refine blk_drew ?_ | refine blk_alloc ?_ _)); refine blk_put (cs := #[.bool t343, .bool t344, .bool false, .bool false, .bool false]) ?_ 2 _ rfl; (with_reducible repeat (first | refine blk_drewN ?_ _ | refine blk_drew ?_ | refine blk_alloc ?_ _)); refine blk_put (cs := #[.bool t343, .bool false, .bool false, .bool false, .bool false]) ?_ 1 _ rfl; (with_reducible repeat (first | refine blk_drewN ?_ _ | refine blk_drew ?_ | refine blk_alloc ?_ _)); refine blk_put (cs := #[.bool false, .bool false, .bool false, .bool false, .bool false]) ?_ 0 _ rfl; (with_reducible repeat (first | refine blk_drewN ?_ _ | refine blk_drew ?_ | refine blk_alloc ?_ _)); exact BK348.out) hb); have n2_ := Aside0.mk (below_step (by repeat (first | (with_reducible first | exact HB.out | apply below_alloc | apply pw_below_drewN | apply below_drew1 | refine below_set ?_ GE340.out | refine below_set ?_ GE348.out) | exact HB.out)) hb); clear BK340; clear BK348; clear HB; have BK340 := n0_; have BK348 := n1_; have HB := n2_; clear n0_ n1_ n2_; (try clear hb); (try clear hb2); (try clear hk); (try clear hi)) | ((with_reducible refine gate_dst (N := 14) rfl ?_); refine box_event ?hg (N := 14) ?hd (cs := #[.bool false, .bool false, .bool false, .bool false, .bool false]) (t := 30) ?hr ?_; (case hd => rfl); (case hg => rfl); (case hr => first | (go_simp; done) | (go_simp; rfl)); intro gb355 hg w61 hbox hb; have n0_ := Aside0.mk (blk_below (g := gb340) (o := .cells #[.int .i64 x341000_6] 3 (0, 0)) (by (with_reducible repeat (first | refine blk_drewN ?_ _ | refine blk_drew ?_ | refine blk_alloc ?_ _)); exact BK340.out) hb); have n1_ := Aside0.mk (blk_below (g := gb348) (o := .cells #[.bool t343, .bool t344, .bool t345, .bool t346, .bool false] 30 (0, 0)) (by (with_reducible repeat (first | refine blk_drewN ?_ _ | refine blk_drew ?_ | refine blk_alloc ?_ _)); exact BK348.out) hb); have n2_ := Aside0.mk (below_step (by repeat (first | (with_reducible first | exact HB.out | apply below_alloc | apply pw_below_drewN | apply below_drew1 | refine below_set ?_ GE340.out | refine below_set ?_ GE348.out) | exact HB.out)) hb); have n3_ := Aside0.mk (hbox); have n4_ := Aside0.mk ((by rw [hg]; exact (below_size (by repeat (first | (with_reducible first | exact HB.out | apply below_alloc | apply pw_below_drewN | apply below_drew1 | refine below_set ?_ GE340.out | refine below_set ?_ GE348.out) | exact HB.out))) : w.heap.size ≤ gb355)); have n5_ := Aside0.mk ((by rw [hg]; exact (below_size (by repeat (first | (with_reducible first | exact HB.out | apply below_alloc | apply pw_below_drewN | apply below_drew1 | refine below_set ?_ GE340.out | refine below_set ?_ GE348.out) | exact HB.out))) : w.heap.size ≤ gb355)); have n6_ := Aside0.mk ((by rw [hg]; exact Nat.ne_of_lt (blk_lt (g := gb340) (o := .cells #[.int .i64 x341000_6] 3 (0, 0)) (by (with_reducible repeat (first | refine blk_drewN ?_ _ | refine blk_drew ?_ | refine blk_alloc ?_ _)); exact BK340.out)) : gb340 ≠ gb355)); have n7_ := Aside0.mk ((by rw [hg]; exact Nat.ne_of_gt (blk_lt (g := gb340) (o := .cells #[.int .i64 x341000_6] 3 (0, 0)) (by (with_reducible repeat (first | refine blk_drewN ?_ _ | refine blk_drew ?_ | refine blk_alloc ?_ _)); exact BK340.out)) : gb355 ≠ gb340)); have n8_ := Aside0.mk ((by rw [hg]; exact Nat.ne_of_lt (blk_lt (g := gb348) (o := .cells #[.bool t343, .bool t344, .bool t345, .bool t346, .bool false] 30 (0, 0)) (by (with_reducible repeat (first | refine blk_drewN ?_ _ | refine blk_drew ?_ | refine blk_alloc ?_ _)); exact BK348.out)) : gb348 ≠ gb355)); have n9_ := Aside0.mk ((by rw [hg]; exact Nat.ne_of_gt (blk_lt (g := gb348) (o := .cells #[.bool t343, .bool t344, .bool t345, .bool t346, .bool false] 30 (0, 0)) (by (with_reducible repeat (first | refine blk_drewN ?_ _ | refine blk_drew ?_ | refine blk_alloc ?_ _)); exact BK348.out)) : gb355 ≠ gb348)); clear BK340; clear BK348; clear HB; have BK340 := n0_; have BK348 := n1_; have HB := n2_; have BK355 := n3_; have GW355 := n4_; have GE355 := n5_; have NB340_355 := n6_; have NB355_340 := n7_; have NB348_355 := n8_; have NB355_348 := n9_; clear n0_ n1_ n2_ n3_ n4_ n5_ n6_ n7_ n8_ n9_; clear hb hbox hg; have hnb62 := NB355_340.out; have hnc62 := NB340_355.out; have hnb63 := NB355_348.out; have hnc63 := NB348_355.out; have hcz64_0 : w61.cell? ⟨gb355, 0, none⟩ = some (.bool false) := (blk_cell BK355.out 0).trans rfl; have hcz64_1 : w61.cell? ⟨gb355, 1, none⟩ = some (.bool false) := (blk_cell BK355.out 1).trans rfl; have hcz64_2 : w61.cell? ⟨gb355, 2, none⟩ = some (.bool false) := (blk_cell BK355.out 2).trans rfl; have hcz64_3 : w61.cell? ⟨gb355, 3, none⟩ = some (.bool false) := (blk_cell BK355.out 3).trans rfl; have hcz64_4 : w61.cell? ⟨gb355, 4, none⟩ = some (.bool false) := (blk_cell BK355.out 4).trans rfl; have hfz64_0 := blk_frozen BK355.out 0; have hfz64_1 := blk_frozen BK355.out 1; have hfz64_2 := blk_frozen BK355.out 2; have hfz64_3 := blk_frozen BK355.out 3; have hfz64_4 := blk_frozen BK355.out 4))
          have n0_ : Aside0 ((((((w61.setCell ⟨gb355, 0, none⟩ (.bool t350)).setCell ⟨gb355, 1, none⟩ (.bool t351)).setCell ⟨gb355, 2, none⟩ (.bool t352)).setCell ⟨gb355, 3, none⟩ (.bool t353)).setCell ⟨gb355, 4, none⟩ (.bool t354)).heap[gb340]? = some (.cells #[.int .i64 x341000_6] 3 (0, 0))) := ⟨by (with_reducible repeat (first | refine blk_drewN ?_ _ | refine blk_drew ?_ | refine blk_alloc ?_ _)); refine blk_far ?_ NB340_355.out _; (with_reducible repeat (first | refine blk_drewN ?_ _ | refine blk_drew ?_ | refine blk_alloc ?_ _)); refine blk_far ?_ NB340_355.out _; (with_reducible repeat (first | refine blk_drewN ?_ _ | refine blk_drew ?_ | refine blk_alloc ?_ _)); refine blk_far ?_ NB340_355.out _; (with_reducible repeat (first | refine blk_drewN ?_ _ | refine blk_drew ?_ | refine blk_alloc ?_ _)); refine blk_far ?_ NB340_355.out _; (with_reducible repeat (first | refine blk_drewN ?_ _ | refine blk_drew ?_ | refine blk_alloc ?_ _)); refine blk_far ?_ NB340_355.out _; (with_reducible repeat (first | refine blk_drewN ?_ _ | refine blk_drew ?_ | refine blk_alloc ?_ _)); exact BK340.out⟩
          have n1_ : Aside0 ((((((w61.setCell ⟨gb355, 0, none⟩ (.bool t350)).setCell ⟨gb355, 1, none⟩ (.bool t351)).setCell ⟨gb355, 2, none⟩ (.bool t352)).setCell ⟨gb355, 3, none⟩ (.bool t353)).setCell ⟨gb355, 4, none⟩ (.bool t354)).heap[gb348]? = some (.cells #[.bool t343, .bool t344, .bool t345, .bool t346, .bool false] 30 (0, 0))) := ⟨by (with_reducible repeat (first | refine blk_drewN ?_ _ | refine blk_drew ?_ | refine blk_alloc ?_ _)); refine blk_far ?_ NB348_355.out _; (with_reducible repeat (first | refine blk_drewN ?_ _ | refine blk_drew ?_ | refine blk_alloc ?_ _)); refine blk_far ?_ NB348_355.out _; (with_reducible repeat (first | refine blk_drewN ?_ _ | refine blk_drew ?_ | refine blk_alloc ?_ _)); refine blk_far ?_ NB348_355.out _; (with_reducible repeat (first | refine blk_drewN ?_ _ | refine blk_drew ?_ | refine blk_alloc ?_ _)); refine blk_far ?_ NB348_355.out _; (with_reducible repeat (first | refine blk_drewN ?_ _ | refine blk_drew ?_ | refine blk_alloc ?_ _)); refine blk_far ?_ NB348_355.out _; (with_reducible repeat (first | refine blk_drewN ?_ _ | refine blk_drew ?_ | refine blk_alloc ?_ _)); exact BK348.out⟩
          have n2_ : Aside0 ((((((w61.setCell ⟨gb355, 0, none⟩ (.bool t350)).setCell ⟨gb355, 1, none⟩ (.bool t351)).setCell ⟨gb355, 2, none⟩ (.bool t352)).setCell ⟨gb355, 3, none⟩ (.bool t353)).setCell ⟨gb355, 4, none⟩ (.bool t354)).heap[gb355]? = some (.cells #[.bool t350, .bool t351, .bool t352, .bool t353, .bool t354] 30 (0, 0))) := ⟨by (with_reducible repeat (first | refine blk_drewN ?_ _ | refine blk_drew ?_ | refine blk_alloc ?_ _)); refine blk_put (cs := #[.bool t350, .bool t351, .bool t352, .bool t353, .bool false]) ?_ 4 _ rfl; (with_reducible repeat (first | refine blk_drewN ?_ _ | refine blk_drew ?_ | refine blk_alloc ?_ _)); refine blk_put (cs := #[.bool t350, .bool t351, .bool t352, .bool false, .bool false]) ?_ 3 _ rfl; (with_reducible repeat (first | refine blk_drewN ?_ _ | refine blk_drew ?_ | refine blk_alloc ?_ _)); refine blk_put (cs := #[.bool t350, .bool t351, .bool false, .bool false, .bool false]) ?_ 2 _ rfl; (with_reducible repeat (first | refine blk_drewN ?_ _ | refine blk_drew ?_ | refine blk_alloc ?_ _)); refine blk_put (cs := #[.bool t350, .bool false, .bool false, .bool false, .bool false]) ?_ 1 _ rfl; (with_reducible repeat (first | refine blk_drewN ?_ _ | refine blk_drew ?_ | refine blk_alloc ?_ _)); refine blk_put (cs := #[.bool false, .bool false, .bool false, .bool false, .bool false]) ?_ 0 _ rfl; (with_reducible repeat (first | refine blk_drewN ?_ _ | refine blk_drew ?_ | refine blk_alloc ?_ _)); exact BK355.out⟩
          have n3_ : Aside0 (Below w.heap.size w (((((w61.setCell ⟨gb355, 0, none⟩ (.bool t350)).setCell ⟨gb355, 1, none⟩ (.bool t351)).setCell ⟨gb355, 2, none⟩ (.bool t352)).setCell ⟨gb355, 3, none⟩ (.bool t353)).setCell ⟨gb355, 4, none⟩ (.bool t354))) := ⟨by repeat (first | (with_reducible first | exact HB.out | apply below_alloc | apply pw_below_drewN | apply below_drew1 | refine below_set ?_ GE340.out | refine below_set ?_ GE348.out | refine below_set ?_ GE355.out) | exact HB.out)⟩
          (try clear BK340)
          (try clear BK348)
          (try clear BK355)
          (try clear HB)
          generalize (((((w61.setCell ⟨gb355, 0, none⟩ (.bool t350)).setCell ⟨gb355, 1, none⟩ (.bool t351)).setCell ⟨gb355, 2, none⟩ (.bool t352)).setCell ⟨gb355, 3, none⟩ (.bool t353)).setCell ⟨gb355, 4, none⟩ (.bool t354)) = w65 at n0_ n1_ n2_ n3_ ⊢
          have BK340 := n0_
          have BK348 := n1_
          have BK355 := n2_
          have HB := n3_
          clear n0_ n1_ n2_ n3_
          have n0_ := Aside0.mk (blk_drew BK340.out)
          have n1_ := Aside0.mk (blk_drew BK348.out)
          have n2_ := Aside0.mk (blk_drew BK355.out)
          have n3_ := Aside0.mk (below_drew1 HB.out)
          clear BK340
          clear BK348
          clear BK355
          clear HB
          have BK340 := n0_
          have BK348 := n1_
          have BK355 := n2_
          have HB := n3_
          clear n0_ n1_ n2_ n3_
          refine start_ (n := 14) (S := fun w' => w'.cell? ⟨gb340, 0, none⟩ = some (.int .i64 x341000_6)) (ds := []) #[false, false, false, false, false, false, false, false, false, false, false, false, false, false] (by kernel_rfl) rfl rfl ((blk_cell BK340.out 0).trans rfl) (fun hHeld => ?_); refine with_tabW anneallaw11_ChanceBetween.tab9 anneallaw11_ChanceBetween.bits9 (fun HT_ HW_ => ?_)
          generalize w65.drew = w66 at BK340 BK348 BK355 HB hHeld ⊢
          refine pure_ (i := 1) (N := some 36) (v := ?_) (a' := ?_) #[false, true, false, false, false, false, false, false, false, false, false, false, false, false] rfl rfl (any_of HT_.out (by kernel_rfl)) (fun _ _ _ h => h) (Or.inl ⟨by rfl, ?_⟩) ?_ ?_
          rotate_left
          · intro w'
            go_simp
            with_reducible rfl
          rotate_left
          · simp only [Act.put, List.setIfInBounds_toArray, List.set_cons_zero, List.set_cons_succ, i64_w, i32_w]
            rfl
          refine pure_ (i := 2) (N := some 37) (v := ?_) (a' := ?_) #[false, true, true, false, false, false, false, false, false, false, false, false, false, false] rfl rfl (any_of HT_.out (by kernel_rfl)) (fun _ _ _ h => h) (Or.inl ⟨by rfl, ?_⟩) ?_ ?_
          rotate_left
          · intro w'
            go_simp
            with_reducible rfl
          rotate_left
          · simp only [Act.put, List.setIfInBounds_toArray, List.set_cons_zero, List.set_cons_succ, i64_w, i32_w]
            rfl
          refine pure_ (i := 3) (N := some 38) (v := ?_) (a' := ?_) #[false, true, true, true, false, false, false, false, false, false, false, false, false, false] rfl rfl (any_of HT_.out (by kernel_rfl)) (fun _ _ _ h => h) (Or.inl ⟨by rfl, ?_⟩) ?_ ?_
          rotate_left
          · intro w'
            go_simp
            with_reducible rfl
          rotate_left
          · simp only [Act.put, List.setIfInBounds_toArray, List.set_cons_zero, List.set_cons_succ, i64_w, i32_w]
            rfl
          refine pure_ (i := 4) (N := some 39) (v := ?_) (a' := ?_) #[false, true, true, true, true, false, false, false, false, false, false, false, false, false] rfl rfl (any_of HT_.out (by kernel_rfl)) (fun _ _ _ h => h) (Or.inl ⟨by rfl, ?_⟩) ?_ ?_
          rotate_left
          · intro w'
            go_simp
            with_reducible rfl
          rotate_left
          · simp only [Act.put, List.setIfInBounds_toArray, List.set_cons_zero, List.set_cons_succ, i64_w, i32_w]
            rfl
          refine pure_ (i := 7) (N := some 42) (v := ?_) (a' := ?_) #[false, true, true, true, true, false, false, true, false, false, false, false, false, false] rfl rfl (any_of HT_.out (by kernel_rfl)) (fun _ _ _ h => h) (Or.inl ⟨by rfl, ?_⟩) ?_ ?_
          rotate_left
          · intro w'
            go_simp
            with_reducible rfl
          rotate_left
          · simp only [Act.put, List.setIfInBounds_toArray, List.set_cons_zero, List.set_cons_succ, i64_w, i32_w]
            rfl
          refine pure_ (i := 8) (N := some 43) (v := ?_) (a' := ?_) #[false, true, true, true, true, false, false, true, true, false, false, false, false, false] rfl rfl (any_of HT_.out (by kernel_rfl)) (fun _ _ _ h => h) (Or.inl ⟨by rfl, ?_⟩) ?_ ?_
          rotate_left
          · intro w'
            go_simp
            with_reducible rfl
          rotate_left
          · simp only [Act.put, List.setIfInBounds_toArray, List.set_cons_zero, List.set_cons_succ, i64_w, i32_w]
            rfl
          refine pure_ (i := 9) (N := some 44) (v := ?_) (a' := ?_) #[false, true, true, true, true, false, false, true, true, true, false, false, false, false] rfl rfl (any_of HT_.out (by kernel_rfl)) (fun _ _ _ h => h) (Or.inl ⟨by rfl, ?_⟩) ?_ ?_
          rotate_left
          · intro w'
            go_simp
            with_reducible rfl
          rotate_left
          · simp only [Act.put, List.setIfInBounds_toArray, List.set_cons_zero, List.set_cons_succ, i64_w, i32_w]
            rfl
          refine pure_ (i := 10) (N := some 45) (v := ?_) (a' := ?_) #[false, true, true, true, true, false, false, true, true, true, true, false, false, false] rfl rfl (any_of HT_.out (by kernel_rfl)) (fun _ _ _ h => h) (Or.inl ⟨by rfl, ?_⟩) ?_ ?_
          rotate_left
          · intro w'
            go_simp
            with_reducible rfl
          rotate_left
          · simp only [Act.put, List.setIfInBounds_toArray, List.set_cons_zero, List.set_cons_succ, i64_w, i32_w]
            rfl
          refine take_ (i := 0) (N := some 35) (v := ?_) (a' := ?_) #[true, true, true, true, true, false, false, true, true, true, true, false, false, false] rfl rfl (take_ofW HT_.out HW_.out (by kernel_rfl)) (fun _ _ _ h => h) (Or.inl ⟨by rfl, ?_⟩) hHeld ?_ ?_
          rotate_left
          · intro w' s0
            go_simp
            with_reducible rfl
          rotate_left
          · simp only [Act.put, List.setIfInBounds_toArray, List.set_cons_zero, List.set_cons_succ, i64_w, i32_w]
            rfl
          refine take_ (i := 6) (N := some 41) (v := ?_) (a' := ?_) #[true, true, true, true, true, false, true, true, true, true, true, false, false, false] rfl rfl (take_ofW HT_.out HW_.out (by kernel_rfl)) (fun _ _ _ h => h) (Or.inl ⟨by rfl, ?_⟩) hHeld ?_ ?_
          rotate_left
          · intro w' s0
            go_simp
            with_reducible rfl
          rotate_left
          · simp only [Act.put, List.setIfInBounds_toArray, List.set_cons_zero, List.set_cons_succ, i64_w, i32_w]
            rfl
          refine one_ (i := 5) (N := some 40) #[true, true, true, true, true, true, true, true, true, true, true, false, false, false] rfl rfl (one_of HT_.out (by kernel_rfl)) (by decide) (fun K hK => ?_)
          refine goes_ Try.func38 (by kernel_rfl) rfl #[.int .i64 x341000_6, .int .u32 t341, .int .u32 ji16] (by rfl) rfl rfl (by (try simp only [List.map_toArray, List.map_cons, List.map_nil]); first | done | (simp only [hji16]; rfl) | rfl | (simp only [List.length_drop, List.length_take]; rfl)) ?_
          with_reducible refine (chance_Narrow.calls kj6 x341000_6 t341 ji16 t356 _ A17.out).mono ?_
          rintro e w67 ⟨rfl, hb⟩
          refine ⟨_, rfl, ?_⟩
          have n0_ := Aside0.mk (blk_below (g := gb340) (o := .cells #[.int .i64 x341000_6] 3 (0, 0)) (by (with_reducible repeat (first | refine blk_drewN ?_ _ | refine blk_drew ?_ | refine blk_alloc ?_ _)); exact BK340.out) hb)
          have n1_ := Aside0.mk (blk_below (g := gb348) (o := .cells #[.bool t343, .bool t344, .bool t345, .bool t346, .bool false] 30 (0, 0)) (by (with_reducible repeat (first | refine blk_drewN ?_ _ | refine blk_drew ?_ | refine blk_alloc ?_ _)); exact BK348.out) hb)
          have n2_ := Aside0.mk (blk_below (g := gb355) (o := .cells #[.bool t350, .bool t351, .bool t352, .bool t353, .bool t354] 30 (0, 0)) (by (with_reducible repeat (first | refine blk_drewN ?_ _ | refine blk_drew ?_ | refine blk_alloc ?_ _)); exact BK355.out) hb)
          have n3_ := Aside0.mk (below_step (by repeat (first | (with_reducible first | exact HB.out | apply below_alloc | apply pw_below_drewN | apply below_drew1 | refine below_set ?_ GE340.out | refine below_set ?_ GE348.out | refine below_set ?_ GE355.out) | exact HB.out)) hb)
          clear BK340
          clear BK348
          clear BK355
          clear HB
          have BK340 := n0_
          have BK348 := n1_
          have BK355 := n2_
          have HB := n3_
          clear n0_ n1_ n2_ n3_
          (try clear hb)
          (try clear hb2)
          (try clear hk)
          (try clear hi)
          refine hK.out _ _ ((blk_cell BK340.out 0).trans rfl) (fun hHeld => ?_)
          clear hK K
          refine norm_ (a' := ?_) ?_ ?_
          rotate_left
          · show Act.put _ (some 40) _ = _
            simp only [Act.put, List.setIfInBounds_toArray, List.set_cons_zero, List.set_cons_succ, i64_w, i32_w]
            rfl
          refine one_ (i := 11) (N := some 46) #[true, true, true, true, true, true, true, true, true, true, true, true, false, false] rfl rfl (one_of HT_.out (by kernel_rfl)) (by decide) (fun K hK => ?_)
          refine goes_ Try.func38 (by kernel_rfl) rfl #[.int .i64 x341000_6, .int .u32 t341, .int .u32 ji18] (by rfl) rfl rfl (by (try simp only [List.map_toArray, List.map_cons, List.map_nil]); first | done | (simp only [hji18]; rfl) | rfl | (simp only [List.length_drop, List.length_take]; rfl)) ?_
          with_reducible refine (chance_Narrow.calls kj6 x341000_6 t341 ji18 t357 _ A19.out).mono ?_
          rintro e w68 ⟨rfl, hb⟩
          refine ⟨_, rfl, ?_⟩
          have n0_ := Aside0.mk (blk_below (g := gb340) (o := .cells #[.int .i64 x341000_6] 3 (0, 0)) (by (with_reducible repeat (first | refine blk_drewN ?_ _ | refine blk_drew ?_ | refine blk_alloc ?_ _)); exact BK340.out) hb)
          have n1_ := Aside0.mk (blk_below (g := gb348) (o := .cells #[.bool t343, .bool t344, .bool t345, .bool t346, .bool false] 30 (0, 0)) (by (with_reducible repeat (first | refine blk_drewN ?_ _ | refine blk_drew ?_ | refine blk_alloc ?_ _)); exact BK348.out) hb)
          have n2_ := Aside0.mk (blk_below (g := gb355) (o := .cells #[.bool t350, .bool t351, .bool t352, .bool t353, .bool t354] 30 (0, 0)) (by (with_reducible repeat (first | refine blk_drewN ?_ _ | refine blk_drew ?_ | refine blk_alloc ?_ _)); exact BK355.out) hb)
          have n3_ := Aside0.mk (below_step (by repeat (first | (with_reducible first | exact HB.out | apply below_alloc | apply pw_below_drewN | apply below_drew1 | refine below_set ?_ GE340.out | refine below_set ?_ GE348.out | refine below_set ?_ GE355.out) | exact HB.out)) hb)
          clear BK340
          clear BK348
          clear BK355
          clear HB
          have BK340 := n0_
          have BK348 := n1_
          have BK355 := n2_
          have HB := n3_
          clear n0_ n1_ n2_ n3_
          (try clear hb)
          (try clear hb2)
          (try clear hk)
          (try clear hi)
          refine hK.out _ _ ((blk_cell BK340.out 0).trans rfl) (fun hHeld => ?_)
          clear hK K
          refine norm_ (a' := ?_) ?_ ?_
          rotate_left
          · show Act.put _ (some 46) _ = _
            simp only [Act.put, List.setIfInBounds_toArray, List.set_cons_zero, List.set_cons_succ, i64_w, i32_w]
            rfl
          refine pure_ (i := 12) (N := some 15) (v := ?_) (a' := ?_) #[true, true, true, true, true, true, true, true, true, true, true, true, true, false] rfl rfl (any_of HT_.out (by kernel_rfl)) (fun _ _ _ h => h) (Or.inl ⟨by rfl, ?_⟩) ?_ ?_
          rotate_left
          · intro w'
            go_simp
            with_reducible rfl
          rotate_left
          · simp only [Act.put, List.setIfInBounds_toArray, List.set_cons_zero, List.set_cons_succ, i64_w, i32_w]
            rfl
          refine pure_ (i := 13) (N := some 16) (v := ?_) (a' := ?_) #[true, true, true, true, true, true, true, true, true, true, true, true, true, true] rfl rfl (any_of HT_.out (by kernel_rfl)) (fun _ _ _ h => h) (Or.inl ⟨by rfl, ?_⟩) ?_ ?_
          rotate_left
          · intro w'
            go_simp
            with_reducible rfl
          rotate_left
          · simp only [Act.put, List.setIfInBounds_toArray, List.set_cons_zero, List.set_cons_succ, i64_w, i32_w]
            rfl
          refine done_ (done_of HT_.out (by kernel_rfl)) ?_
          have hcz69_0 : w68.cell? ⟨gb348, 0, none⟩ = some (.bool t343) := (blk_cell BK348.out 0).trans rfl
          have hcz69_1 : w68.cell? ⟨gb348, 1, none⟩ = some (.bool t344) := (blk_cell BK348.out 1).trans rfl
          have hcz69_2 : w68.cell? ⟨gb348, 2, none⟩ = some (.bool t345) := (blk_cell BK348.out 2).trans rfl
          have hcz69_3 : w68.cell? ⟨gb348, 3, none⟩ = some (.bool t346) := (blk_cell BK348.out 3).trans rfl
          have hcz69_4 : w68.cell? ⟨gb348, 4, none⟩ = some (.bool false) := (blk_cell BK348.out 4).trans rfl
          have hfz69_0 := blk_frozen BK348.out 0
          have hfz69_1 := blk_frozen BK348.out 1
          have hfz69_2 := blk_frozen BK348.out 2
          have hfz69_3 := blk_frozen BK348.out 3
          have hfz69_4 := blk_frozen BK348.out 4
          go_upto_region 11 with (fail)
          go_cut [8] (fun v8 wc => ∃ (kq : Nat) (x8_52 : Bool), v8 = .bool x8_52 ∧ Aside0 (anneallaw11_ChanceBetween.j1 kq x8_52 = some r) ∧ Aside0 (kq ≤ kj6) ∧ Aside0 (wc.heap[gb340]? = some (.cells #[.int .i64 x341000_6] 3 (0, 0))) ∧ Aside0 (wc.heap[gb348]? = some (.cells #[.bool t343, .bool t344, .bool t345, .bool t346, .bool false] 30 (0, 0))) ∧ Aside0 (wc.heap[gb355]? = some (.cells #[.bool t350, .bool t351, .bool t352, .bool t353, .bool t354] 30 (0, 0))) ∧ Aside0 (Below w.heap.size w wc))
          case first =>
            have H := HC53.out
            clear HC53
            by_cases c70 : t356 = t342
            · rw [if_pos c70] at H
              have c70b0 : (t356 == t342) = true := beq_iff_eq.mpr c70
              have c70b1 : (t356 != t342) = false := bne_eq_false_iff_eq.mpr c70
              clear c70
              (first | rw [c70b0] | (simp only [i64_w, i32_w]; rw [c70b0]) | skip)
              by_cases c71 : t357 = t342
              · rw [if_pos c71] at H
                have c71b0 : (t357 == t342) = true := beq_iff_eq.mpr c71
                have c71b1 : (t357 != t342) = false := bne_eq_false_iff_eq.mpr c71
                clear c71
                have H' := Aside0.mk H
                clear H
                go_wp2
                go_meet
                case rel => exact ⟨_, ((t342 == t349)), (by first | rfl | (simp; done) | (simp [*]; done) | (congr 1; (try unfold wrap64); omega) | (congr 1; rw [IntKind.wrap_u64]; omega)), H', ⟨by have := HJ6.out; first | omega | exact Nat.le_refl _⟩, ⟨by (with_reducible repeat (first | refine blk_drewN ?_ _ | refine blk_drew ?_ | refine blk_alloc ?_ _)); exact BK340.out⟩, ⟨by (with_reducible repeat (first | refine blk_drewN ?_ _ | refine blk_drew ?_ | refine blk_alloc ?_ _)); exact BK348.out⟩, ⟨by (with_reducible repeat (first | refine blk_drewN ?_ _ | refine blk_drew ?_ | refine blk_alloc ?_ _)); exact BK355.out⟩, ⟨by repeat (first | (with_reducible first | exact HB.out | apply below_alloc | apply pw_below_drewN | apply below_drew1 | refine below_set ?_ GE340.out | refine below_set ?_ GE348.out | refine below_set ?_ GE355.out) | exact HB.out)⟩⟩
              · rw [if_neg c71] at H
                have c71b0 : (t357 == t342) = false := beq_eq_false_iff_ne.mpr c71
                have c71b1 : (t357 != t342) = true := bne_iff_ne.mpr c71
                have H' := Aside0.mk H
                clear H
                go_wp2
                go_meet
                case rel => exact ⟨_, (false), (by first | rfl | (simp; done) | (simp [*]; done) | (congr 1; (try unfold wrap64); omega) | (congr 1; rw [IntKind.wrap_u64]; omega)), H', ⟨by have := HJ6.out; first | omega | exact Nat.le_refl _⟩, ⟨by (with_reducible repeat (first | refine blk_drewN ?_ _ | refine blk_drew ?_ | refine blk_alloc ?_ _)); exact BK340.out⟩, ⟨by (with_reducible repeat (first | refine blk_drewN ?_ _ | refine blk_drew ?_ | refine blk_alloc ?_ _)); exact BK348.out⟩, ⟨by (with_reducible repeat (first | refine blk_drewN ?_ _ | refine blk_drew ?_ | refine blk_alloc ?_ _)); exact BK355.out⟩, ⟨by repeat (first | (with_reducible first | exact HB.out | apply below_alloc | apply pw_below_drewN | apply below_drew1 | refine below_set ?_ GE340.out | refine below_set ?_ GE348.out | refine below_set ?_ GE355.out) | exact HB.out)⟩⟩
            · rw [if_neg c70] at H
              have c70b0 : (t356 == t342) = false := beq_eq_false_iff_ne.mpr c70
              have c70b1 : (t356 != t342) = true := bne_iff_ne.mpr c70
              (first | rw [c70b0] | (simp only [i64_w, i32_w]; rw [c70b0]) | skip)
              have H' := Aside0.mk H
              clear H
              go_wp2
              go_meet
              case rel => exact ⟨_, (false), (by first | rfl | (simp; done) | (simp [*]; done) | (congr 1; (try unfold wrap64); omega) | (congr 1; rw [IntKind.wrap_u64]; omega)), H', ⟨by have := HJ6.out; first | omega | exact Nat.le_refl _⟩, ⟨by (with_reducible repeat (first | refine blk_drewN ?_ _ | refine blk_drew ?_ | refine blk_alloc ?_ _)); exact BK340.out⟩, ⟨by (with_reducible repeat (first | refine blk_drewN ?_ _ | refine blk_drew ?_ | refine blk_alloc ?_ _)); exact BK348.out⟩, ⟨by (with_reducible repeat (first | refine blk_drewN ?_ _ | refine blk_drew ?_ | refine blk_alloc ?_ _)); exact BK355.out⟩, ⟨by repeat (first | (with_reducible first | exact HB.out | apply below_alloc | apply pw_below_drewN | apply below_drew1 | refine below_set ?_ GE340.out | refine below_set ?_ GE348.out | refine below_set ?_ GE355.out) | exact HB.out)⟩⟩
          case rest =>
            clear HC53
            try clear c1
            try clear c2
            try clear p2
            try clear c3
            try clear c4
            try clear c5
            try clear c6
            try clear p6
            try clear c7
            try clear c11
            try clear c12
            try clear c20
            try clear c25
            try clear c27
            try clear c29
            try clear c30
            try clear c31
            try clear c37
            try clear c38
            try clear c39
            try clear c39b0
            try clear c39b1
            try clear c40
            try clear c40b0
            try clear c40b1
            try clear c43
            try clear c43b0
            try clear c43b1
            try clear c46
            try clear c46b0
            try clear c46b1
            try clear c47
            try clear c47b0
            try clear c47b1
            try clear c50
            try clear c50b0
            try clear c50b1
            try clear c57
            try clear c62
            try clear c63
            try clear p64
            try clear c70
            try clear c70b0
            try clear c70b1
            try clear c71
            try clear c71b0
            try clear c71b1
            try clear hcz10_0
            try clear hcz12_0
            try clear hcz22_0
            try clear hcz26_0
            try clear hcz26_1
            try clear hcz26_2
            try clear hcz26_3
            try clear hcz26_4
            try clear hcz27_0
            try clear hcz32_0
            try clear hcz32_1
            try clear hcz32_2
            try clear hcz32_3
            try clear hcz32_4
            try clear hcz37_0
            try clear hcz37_1
            try clear hcz37_2
            try clear hcz37_3
            try clear hcz37_4
            try clear hcz38_0
            try clear hcz54_0
            try clear hcz58_0
            try clear hcz58_1
            try clear hcz58_2
            try clear hcz58_3
            try clear hcz58_4
            try clear hcz59_0
            try clear hcz64_0
            try clear hcz64_1
            try clear hcz64_2
            try clear hcz64_3
            try clear hcz64_4
            try clear hcz69_0
            try clear hcz69_1
            try clear hcz69_2
            try clear hcz69_3
            try clear hcz69_4
            try clear hfz10_0
            try clear hfz12_0
            try clear hfz22_0
            try clear hfz26_0
            try clear hfz26_1
            try clear hfz26_2
            try clear hfz26_3
            try clear hfz26_4
            try clear hfz27_0
            try clear hfz32_0
            try clear hfz32_1
            try clear hfz32_2
            try clear hfz32_3
            try clear hfz32_4
            try clear hfz37_0
            try clear hfz37_1
            try clear hfz37_2
            try clear hfz37_3
            try clear hfz37_4
            try clear hfz38_0
            try clear hfz54_0
            try clear hfz58_0
            try clear hfz58_1
            try clear hfz58_2
            try clear hfz58_3
            try clear hfz58_4
            try clear hfz59_0
            try clear hfz64_0
            try clear hfz64_1
            try clear hfz64_2
            try clear hfz64_3
            try clear hfz64_4
            try clear hfz69_0
            try clear hfz69_1
            try clear hfz69_2
            try clear hfz69_3
            try clear hfz69_4
            try clear p2
            try clear p6
            obtain ⟨kq, x8_52, rfl, HA, HJ52, BK340, BK348, BK355, HB⟩ := hcut
            cases kq with
            | zero => exact absurd HA.out (by simp [anneallaw11_ChanceBetween.j1])
            | succ kj52 =>
              have H := HA.out
              clear HA
              simp only [anneallaw11_ChanceBetween.j1] at H
              obtain rfl := Option.some.inj H
              go_wp2
              go_ret
              exact ⟨by first | rfl | (simp [errW_none, errW_some] <;> rfl) | (simp only [← hji16, ← hji18]; first | rfl | (simp [errW_none, errW_some] <;> rfl)) | (simp [*, errW_none, errW_some] <;> rfl), by repeat (first | (with_reducible first | exact HB.out | apply below_alloc | apply pw_below_drewN | apply below_drew1 | refine below_set ?_ GE340.out | refine below_set ?_ GE348.out | refine below_set ?_ GE355.out) | exact HB.out)⟩
  · replace c6 := Bool.eq_false_iff.mpr c6
    subst c6
    have H1 : (some false) = some r := by rw [if_neg (show ¬ (false = true) by decide)] at H; exact H
    clear H
    have H := H1
    clear H1
    obtain rfl := Option.some.inj H
    go_enter Try.func12, Try.ntmps12
    go_wp2_with (first | ((with_reducible refine gate_callee (f := 37) rfl ?_); refine goesL_ (some 18) rfl rfl Try.func37 (by kernel_rfl) rfl #[] rfl (by (try simp only [List.map_toArray, List.map_cons, List.map_nil]); first | done | rfl | (simp only [List.length_drop, List.length_take]; rfl)) ?_; (with_reducible refine (anneallaw11_known.calls k  false _ A5.out).mono ?_); rintro e w72 ⟨rfl, hb⟩; refine ⟨_, rfl, ?_⟩; have n0_ := Aside0.mk (below_step (by repeat (first | (with_reducible first | exact HB.out | apply below_alloc | apply pw_below_drewN | apply below_drew1) | exact HB.out)) hb); clear HB; have HB := n0_; clear n0_; (try clear hb); (try clear hb2); (try clear hk); (try clear hi)))
    go_ret
    exact ⟨by first | rfl | (simp [errW_none, errW_some] <;> rfl) | (simp [*, errW_none, errW_some] <;> rfl), by repeat (first | (with_reducible first | exact HB.out | apply below_alloc | apply pw_below_drewN | apply below_drew1) | exact HB.out)⟩

/-- THE ONE PURE STATEMENT of anneallaw11_ChanceBetween: yours. -/
def anneallaw11_ChanceBetween.Pure : Prop := ∀ (a0 : Bool) (a1 : Int) (a2 : Int) (a3 : Int), (Lit.int .u32 a1).wf = true → (Lit.int .u32 a2).wf = true → (Lit.int .u32 a3).wf = true → ∃ k, anneallaw11_ChanceBetween.f k a0 a1 a2 a3 = some true
theorem anneallaw11_ChanceBetween.walk (P : anneallaw11_ChanceBetween.Pure) (a0 : Bool) (a1 : Int) (a2 : Int) (a3 : Int) (w : World) (w1 : (Lit.int .u32 a1).wf = true) (w2 : (Lit.int .u32 a2).wf = true) (w3 : (Lit.int .u32 a3).wf = true) :
    Calls Try.prog 12 #[.bool a0, .int .u32 a1, .int .u32 a2, .int .u32 a3] w fun e w' => e = .returned (.bool true) ∧ Below w.heap.size w w' := by
  obtain ⟨k, h⟩ := P a0 a1 a2 a3 w1 w2 w3
  refine (anneallaw11_ChanceBetween.calls k a0 a1 a2 a3 true w h).mono ?_
  rintro e w' ⟨rfl, hd⟩
  exact ⟨rfl, hd⟩

end Go.Proofs.Ytoljndjpnbdjmaa.P
