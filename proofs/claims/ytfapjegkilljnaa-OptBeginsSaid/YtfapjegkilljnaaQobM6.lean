import Derived.Test.YtfapjegkilljnaaQobZ
import Derived.Test.YtfapjegkilljnaaQobM4
import Derived.Test.YtfapjegkilljnaaQobM5
-- Printed by a program of this session's out of Lean's print of the translation; Lean checks it.
set_option linter.unusedVariables false
set_option linter.unusedSimpArgs false
set_option maxRecDepth 100000
set_option maxHeartbeats 8000000
namespace Go.Proofs.Ytfapjegkilljnaa.P
open Go.RowKit Go.Proofs.YtfapjegkilljnaaW.PrintWords Go.Proofs.YtfapjegkilljnaaW.PrintLast Go.Proofs.YtfapjegkilljnaaW.PrintMore
attribute [local go_sem] max2_int min2_int max_two min_two max_three min_three max_four min_four

-- NEED 0
/-! ### opt_single: function 33 -/
-- NEED 0
/-! ### aM: function 91 -/
def aM.j0 : Nat → Int → Bool → Bool → Bool → Bool → Option (Int × Bool × Bool × Bool × Bool × Bool)
 |0, _, _, _, _, _ => none
 |k + 1, x0, x1, x2, x3, x12 => if x12 = true then ((dJ.f x0).bind fun bt311 => (some (bt311.1, bt311.2.1, bt311.2.2.1, bt311.2.2.2.1, bt311.2.2.2.2.1, bt311.2.2.2.2.2))) else (if x3 = true then ((bH.f x0 x1).bind fun t317 => (some (t317, false, false, false, false, false))) else ((bH.f x0 x2).bind fun t318 => (some (t318, false, false, false, false, false))))
def aM.f (k : Nat) (a0 : Int) (a1 a2 : Bool) (a3 a4 : Bool) : Option (Int × Bool × Bool × Bool × Bool × Bool) := if a3 = true then (if a4 = true then (aM.j0 k a0 a1 a2 a3 (a1 != a2)) else (aM.j0 k a0 a1 a2 a3 false)) else (aM.j0 k a0 a1 a2 a3 false)
theorem aM.fU : ∀ k, (∀ y0 y1 y2 y3 y4, LeO (aM.j0 k y0 y1 y2 y3 y4) (aM.j0 (k + 1) y0 y1 y2 y3 y4))
 |0 => fun _ _ _ _ _ r h => by simp [aM.j0] at h
 |k + 1 => by
  have ih0 := aM.fU k
  ·intro y0 y1 y2 y3 y4
   unfold aM.j0
   repeat' first
   |(with_reducible first|exact ih0 _ _ _ _ _|exact LeO.refl _|exact LeO.none _|refine LeO.ite ?_ ?_|refine LeO.bind ?_ (fun _ => ?_))
   |exact ih0 _ _ _ _ _
   |exact LeO.none _
   |refine LeO.ite ?_ ?_
   |refine LeO.bind ?_ (fun _ => ?_)
theorem aM.mono : ∀ a0 a1 a2 a3 a4 k, LeO (aM.f k a0 a1 a2 a3 a4) (aM.f (k + 1) a0 a1 a2 a3 a4) := by
 intro a0 a1 a2 a3 a4 k
 have ih0 := aM.fU k
 unfold aM.f
 repeat' first
   |(with_reducible first|exact ih0 _ _ _ _ _|exact LeO.refl _|exact LeO.none _|refine LeO.ite ?_ ?_|refine LeO.bind ?_ (fun _ => ?_))
   |exact ih0 _ _ _ _ _
   |exact LeO.none _
   |refine LeO.ite ?_ ?_
   |refine LeO.bind ?_ (fun _ => ?_)
theorem aM.calls (k : Nat) (a0 : Int) (a1 a2 : Bool) (a3 a4 : Bool) (r1 : Int) (r2 r3 : Bool) (r4 r5 r6 : Bool) (w : World) (h : aM.f k a0 a1 a2 a3 a4 = some (r1, r2, r3, r4, r5, r6)) :
  Calls Try.prog 91 #[.int .i64 a0, .bool a1, .bool a2, .bool a3, .bool a4] w fun e w' => e = .returned (.tuple #[.int .u32 r1, .agg #[.bool r2, .bool r3, .bool r4, .bool r5, .bool r6]]) ∧ Below w.heap.size w w' := by
 have hu60 := Try.underlying60
 have HB := Aside0.mk (Below.refl w.heap.size w)
 have H : (if a3 = true then (if a4 = true then (aM.j0 k a0 a1 a2 a3 (a1 != a2)) else (aM.j0 k a0 a1 a2 a3 false)) else (aM.j0 k a0 a1 a2 a3 false)) = some (r1, r2, r3, r4, r5, r6) := h
 clear h
 have HC6 := Aside0.mk H
 clear H
 go_enter Try.func91, Try.ntmps91
 go_upto_region 1 with (first | ((with_reducible refine gate_dst (N := 11) rfl ?_); refine box_event ?hg (N := 11) ?hd (cs := F5) (t := 60) ?hr ?_; (case hd => rfl); (case hg => rfl); (case hr => first | (go_simp; done) | (go_simp; rfl)); intro gb310 hg w7 hbox hb; have n0_ := Aside0.mk (below_step (bl0 HB.out) hb); have n1_ := Aside0.mk (hbox); have n2_ := Aside0.mk ((by rw [hg]; exact (below_size (bl0 HB.out)) : w.heap.size ≤ gb310)); have n3_ := n2_; clear HB; have HB := n0_; have BK310 := n1_; have GW310 := n2_; have GE310 := n3_; clear n0_ n1_ n2_ n3_; clear hb hbox hg))
 (try simp only [Act.put, sb, sz, ss])
 go_cut [12] (fun v12 wc => ∃ (kq : Nat) (x12_5 : Bool), v12 = .bool x12_5 ∧ Aside0 (aM.j0 kq a0 a1 a2 a3 x12_5 = some (r1, r2, r3, r4, r5, r6)) ∧ Aside0 (kq ≤ k) ∧ Aside0 (wc.heap[gb310]? = some (o5_ false false false false false 60)) ∧ Aside0 (Below w.heap.size w wc))
 case first =>
  have H := HC6.out
  clear HC6
  by_cases c8 : a3 = true
  ·subst c8
   have H1 : (if a4 = true then (aM.j0 k a0 a1 a2 true (a1 != a2)) else (aM.j0 k a0 a1 a2 true false)) = some (r1, r2, r3, r4, r5, r6) := by rw [if_pos rfl] at H; exact H
   clear H
   have H := H1
   clear H1
   by_cases c9 : a4 = true
   ·subst c9
    have H1 : (aM.j0 k a0 a1 a2 true (a1 != a2)) = some (r1, r2, r3, r4, r5, r6) := by rw [if_pos rfl] at H; exact H
    clear H
    have H := H1
    clear H1
    have H' := Aside0.mk H
    clear H
    go_wp2
    go_meet
    case rel => exact ⟨_, ((a1 != a2)), (gr_), H', ⟨by first | omega | exact Nat.le_refl _⟩, ⟨by (with_reducible repeat first | apply bd | apply be | apply ba); exact BK310.out⟩, ⟨bl1 HB.out GE310.out⟩⟩
   ·replace c9 := Bool.eq_false_iff.mpr c9
    subst c9
    have H1 : (aM.j0 k a0 a1 a2 true false) = some (r1, r2, r3, r4, r5, r6) := by rw [if_neg (show ¬ (false = true) by decide)] at H; exact H
    clear H
    have H := H1
    clear H1
    have H' := Aside0.mk H
    clear H
    go_wp2
    go_meet
    case rel => exact ⟨_, (false), (gr_), H', ⟨by first | omega | exact Nat.le_refl _⟩, ⟨by (with_reducible repeat first | apply bd | apply be | apply ba); exact BK310.out⟩, ⟨bl1 HB.out GE310.out⟩⟩
  ·replace c8 := Bool.eq_false_iff.mpr c8
   subst c8
   have H1 : (aM.j0 k a0 a1 a2 false false) = some (r1, r2, r3, r4, r5, r6) := by rw [if_neg (show ¬ (false = true) by decide)] at H; exact H
   clear H
   have H := H1
   clear H1
   have H' := Aside0.mk H
   clear H
   go_wp2
   go_meet
   case rel => exact ⟨_, (false), (gr_), H', ⟨by first | omega | exact Nat.le_refl _⟩, ⟨by (with_reducible repeat first | apply bd | apply be | apply ba); exact BK310.out⟩, ⟨bl1 HB.out GE310.out⟩⟩
 case rest =>
  clear HC6
  try clear p2 p6 c8 c9
  obtain ⟨kq, x12_5, rfl, HA, HJ5, BK310, HB⟩ := hcut
  cases kq with
  |zero => exact absurd HA.out (by simp [aM.j0])
  |succ kj5 =>
   have H := HA.out
   clear HA
   simp only [aM.j0] at H
   by_cases c10 : x12_5 = true
   ·subst c10
    have H1 : ((dJ.f a0).bind fun bt311 => (some (bt311.1, bt311.2.1, bt311.2.2.1, bt311.2.2.2.1, bt311.2.2.2.2.1, bt311.2.2.2.2.2))) = some (r1, r2, r3, r4, r5, r6) := by rw [if_pos rfl] at H; exact H
    clear H
    have H := H1
    clear H1
    replace H := bq_ H
    obtain ⟨⟨t311, t312, t313, t314, t315, t316⟩, A110, H⟩ := H
    replace H : (some (t311, t312, t313, t314, t315, t316)) = some (r1, r2, r3, r4, r5, r6) := H
    have A11 := Aside0.mk A110
    clear A110
    simp only [Option.some.injEq, Prod.mk.injEq] at H
    obtain ⟨rfl, rfl, rfl, rfl, rfl, rfl⟩ := H
    go_wp2_with (first | ((with_reducible refine gate_callee (f := 51) rfl ?_); refine goesL_ (some 23) rfl rfl Try.func51 (by kernel_rfl) rfl #[.int .i64 a0] rfl gl ?_; (with_reducible refine (dJ.calls a0 t311 t312 t313 t314 t315 t316 _ A11.out).mono ?_); rintro e w12 ⟨rfl, hb⟩; refine ⟨_, rfl, ?_⟩; have n0_ := Aside0.mk (blk_below (g := gb310) (o := o5_ false false false false false 60) (bv BK310.out) hb); have n1_ := Aside0.mk (below_step (bl1 HB.out GE310.out) hb); clear BK310; clear HB; have BK310 := n0_; have HB := n1_; clear n0_ n1_; obtain ⟨hcz13_0, hcz13_1, hcz13_2, hcz13_3, hcz13_4⟩ := bc5 BK310.out; obtain ⟨hfz13_0, hfz13_1, hfz13_2, hfz13_3, hfz13_4⟩ := bf5 BK310.out))
    refine bodyPost_ret (results_tc rfl _ _ gb310 60 #[.bool t312, .bool t313, .bool t314, .bool t315, .bool t316] (0, 0) _ rfl (by (with_reducible repeat first | apply bd | apply be | apply ba); refine blk_put (cs := q5_ t312 t313 t314 t315 false) ?_ 4 _ rfl; (with_reducible repeat first | apply bd | apply be | apply ba); refine blk_put (cs := q5_ t312 t313 t314 false false) ?_ 3 _ rfl; (with_reducible repeat first | apply bd | apply be | apply ba); refine blk_put (cs := q5_ t312 t313 false false false) ?_ 2 _ rfl; (with_reducible repeat first | apply bd | apply be | apply ba); refine blk_put (cs := q5_ t312 false false false false) ?_ 1 _ rfl; (with_reducible repeat first | apply bd | apply be | apply ba); refine blk_put (cs := F5) ?_ 0 _ rfl; (with_reducible repeat first | apply bd | apply be | apply ba); exact BK310.out) Try.underlying60 rfl (by kernel_rfl)) rfl ?_
    exact ⟨by first | rfl | (simp [bK, bL] <;> rfl) | (simp [*, bK, bL] <;> rfl), bl1 HB.out GE310.out⟩
   ·replace c10 := Bool.eq_false_iff.mpr c10
    subst c10
    have H1 : (if a3 = true then ((bH.f a0 a1).bind fun t317 => (some (t317, false, false, false, false, false))) else ((bH.f a0 a2).bind fun t318 => (some (t318, false, false, false, false, false)))) = some (r1, r2, r3, r4, r5, r6) := by rw [if_neg (show ¬ (false = true) by decide)] at H; exact H
    clear H
    have H := H1
    clear H1
    by_cases c14 : a3 = true
    ·subst c14
     have H1 : ((bH.f a0 a1).bind fun t317 => (some (t317, false, false, false, false, false))) = some (r1, r2, r3, r4, r5, r6) := by rw [if_pos rfl] at H; exact H
     clear H
     have H := H1
     clear H1
     replace H := bq_ H
     obtain ⟨t317, A150, H⟩ := H
     replace H : (some (t317, false, false, false, false, false)) = some (r1, r2, r3, r4, r5, r6) := H
     have A15 := Aside0.mk A150
     clear A150
     simp only [Option.some.injEq, Prod.mk.injEq] at H
     obtain ⟨rfl, rfl, rfl, rfl, rfl, rfl⟩ := H
     go_wp2_with (first | ((with_reducible refine gate_callee (f := 54) rfl ?_); refine goesL_ (some 30) rfl rfl Try.func54 (by kernel_rfl) rfl #[.int .i64 a0, .bool a1] rfl gl ?_; (with_reducible refine (bH.calls a0 a1 t317 _ A15.out).mono ?_); rintro e w' ⟨rfl, ⟨nd, rfl⟩⟩; refine ⟨_, rfl, ?_⟩; (try (rw [drewN_self wc]; generalize hq_ : World.drewN wc _ = wc; have n0_ : Aside0 (wc.heap[gb310]? = some (o5_ false false false false false 60)) := ⟨by rw [← hq_]; exact (bv BK310.out)⟩; have n1_ : Aside0 (Below w.heap.size w wc) := ⟨by rw [← hq_]; exact (bl1 HB.out GE310.out)⟩; clear BK310 HB hq_; have BK310 := n0_; have HB := n1_; clear n0_ n1_)); obtain ⟨hcz16_0, hcz16_1, hcz16_2, hcz16_3, hcz16_4⟩ := bc5 BK310.out; obtain ⟨hfz16_0, hfz16_1, hfz16_2, hfz16_3, hfz16_4⟩ := bf5 BK310.out))
     refine bodyPost_ret (results_tc rfl _ _ gb310 60 #[.bool false, .bool false, .bool false, .bool false, .bool false] (0, 0) _ rfl (by (with_reducible repeat first | apply bd | apply be | apply ba); refine blk_put (cs := F5) ?_ 4 _ rfl; (with_reducible repeat first | apply bd | apply be | apply ba); refine blk_put (cs := F5) ?_ 3 _ rfl; (with_reducible repeat first | apply bd | apply be | apply ba); refine blk_put (cs := F5) ?_ 2 _ rfl; (with_reducible repeat first | apply bd | apply be | apply ba); refine blk_put (cs := F5) ?_ 1 _ rfl; (with_reducible repeat first | apply bd | apply be | apply ba); refine blk_put (cs := F5) ?_ 0 _ rfl; (with_reducible repeat first | apply bd | apply be | apply ba); exact BK310.out) Try.underlying60 rfl (by kernel_rfl)) rfl ?_
     exact ⟨by first | rfl | (simp [bK, bL] <;> rfl) | (simp [*, bK, bL] <;> rfl), bl1 HB.out GE310.out⟩
    ·replace c14 := Bool.eq_false_iff.mpr c14
     subst c14
     have H1 : ((bH.f a0 a2).bind fun t318 => (some (t318, false, false, false, false, false))) = some (r1, r2, r3, r4, r5, r6) := by rw [if_neg (show ¬ (false = true) by decide)] at H; exact H
     clear H
     have H := H1
     clear H1
     replace H := bq_ H
     obtain ⟨t318, A170, H⟩ := H
     replace H : (some (t318, false, false, false, false, false)) = some (r1, r2, r3, r4, r5, r6) := H
     have A17 := Aside0.mk A170
     clear A170
     simp only [Option.some.injEq, Prod.mk.injEq] at H
     obtain ⟨rfl, rfl, rfl, rfl, rfl, rfl⟩ := H
     go_wp2_with (first | ((with_reducible refine gate_callee (f := 54) rfl ?_); refine goesL_ (some 34) rfl rfl Try.func54 (by kernel_rfl) rfl #[.int .i64 a0, .bool a2] rfl gl ?_; (with_reducible refine (bH.calls a0 a2 t318 _ A17.out).mono ?_); rintro e w' ⟨rfl, ⟨nd, rfl⟩⟩; refine ⟨_, rfl, ?_⟩; (try (rw [drewN_self wc]; generalize hq_ : World.drewN wc _ = wc; have n0_ : Aside0 (wc.heap[gb310]? = some (o5_ false false false false false 60)) := ⟨by rw [← hq_]; exact (bv BK310.out)⟩; have n1_ : Aside0 (Below w.heap.size w wc) := ⟨by rw [← hq_]; exact (bl1 HB.out GE310.out)⟩; clear BK310 HB hq_; have BK310 := n0_; have HB := n1_; clear n0_ n1_)); obtain ⟨hcz18_0, hcz18_1, hcz18_2, hcz18_3, hcz18_4⟩ := bc5 BK310.out; obtain ⟨hfz18_0, hfz18_1, hfz18_2, hfz18_3, hfz18_4⟩ := bf5 BK310.out))
     refine bodyPost_ret (results_tc rfl _ _ gb310 60 #[.bool false, .bool false, .bool false, .bool false, .bool false] (0, 0) _ rfl (by (with_reducible repeat first | apply bd | apply be | apply ba); refine blk_put (cs := F5) ?_ 4 _ rfl; (with_reducible repeat first | apply bd | apply be | apply ba); refine blk_put (cs := F5) ?_ 3 _ rfl; (with_reducible repeat first | apply bd | apply be | apply ba); refine blk_put (cs := F5) ?_ 2 _ rfl; (with_reducible repeat first | apply bd | apply be | apply ba); refine blk_put (cs := F5) ?_ 1 _ rfl; (with_reducible repeat first | apply bd | apply be | apply ba); refine blk_put (cs := F5) ?_ 0 _ rfl; (with_reducible repeat first | apply bd | apply be | apply ba); exact BK310.out) Try.underlying60 rfl (by kernel_rfl)) rfl ?_
     exact ⟨by first | rfl | (simp [bK, bL] <;> rfl) | (simp [*, bK, bL] <;> rfl), bl1 HB.out GE310.out⟩

-- NEED 0
/-! ### dA: function 105 -/
def dA.f (k : Nat) (a0_0 : Bool) (a0_1 a0_2 : Int) (a0_3 : Bool) : Option (Bool × Int × Int × Bool) := (bits_Len.f k a0_2).bind fun t321 => ((aH.f k a0_2 (wrap64 (-(wrap64 (62 - t321))))).bind fun bt322 => (some (a0_0, wrap64 (a0_1 - (wrap64 (62 - t321))), bt322.1, a0_3)))
theorem dA.mono : ∀ a0 a1 a2 a3 k, LeO (dA.f k a0 a1 a2 a3) (dA.f (k + 1) a0 a1 a2 a3) := by
 intro a0 a1 a2 a3 k
 unfold dA.f
 repeat' first
   |(with_reducible first|exact bits_Len.mono _ _|exact aH.mono _ _ _|exact LeO.refl _|exact LeO.none _|refine LeO.ite ?_ ?_|refine LeO.bind ?_ (fun _ => ?_))
   |exact bits_Len.mono _ _
   |exact aH.mono _ _ _
   |exact LeO.none _
   |refine LeO.ite ?_ ?_
   |refine LeO.bind ?_ (fun _ => ?_)
theorem dA.calls (k : Nat) (a0_0 : Bool) (a0_1 a0_2 : Int) (a0_3 r1 : Bool) (r2 r3 : Int) (r4 : Bool) (w : World) (h : dA.f k a0_0 a0_1 a0_2 a0_3 = some (r1, r2, r3, r4)) :
  Calls Try.prog 105 #[.agg #[.bool a0_0, .int .i64 a0_1, .int .u64 a0_2, .bool a0_3]] w fun e w' => e = .returned (.agg #[.bool r1, .int .i64 r2, .int .u64 r3, .bool r4]) ∧ Below w.heap.size w w' := by
 have hu84 := Try.underlying84
 have HB := Aside0.mk (Below.refl w.heap.size w)
 have H : ((bits_Len.f k a0_2).bind fun t321 => ((aH.f k a0_2 (wrap64 (-(wrap64 (62 - t321))))).bind fun bt322 => (some (a0_0, wrap64 (a0_1 - (wrap64 (62 - t321))), bt322.1, a0_3)))) = some (r1, r2, r3, r4) := h
 clear h
 replace H := bq_ H
 obtain ⟨t321, A20, H⟩ := H
 replace H : ((aH.f k a0_2 (wrap64 (-(wrap64 (62 - t321))))).bind fun bt322 => (some (a0_0, wrap64 (a0_1 - (wrap64 (62 - t321))), bt322.1, a0_3))) = some (r1, r2, r3, r4) := H
 have A2 := Aside0.mk A20
 clear A20
 replace H := bq_ H
 obtain ⟨⟨t322, t323⟩, A30, H⟩ := H
 replace H : (some (a0_0, wrap64 (a0_1 - (wrap64 (62 - t321))), t322, a0_3)) = some (r1, r2, r3, r4) := H
 have A3 := Aside0.mk A30
 clear A30
 simp only [Option.some.injEq, Prod.mk.injEq] at H
 obtain ⟨rfl, rfl, rfl, rfl⟩ := H
 go_enter Try.func105, Try.ntmps105
 go_wp2_with (first | ((with_reducible refine gate_dst (N := 1) rfl ?_); refine box_event ?hg (N := 1) ?hd (cs := #[.bool a0_0, .int .i64 a0_1, .int .u64 a0_2, .bool a0_3]) (t := 84) ?hr ?_; (case hd => rfl); (case hg => rfl); (case hr => first | (go_simp; done) | (go_simp; rfl)); intro gb319 hg w4 hbox hb; have n0_ := Aside0.mk (below_step (bl0 HB.out) hb); have n1_ := Aside0.mk (hbox); have n2_ := Aside0.mk ((by rw [hg]; exact (below_size (bl0 HB.out)) : w.heap.size ≤ gb319)); have n3_ := n2_; clear HB; have HB := n0_; have BK319 := n1_; have GW319 := n2_; have GE319 := n3_; clear n0_ n1_ n2_ n3_; clear hb hbox hg) | ((with_reducible refine gate_dst (N := 2) rfl ?_); refine box_event ?hg (N := 2) ?hd (cs := #[.bool false, .int .i64 0, .int .u64 0, .bool false]) (t := 84) ?hr ?_; (case hd => rfl); (case hg => rfl); (case hr => first | (go_simp; done) | (go_simp; rfl)); intro gb320 hg w5 hbox hb; have n0_ := Aside0.mk (blk_below (g := gb319) (o := .cells #[.bool a0_0, .int .i64 a0_1, .int .u64 a0_2, .bool a0_3] 84 (0, 0)) (bv BK319.out) hb); have n1_ := Aside0.mk (below_step (bl1 HB.out GE319.out) hb); have n2_ := Aside0.mk (hbox); have n3_ := Aside0.mk ((by rw [hg]; exact (below_size (bl1 HB.out GE319.out)) : w.heap.size ≤ gb320)); have n4_ := n3_; have n5_ := Aside0.mk ((by rw [hg]; exact Nat.ne_of_lt (blk_lt (g := gb319) (o := .cells #[.bool a0_0, .int .i64 a0_1, .int .u64 a0_2, .bool a0_3] 84 (0, 0)) (bv BK319.out)) : gb319 ≠ gb320)); have n6_ := Aside0.mk (Ne.symm n5_.out); clear BK319; clear HB; have BK319 := n0_; have HB := n1_; have BK320 := n2_; have GW320 := n3_; have GE320 := n4_; have NB319_320 := n5_; have NB320_319 := n6_; clear n0_ n1_ n2_ n3_ n4_ n5_ n6_; clear hb hbox hg; have hnb6 := NB319_320.out; have hnc6 := NB320_319.out; obtain ⟨hcz7_0, hcz7_1, hcz7_2, hcz7_3⟩ := bc4 BK319.out; obtain ⟨hfz7_0, hfz7_1, hfz7_2, hfz7_3⟩ := bf4 BK319.out) | ((with_reducible refine gate_callee (f := 84) rfl ?_); refine goesL_ (some 6) rfl rfl Try.func84 (by kernel_rfl) rfl #[.int .u64 a0_2] rfl gl ?_; (with_reducible refine (bits_Len.calls k a0_2 t321 _ A2.out).mono ?_); rintro e w' ⟨rfl, ⟨nd, rfl⟩⟩; refine ⟨_, rfl, ?_⟩; (try (rw [drewN_self w5]; generalize hq_ : World.drewN w5 _ = w5; have n0_ : Aside0 (w5.heap[gb319]? = some (.cells #[.bool a0_0, .int .i64 a0_1, .int .u64 a0_2, .bool a0_3] 84 (0, 0))) := ⟨by rw [← hq_]; exact (bv BK319.out)⟩; have n1_ : Aside0 (w5.heap[gb320]? = some (.cells #[.bool false, .int .i64 0, .int .u64 0, .bool false] 84 (0, 0))) := ⟨by rw [← hq_]; exact (bv BK320.out)⟩; have n2_ : Aside0 (Below w.heap.size w w5) := ⟨by rw [← hq_]; exact (bl2 HB.out GE319.out GE320.out)⟩; clear BK319 BK320 HB hq_; have BK319 := n0_; have BK320 := n1_; have HB := n2_; clear n0_ n1_ n2_)); obtain ⟨hcz8_0, hcz8_1, hcz8_2, hcz8_3⟩ := bc4 BK319.out; obtain ⟨hfz8_0, hfz8_1, hfz8_2, hfz8_3⟩ := bf4 BK319.out) | ((with_reducible refine gate_callee (f := 98) rfl ?_); refine goesL_ (some 13) rfl rfl Try.func98 (by kernel_rfl) rfl #[.int .u64 a0_2, .int .i64 (wrap64 (-(wrap64 (62 - t321))))] rfl gl ?_; (with_reducible refine (aH.calls k a0_2 (wrap64 (-(wrap64 (62 - t321)))) t322 t323 _ A3.out).mono ?_); rintro e w' ⟨rfl, ⟨nd, rfl⟩⟩; refine ⟨_, rfl, ?_⟩; (try (rw [drewN_self w5]; generalize hq_ : World.drewN w5 _ = w5; have n0_ : Aside0 (w5.heap[gb319]? = some (.cells #[.bool a0_0, .int .i64 a0_1, .int .u64 a0_2, .bool a0_3] 84 (0, 0))) := ⟨by rw [← hq_]; exact (bv BK319.out)⟩; have n1_ : Aside0 (w5.heap[gb320]? = some (.cells #[.bool false, .int .i64 0, .int .u64 0, .bool false] 84 (0, 0))) := ⟨by rw [← hq_]; exact (bv BK320.out)⟩; have n2_ : Aside0 (Below w.heap.size w w5) := ⟨by rw [← hq_]; exact (bl2 HB.out GE319.out GE320.out)⟩; clear BK319 BK320 HB hq_; have BK319 := n0_; have BK320 := n1_; have HB := n2_; clear n0_ n1_ n2_)); obtain ⟨hcz9_0, hcz9_1, hcz9_2, hcz9_3⟩ := bc4 BK319.out; obtain ⟨hfz9_0, hfz9_1, hfz9_2, hfz9_3⟩ := bf4 BK319.out; obtain ⟨hcz10_0, hcz10_1, hcz10_2, hcz10_3⟩ := bc4 BK320.out; obtain ⟨hfz10_0, hfz10_1, hfz10_2, hfz10_3⟩ := bf4 BK320.out))
 refine bodyPost_ret (results_cell_row rfl _ _ gb320 84 #[.bool a0_0, .int .i64 (wrap64 (a0_1 - (wrap64 (62 - t321)))), .int .u64 t322, .bool a0_3] (0, 0) _ rfl (by (with_reducible repeat first | apply bd | apply be | apply ba); refine blk_put (cs := #[.bool a0_0, .int .i64 (wrap64 (a0_1 - (wrap64 (62 - t321)))), .int .u64 t322, .bool false]) ?_ 3 _ rfl; (with_reducible repeat first | apply bd | apply be | apply ba); refine blk_put (cs := #[.bool a0_0, .int .i64 (wrap64 (a0_1 - (wrap64 (62 - t321)))), .int .u64 0, .bool false]) ?_ 2 _ rfl; (with_reducible repeat first | apply bd | apply be | apply ba); refine blk_put (cs := #[.bool a0_0, .int .i64 0, .int .u64 0, .bool false]) ?_ 1 _ rfl; (with_reducible repeat first | apply bd | apply be | apply ba); refine blk_put (cs := #[.bool false, .int .i64 0, .int .u64 0, .bool false]) ?_ 0 _ rfl; (with_reducible repeat first | apply bd | apply be | apply ba); refine blk_far ?_ NB320_319.out _; (with_reducible repeat first | apply bd | apply be | apply ba); refine blk_far ?_ NB320_319.out _; (with_reducible repeat first | apply bd | apply be | apply ba); exact BK320.out) Try.underlying84 rfl (by kernel_rfl)) rfl ?_
 exact ⟨by first | rfl | (simp [bK, bL] <;> rfl) | (simp [*, bK, bL] <;> rfl), bl2 HB.out GE319.out GE320.out⟩

-- NEED 0
/-! ### aG: function 92 -/
mutual
def aG.j0 : Nat → Bool → Bool → Int → Int → Bool → Bool → Int → Int → Bool → Option (Bool × Int × Int × Bool)
 |0, _, _, _, _, _, _, _, _, _ => none
 |k + 1, x39, x325000, x325001, x325002, x325003, x326000, x326001, x326002, x326003 => if x39 = true then (aG.j1 k x326000 x326001 x326002 x326003 x325000 x325001 x325002 x325003) else (aG.j1 k x325000 x325001 x325002 x325003 x326000 x326001 x326002 x326003)
def aG.j1 : Nat → Bool → Int → Int → Bool → Bool → Int → Int → Bool → Option (Bool × Int × Int × Bool)
 |0, _, _, _, _, _, _, _, _ => none
 |k + 1, x325000, x325001, x325002, x325003, x326000, x326001, x326002, x326003 => (aH.f k x326002 (wrap64 (x325001 - x326001))).bind fun bt335 => (if (x325000 == x326000) = true then (some (x325000, x325001, IntKind.u64.wrap (x325002 + bt335.1), bt335.2)) else (if bt335.2 = true then (aG.j2 k x325000 x325001 (IntKind.u64.wrap ((IntKind.u64.wrap (x325002 - bt335.1)) - 1)) bt335.2) else (aG.j2 k x325000 x325001 (IntKind.u64.wrap (x325002 - bt335.1)) bt335.2)))
def aG.j2 : Nat → Bool → Int → Int → Bool → Option (Bool × Int × Int × Bool)
 |0, _, _, _, _ => none
 |k + 1, x325000, x325001, x325002, x325003 => some (x325000, x325001, x325002, x325003)
end
def aG.f (k : Nat) (a0_0 : Bool) (a0_1 a0_2 : Int) (a0_3 a1_0 : Bool) (a1_1 a1_2 : Int) (a1_3 : Bool) : Option (Bool × Int × Int × Bool) := if a0_2 = 0 then (some (a1_0, a1_1, a1_2, a1_3)) else (if a1_2 = 0 then (some (a0_0, a0_1, a0_2, a0_3)) else ((dA.f k a0_0 a0_1 a0_2 a0_3).bind fun bt327 => ((dA.f k a1_0 a1_1 a1_2 a1_3).bind fun bt331 => (if bt327.2.1 < bt331.2.1 then (aG.j0 k true bt327.1 bt327.2.1 bt327.2.2.1 bt327.2.2.2 bt331.1 bt331.2.1 bt331.2.2.1 bt331.2.2.2) else (if bt327.2.1 = bt331.2.1 then (aG.j0 k (decide (bt327.2.2.1 < bt331.2.2.1)) bt327.1 bt327.2.1 bt327.2.2.1 bt327.2.2.2 bt331.1 bt331.2.1 bt331.2.2.1 bt331.2.2.2) else (aG.j0 k false bt327.1 bt327.2.1 bt327.2.2.1 bt327.2.2.2 bt331.1 bt331.2.1 bt331.2.2.1 bt331.2.2.2))))))
-- NEED 0
/-! ### dF: function 93 -/
def dF.f (a0 a1 : Int) (a2 a3 : Bool) : Option (Int) := if (a2 == a3) = true then ((bR.f a0 a2).bind fun t337 => (some t337)) else ((bR.f a0 (a1 == 3)).bind fun t338 => (some t338))
theorem dF.calls (a0 a1 : Int) (a2 a3 : Bool) (r : Int) (w : World) (h : dF.f a0 a1 a2 a3 = some r) :
  Calls Try.prog 93 #[.int .i64 a0, .int .i64 a1, .bool a2, .bool a3] w fun e w' => e = .returned (.int .u32 r) ∧ Drawn0 w w' := by
 have H : (if (a2 == a3) = true then ((bR.f a0 a2).bind fun t337 => (some t337)) else ((bR.f a0 (a1 == 3)).bind fun t338 => (some t338))) = some r := h
 clear h
 by_cases c5 : (a2 == a3) = true
 ·rw [if_pos c5] at H
  have c5b0 : (a2 == a3) = true := c5
  (try (have c5b1 : decide (a2 = a3) = true := by simpa using c5))
  (try (have c5b2 : (a2 == a3) = true := by simpa using c5))
  clear c5
  replace H := bq_ H
  obtain ⟨t337, A60, H⟩ := H
  replace H : (some t337) = some r := H
  have A6 := Aside0.mk A60
  clear A60
  obtain rfl := Option.some.inj H
  go_enter Try.func93, Try.ntmps93
  go_wp2_with (first | ((with_reducible refine gate_callee (f := 77) rfl ?_); refine goesL_ (some 14) rfl rfl Try.func77 (by kernel_rfl) rfl #[.int .i64 a0, .bool a2] rfl gl ?_; (with_reducible refine (bR.calls a0 a2 t337 _ A6.out).mono ?_); rintro e w' ⟨rfl, ⟨nd, rfl⟩⟩; refine ⟨_, rfl, ?_⟩))
  go_ret
  exact ⟨gr_, gd_⟩
 ·rw [if_neg c5] at H
  have c5b0 : (a2 == a3) = false := by simpa using c5
  (try (have c5b1 : decide (a2 = a3) = false := by simpa using c5))
  (try (have c5b2 : (a2 == a3) = false := by simpa using c5))
  (try (have c5b3 : ¬ (a2 = a3) := by simpa using c5))
  clear c5
  replace H := bq_ H
  obtain ⟨t338, A70, H⟩ := H
  replace H : (some t338) = some r := H
  have A7 := Aside0.mk A70
  clear A70
  obtain rfl := Option.some.inj H
  go_enter Try.func93, Try.ntmps93
  go_wp2_with (first | ((with_reducible refine gate_callee (f := 77) rfl ?_); refine goesL_ (some 18) rfl rfl Try.func77 (by kernel_rfl) rfl #[.int .i64 a0, .bool (a1 == 3)] rfl gl ?_; (with_reducible refine (bR.calls a0 (a1 == 3) t338 _ A7.out).mono ?_); rintro e w' ⟨rfl, ⟨nd, rfl⟩⟩; refine ⟨_, rfl, ?_⟩))
  go_ret
  exact ⟨gr_, gd_⟩

end Go.Proofs.Ytfapjegkilljnaa.P

/- Sums to all bits that rounding asks for: the program's, as plain numbers. -/
namespace Go.Proofs.Ytfapjegkilljnaa.Round
open Go.RowKit Go.Proofs.Ytfapjegkilljnaa.P Go.Proofs.Ytfapjegkilljnaa.Num Go.Proofs.Ytfapjegkilljnaa.BitsF Go.Proofs.Ytfapjegkilljnaa.Fmt Go.Proofs.YtfapjegkilljnaaW.PrintWords Go.Proofs.YtfapjegkilljnaaW.PrintLast Go.Proofs.YtfapjegkilljnaaW.PrintMore

theorem up_shift (v n : Nat) (h : v * 2 ^ n < 18446744073709551616) : (jF v (-(n : Int))).1 = v * 2 ^ n := by
 have hp := Nat.two_pow_pos n
 have hv : v < 18446744073709551616 := Nat.lt_of_le_of_lt (Nat.le_mul_of_pos_right v hp) h
 rw [jJ v n hv]
 exact Nat.mod_eq_of_lt h
theorem xG (n : Bool) (e : Int) (s : Nat) (m : Bool) (h : s ≠ 0) (h' : s < 4611686018427387904) (l : -100000 ≤ e) (l' : e ≤ 100000) : Ev (fun k => dA.f k n e (s : Int) m) (n, e - (jQ s : Int), ((s * 2 ^ jQ s : Nat) : Int), m) := by
 obtain ⟨a1, a2, a3, a4⟩ := jC s h h'
 have hw : wrap64 (62 - (iG s : Int)) = (jQ s : Int) := by rw [bT _ (by omega) (by omega)]; omega
 refine Ev.congr (fun k => by unfold dA.f; rfl) (Ev.bind (pJ s (by omega)) ?_)
 rw [hw, bT (-(jQ s : Int)) (by omega) (by omega), bT (e - (jQ s : Int)) (by omega) (by omega)]
 refine Ev.bind (nP s (by omega) (-(jQ s : Int)) (by omega) (by omega)) ?_
 dsimp only
 rw [up_shift _ _ (by omega)]
 exact Ev.now _
def tQ (r : Bool × Int × Nat × Bool) : Bool × Int × Int × Bool := (r.1, r.2.1, (r.2.2.1 : Int), r.2.2.2)
theorem sub_w (A L : Nat) (h : L ≤ A) (hA : A < 18446744073709551616) : IntKind.u64.wrap ((A : Int) - (L : Int)) = ((A - L : Nat) : Int) := by rw [kJ]; omega
theorem zJ (A L : Nat) (h : L + 1 ≤ A) (hA : A < 18446744073709551616) : IntKind.u64.wrap (((A - L : Nat) : Int) - 1) = ((A - L - 1 : Nat) : Int) := by rw [kJ]; omega
theorem yF (na : Bool) (Ea : Int) (A : Nat) (nb : Bool) (Eb : Int) (B : Nat) (h : Eb ≤ Ea) (h0 : Ea = Eb → B ≤ A) (a1 : 2305843009213693952 ≤ A) (a2 : A < 4611686018427387904) (b2 : B < 4611686018427387904) (l1 : -200000 ≤ Eb) (l2 : Ea ≤ 200000) :
  Ev (fun k => aG.j1 k na Ea (A : Int) false nb Eb (B : Int) false) (tQ (oQ na Ea A nb Eb B)) := by
 obtain ⟨d, hd⟩ : ∃ d : Nat, Ea - Eb = (d : Int) := ⟨(Ea - Eb).toNat, by omega⟩
 have hlow : B / 2 ^ d ≤ A ∧ (B % 2 ^ d ≠ 0 → B / 2 ^ d + 1 ≤ A) := by
  rcases Nat.eq_zero_or_pos d with c | c
  ·subst c
   have := h0 (by omega)
   rw [Nat.pow_zero, Nat.div_one, Nat.mod_one]; omega
  ·have h2 : 2 ^ 1 ≤ 2 ^ d := Nat.pow_le_pow_right (by decide) c
   have h3 : B / 2 ^ d ≤ B / 2 := Nat.div_le_div_left h2 (by decide)
   omega
 have hl62 : B / 2 ^ d < 4611686018427387904 := Nat.lt_of_le_of_lt (Nat.div_le_self _ _) b2
 refine Ev.step (fun k => by rw [aG.j1, bT (Ea - Eb) (by omega) (by omega), hd]) (Ev.bind (nP B (by omega) (d : Int) (by omega) (by omega)) ?_)
 rw [iJ]
 dsimp only
 unfold oQ tQ
 rw [hd, Int.toNat_natCast]
 by_cases n : na = nb
 ·subst n
  rw [if_pos rfl]
  refine Ev.congr (fun k => ?_) (Ev.now _)
  rw [if_pos (beq_self_eq_true na), ← Int.natCast_add, fB _ (by omega)]
 ·rw [if_neg n]
  have hb : ¬ (na == nb) = true := by rw [beq_iff_eq]; exact n
  by_cases o : B % 2 ^ d ≠ 0
  ·have := hlow.2 o
   rw [if_pos o]
   refine Ev.congr (fun k => ?_) (show Ev (fun k => aG.j2 k na Ea ((A - B / 2 ^ d - 1 : Nat) : Int) (decide (B % 2 ^ d ≠ 0))) (na, Ea, ((A - B / 2 ^ d - 1 : Nat) : Int), decide (B % 2 ^ d ≠ 0)) from Ev.step (fun k => by rw [aG.j2]) (Ev.now _))
   rw [if_neg hb, if_pos (decide_eq_true o)]
   rw [sub_w A _ hlow.1 (by omega), zJ A _ this (by omega)]
  ·rw [if_neg o, Nat.sub_zero]
   refine Ev.congr (fun k => ?_) (show Ev (fun k => aG.j2 k na Ea ((A - B / 2 ^ d : Nat) : Int) (decide (B % 2 ^ d ≠ 0))) (na, Ea, ((A - B / 2 ^ d : Nat) : Int), decide (B % 2 ^ d ≠ 0)) from Ev.step (fun k => by rw [aG.j2]) (Ev.now _))
   rw [if_neg hb, if_neg (show ¬ decide (B % 2 ^ d ≠ 0) = true by rw [decide_eq_true_iff]; exact o)]
   rw [sub_w A _ hlow.1 (by omega)]
theorem vN (n1 : Bool) (e1 : Int) (s1 : Nat) (n2 : Bool) (e2 : Int) (s2 : Nat) (h1 : s1 < 4611686018427387904) (h2 : s2 < 4611686018427387904) (l1 : -100000 ≤ e1) (l1' : e1 ≤ 100000) (l2 : -100000 ≤ e2) (l2' : e2 ≤ 100000) :
  Ev (fun k => aG.f k n1 e1 (s1 : Int) false n2 e2 (s2 : Int) false) (tQ (kQ n1 e1 s1 n2 e2 s2)) := by
 refine Ev.congr (fun k => by unfold aG.f; rfl) ?_
 unfold kQ
 by_cases z1 : s1 = 0
 ·rw [if_pos z1]
  exact Ev.congr (fun k => by rw [if_pos (by omega)]; rfl) (Ev.now _)
 ·rw [if_neg z1]
  by_cases z2 : s2 = 0
  ·rw [if_pos z2]
   exact Ev.congr (fun k => by rw [if_neg (by omega), if_pos (by omega)]; rfl) (Ev.now _)
  ·rw [if_neg z2]
   obtain ⟨a1, a2, a3, a4⟩ := jC s1 z1 h1
   obtain ⟨b1, b2, b3, b4⟩ := jC s2 z2 h2
   refine Ev.congr (fun k => by rw [if_neg (by omega), if_neg (by omega)]) (Ev.bind (xG n1 e1 s1 false z1 h1 l1 l1') (Ev.bind (xG n2 e2 s2 false z2 h2 l2 l2') ?_))
   dsimp only
   generalize hE1 : e1 - (jQ s1 : Int) = E1 at *
   generalize hE2 : e2 - (jQ s2 : Int) = E2 at *
   generalize s1 * 2 ^ jQ s1 = A at *
   generalize s2 * 2 ^ jQ s2 = B at *
   have swap : (E1 < E2 ∨ E1 = E2 ∧ A < B) → Ev (fun k => aG.j0 k true n1 E1 (A : Int) false n2 E2 (B : Int) false) (tQ (if E1 < E2 ∨ E1 = E2 ∧ A < B then oQ n2 E2 B n1 E1 A else oQ n1 E1 A n2 E2 B)) := by
    intro c
    rw [if_pos c]
    exact Ev.step (fun k => by rw [aG.j0, if_pos rfl]) (yF n2 E2 B n1 E1 A (by omega) (by omega) b3 b4 a4 (by omega) (by omega))
   have stay : ¬ (E1 < E2 ∨ E1 = E2 ∧ A < B) → Ev (fun k => aG.j0 k false n1 E1 (A : Int) false n2 E2 (B : Int) false) (tQ (if E1 < E2 ∨ E1 = E2 ∧ A < B then oQ n2 E2 B n1 E1 A else oQ n1 E1 A n2 E2 B)) := by
    intro c
    rw [if_neg c]
    exact Ev.step (fun k => by rw [aG.j0, if_neg (by decide)]) (yF n1 E1 A n2 E2 B (by omega) (by omega) a3 a4 b4 (by omega) (by omega))
   by_cases c1 : E1 < E2
   ·exact Ev.congr (fun k => by rw [if_pos c1]) (swap (.inl c1))
   ·by_cases c2 : E1 = E2
    ·by_cases c3 : A < B
     ·exact Ev.congr (fun k => by rw [if_neg c1, if_pos c2, decide_eq_true (show (A : Int) < (B : Int) by omega)]) (swap (.inr ⟨c2, c3⟩))
     ·exact Ev.congr (fun k => by rw [if_neg c1, if_pos c2, decide_eq_false (show ¬ (A : Int) < (B : Int) by omega)]) (stay (by omega))
    ·exact Ev.congr (fun k => by rw [if_neg c1, if_neg c2]) (stay (by omega))
theorem mO (n1 : Bool) (e1 : Int) (s1 : Nat) (n2 : Bool) (e2 : Int) (s2 : Nat) (h1 : s1 < 4611686018427387904) (h2 : s2 < 4611686018427387904) (l1 : -1000 ≤ e1) (l1' : e1 ≤ 1000) (l2 : -1000 ≤ e2) (l2' : e2 ≤ 1000) :
  -1100 ≤ (kQ n1 e1 s1 n2 e2 s2).2.1 ∧ (kQ n1 e1 s1 n2 e2 s2).2.1 ≤ 1000 ∧ (kQ n1 e1 s1 n2 e2 s2).2.2.1 < 9223372036854775808 := by
 have meet : ∀ (na : Bool) (Ea : Int) (A : Nat) (nb : Bool) (Eb : Int) (B : Nat), A < 4611686018427387904 → B < 4611686018427387904 → (oQ na Ea A nb Eb B).2.1 = Ea ∧ (oQ na Ea A nb Eb B).2.2.1 < 9223372036854775808 := by
  intro na Ea A nb Eb B ha hb
  have hl := Nat.div_le_self B (2 ^ (Ea - Eb).toNat)
  unfold oQ
  by_cases n : na = nb
  ·rw [if_pos n]; exact ⟨rfl, by show A + B / 2 ^ (Ea - Eb).toNat < _; omega⟩
  ·rw [if_neg n]; exact ⟨rfl, Nat.lt_of_le_of_lt (Nat.le_trans (Nat.sub_le _ _) (Nat.sub_le _ _)) (show A < 9223372036854775808 by omega)⟩
 unfold kQ
 by_cases z1 : s1 = 0
 ·rw [if_pos z1]; dsimp only; omega
 ·rw [if_neg z1]
  by_cases z2 : s2 = 0
  ·rw [if_pos z2]; dsimp only; omega
  ·rw [if_neg z2]
   obtain ⟨a1, a2, a3, a4⟩ := jC s1 z1 h1
   obtain ⟨b1, b2, b3, b4⟩ := jC s2 z2 h2
   split
   ·have := meet n2 (e2 - (jQ s2 : Int)) _ n1 (e1 - (jQ s1 : Int)) _ b4 a4; omega
   ·have := meet n1 (e1 - (jQ s1 : Int)) _ n2 (e2 - (jQ s2 : Int)) _ a4 b4; omega
end Go.Proofs.Ytfapjegkilljnaa.Round
