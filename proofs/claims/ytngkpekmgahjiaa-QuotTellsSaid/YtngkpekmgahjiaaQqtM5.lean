import Derived.Test.YtngkpekmgahjiaaQqtZ
import Derived.Test.YtngkpekmgahjiaaQqtM1
import Derived.Test.YtngkpekmgahjiaaQqtPx36
import Derived.Test.YtngkpekmgahjiaaQqtPx38
import Derived.Test.YtngkpekmgahjiaaQqtM3
-- Printed by a program of this session's out of Lean's print of the translation; Lean checks it.
namespace Go.Proofs.Ytngkpekmgahjiaa.P
open Go.RowKit Go.Proofs.YtngkpekmgahjiaaW.PrintWords Go.Proofs.YtngkpekmgahjiaaW.PrintLast Go.Proofs.YtngkpekmgahjiaaW.PrintMore
attribute [local go_sem] max2_int min2_int max_two min_two max_three min_three max_four min_four   -- for this text's walks alone
set_option linter.unusedVariables false
set_option linter.unusedSimpArgs false

attribute [local go_sem high] eqA41
/-! ### anneallaw6_known: function 33 -/
def anneallaw6_known.j0 : Nat → Bool → Option (Bool)
 |0, _ => none
 |k + 1, x0 => some x0
def anneallaw6_known.f (k : Nat)  : Option (Bool) := (quot_Sqrt.f k 2 0 1082130432).bind fun bt646 => ((quot_Div.f k 0 0 15360 0).bind fun bt653 => (if bt646.1 = 1073741824 then (if (!bt646.2.1 && (!bt646.2.2.1 && (!bt646.2.2.2.1 && (!bt646.2.2.2.2.1 && (!bt646.2.2.2.2.2))))) = true then (if bt653.1 = 31744 then (anneallaw6_known.j0 k (!bt653.2.1 && (bt653.2.2.1 && (!bt653.2.2.2.1 && (!bt653.2.2.2.2.1 && (!bt653.2.2.2.2.2)))))) else (anneallaw6_known.j0 k false)) else (anneallaw6_known.j0 k false)) else (anneallaw6_known.j0 k false)))
theorem anneallaw6_known.mono_l : ∀ k, (∀ y0, LeO (anneallaw6_known.j0 k y0) (anneallaw6_known.j0 (k + 1) y0))
 |0 => fun _ r h => by simp [anneallaw6_known.j0] at h
 |k + 1 => by
  have ih0 := anneallaw6_known.mono_l k
  ·intro y0
   unfold anneallaw6_known.j0
   repeat' first
   |(with_reducible exact ih0 _)
   |(with_reducible exact quot_Div.mono _ _ _ _ _)
   |(with_reducible exact quot_Sqrt.mono _ _ _ _)
   |(with_reducible exact LeO.refl _)
   |(with_reducible exact LeO.none _)
   |(with_reducible refine LeO.ite ?_ ?_)
   |(with_reducible refine LeO.bind ?_ (fun _ => ?_))
   |exact ih0 _
   |exact quot_Div.mono _ _ _ _ _
   |exact quot_Sqrt.mono _ _ _ _
   |exact LeO.none _
   |refine LeO.ite ?_ ?_
   |refine LeO.bind ?_ (fun _ => ?_)
theorem anneallaw6_known.mono : ∀ k, LeO (anneallaw6_known.f k ) (anneallaw6_known.f (k + 1) ) := by
 intro  k
 have ih0 := anneallaw6_known.mono_l k
 unfold anneallaw6_known.f
 repeat' first
   |(with_reducible exact ih0 _)
   |(with_reducible exact quot_Div.mono _ _ _ _ _)
   |(with_reducible exact quot_Sqrt.mono _ _ _ _)
   |(with_reducible exact LeO.refl _)
   |(with_reducible exact LeO.none _)
   |(with_reducible refine LeO.ite ?_ ?_)
   |(with_reducible refine LeO.bind ?_ (fun _ => ?_))
   |exact ih0 _
   |exact quot_Div.mono _ _ _ _ _
   |exact quot_Sqrt.mono _ _ _ _
   |exact LeO.none _
   |refine LeO.ite ?_ ?_
   |refine LeO.bind ?_ (fun _ => ?_)
set_option maxHeartbeats 8000000 in
set_option maxRecDepth 100000 in
theorem anneallaw6_known.calls (k : Nat)  (r : Bool) (w : World) (h : anneallaw6_known.f k  = some r) :
  Calls Try.prog 33 #[] w fun e w' => e = .returned (.bool r) ∧ Below w.heap.size w w' := by
 have hu41 := Try.underlying41
 have HB := Aside0.mk (Below.refl w.heap.size w)
 have H : ((quot_Sqrt.f k 2 0 1082130432).bind fun bt646 => ((quot_Div.f k 0 0 15360 0).bind fun bt653 => (if bt646.1 = 1073741824 then (if (!bt646.2.1 && (!bt646.2.2.1 && (!bt646.2.2.2.1 && (!bt646.2.2.2.2.1 && (!bt646.2.2.2.2.2))))) = true then (if bt653.1 = 31744 then (anneallaw6_known.j0 k (!bt653.2.1 && (bt653.2.2.1 && (!bt653.2.2.2.1 && (!bt653.2.2.2.2.1 && (!bt653.2.2.2.2.2)))))) else (anneallaw6_known.j0 k false)) else (anneallaw6_known.j0 k false)) else (anneallaw6_known.j0 k false)))) = some r := h
 clear h
 replace H := Option.bind_eq_some_iff.mp H
 obtain ⟨⟨t646, t647, t648, t649, t650, t651⟩, A10, H⟩ := H
 replace H : ((quot_Div.f k 0 0 15360 0).bind fun bt653 => (if t646 = 1073741824 then (if (!t647 && (!t648 && (!t649 && (!t650 && (!t651))))) = true then (if bt653.1 = 31744 then (anneallaw6_known.j0 k (!bt653.2.1 && (bt653.2.2.1 && (!bt653.2.2.2.1 && (!bt653.2.2.2.2.1 && (!bt653.2.2.2.2.2)))))) else (anneallaw6_known.j0 k false)) else (anneallaw6_known.j0 k false)) else (anneallaw6_known.j0 k false))) = some r := H
 have A1 := Aside0.mk A10
 clear A10
 replace H := Option.bind_eq_some_iff.mp H
 obtain ⟨⟨t653, t654, t655, t656, t657, t658⟩, A20, H⟩ := H
 replace H : (if t646 = 1073741824 then (if (!t647 && (!t648 && (!t649 && (!t650 && (!t651))))) = true then (if t653 = 31744 then (anneallaw6_known.j0 k (!t654 && (t655 && (!t656 && (!t657 && (!t658)))))) else (anneallaw6_known.j0 k false)) else (anneallaw6_known.j0 k false)) else (anneallaw6_known.j0 k false)) = some r := H
 have A2 := Aside0.mk A20
 clear A20
 have HC3 := Aside0.mk H
 clear H
 go_enter Try.func33, Try.ntmps33
 go_upto_region 3 with (first | ((with_reducible refine gate_callee (f := 38) rfl ?_); refine goesL_ (some 6) rfl rfl Try.func38 (by kernel_rfl) rfl #[.int .i64 2, .int .i64 0, .int .u32 1082130432] rfl gl ?_; (with_reducible refine (quot_Sqrt.calls k 2 0 1082130432 t646 t647 t648 t649 t650 t651 _ A1.out).mono ?_); rintro e w4 ⟨rfl, hb⟩; refine ⟨_, rfl, ?_⟩; have n0_ := Aside0.mk (below_step (bl0 HB.out) hb); clear HB; have HB := n0_; clear n0_) | ((with_reducible refine gate_dst (N := 2) rfl ?_); refine box_event ?hg (N := 2) ?hd (cs := F5) (t := 41) ?hr ?_; (case hd => rfl); (case hg => rfl); (case hr => first | (go_simp; done) | (go_simp; rfl)); intro gb652 hg w5 hbox hb; have n0_ := Aside0.mk (below_step (bl0 HB.out) hb); have n1_ := Aside0.mk (hbox); have n2_ := Aside0.mk ((by rw [hg]; exact (below_size (bl0 HB.out)) : w.heap.size ≤ gb652)); have n3_ := n2_; clear HB; have HB := n0_; have BK652 := n1_; have GW652 := n2_; have GE652 := n3_; clear n0_ n1_ n2_ n3_; clear hb hbox hg; obtain ⟨hcz6_0, hcz6_1, hcz6_2, hcz6_3, hcz6_4⟩ := bc5 BK652.out; obtain ⟨hfz6_0, hfz6_1, hfz6_2, hfz6_3, hfz6_4⟩ := bf5 BK652.out) | ((with_reducible refine gate_callee (f := 36) rfl ?_); refine goesL_ (some 10) rfl rfl Try.func36 (by kernel_rfl) rfl #[.int .i64 0, .int .i64 0, .int .u32 15360, .int .u32 0] rfl gl ?_; (with_reducible refine (quot_Div.calls k 0 0 15360 0 t653 t654 t655 t656 t657 t658 _ A2.out).mono ?_); rintro e w7 ⟨rfl, hb⟩; refine ⟨_, rfl, ?_⟩; have n0_ := Aside0.mk (blk_below (g := gb652) (o := .cells #[.bool t647, .bool t648, .bool t649, .bool t650, .bool t651] 41 (0, 0)) (by (with_reducible repeat first | apply bd | apply be | apply ba); refine blk_put (cs := #[.bool t647, .bool t648, .bool t649, .bool t650, .bool false]) ?_ 4 _ rfl; (with_reducible repeat first | apply bd | apply be | apply ba); refine blk_put (cs := #[.bool t647, .bool t648, .bool t649, .bool false, .bool false]) ?_ 3 _ rfl; (with_reducible repeat first | apply bd | apply be | apply ba); refine blk_put (cs := #[.bool t647, .bool t648, .bool false, .bool false, .bool false]) ?_ 2 _ rfl; (with_reducible repeat first | apply bd | apply be | apply ba); refine blk_put (cs := #[.bool t647, .bool false, .bool false, .bool false, .bool false]) ?_ 1 _ rfl; (with_reducible repeat first | apply bd | apply be | apply ba); refine blk_put (cs := F5) ?_ 0 _ rfl; (with_reducible repeat first | apply bd | apply be | apply ba); exact BK652.out) hb); have n1_ := Aside0.mk (below_step (bl1 HB.out GE652.out) hb); clear BK652; clear HB; have BK652 := n0_; have HB := n1_; clear n0_ n1_) | ((with_reducible refine gate_dst (N := 4) rfl ?_); refine box_event ?hg (N := 4) ?hd (cs := F5) (t := 41) ?hr ?_; (case hd => rfl); (case hg => rfl); (case hr => first | (go_simp; done) | (go_simp; rfl)); intro gb659 hg w8 hbox hb; have n0_ := Aside0.mk (blk_below (g := gb652) (o := .cells #[.bool t647, .bool t648, .bool t649, .bool t650, .bool t651] 41 (0, 0)) (bv BK652.out) hb); have n1_ := Aside0.mk (below_step (bl1 HB.out GE652.out) hb); have n2_ := Aside0.mk (hbox); have n3_ := Aside0.mk ((by rw [hg]; exact (below_size (bl1 HB.out GE652.out)) : w.heap.size ≤ gb659)); have n4_ := n3_; have n5_ := Aside0.mk ((by rw [hg]; exact Nat.ne_of_lt (blk_lt (g := gb652) (o := .cells #[.bool t647, .bool t648, .bool t649, .bool t650, .bool t651] 41 (0, 0)) (bv BK652.out)) : gb652 ≠ gb659)); have n6_ := Aside0.mk (Ne.symm n5_.out); clear BK652; clear HB; have BK652 := n0_; have HB := n1_; have BK659 := n2_; have GW659 := n3_; have GE659 := n4_; have NB652_659 := n5_; have NB659_652 := n6_; clear n0_ n1_ n2_ n3_ n4_ n5_ n6_; clear hb hbox hg; have hnb9 := NB659_652.out; have hnc9 := NB652_659.out; obtain ⟨hcz10_0, hcz10_1, hcz10_2, hcz10_3, hcz10_4⟩ := bc5 BK659.out; obtain ⟨hfz10_0, hfz10_1, hfz10_2, hfz10_3, hfz10_4⟩ := bf5 BK659.out))
 (try simp only [Act.put, sb, sz, ss])
 go_cut [0] (fun v0 wc => ∃ (kq : Nat) (x0_2 : Bool), v0 = .bool x0_2 ∧ Aside0 (anneallaw6_known.j0 kq x0_2 = some r) ∧ Aside0 (kq ≤ k) ∧ Aside0 (wc.heap[gb652]? = some (.cells #[.bool t647, .bool t648, .bool t649, .bool t650, .bool t651] 41 (0, 0))) ∧ Aside0 (wc.heap[gb659]? = some (.cells #[.bool t654, .bool t655, .bool t656, .bool t657, .bool t658] 41 (0, 0))) ∧ Aside0 (Below w.heap.size w wc))
 case first =>
  have H := HC3.out
  clear HC3
  by_cases c11 : t646 = 1073741824
  ·rw [if_pos c11] at H
   have c11b0 : (t646 == 1073741824) = true := beq_iff_eq.mpr c11
   have c11b1 : (t646 != 1073741824) = false := bne_eq_false_iff_eq.mpr c11
   clear c11
   (first | rw [c11b0] | (simp only [i64_w, i32_w]; rw [c11b0]) | skip)
   by_cases c12 : (!t647 && (!t648 && (!t649 && (!t650 && (!t651))))) = true
   ·rw [if_pos c12] at H
    have c12b0 : (!t647 && (!t648 && (!t649 && (!t650 && (!t651))))) = true := c12
    clear c12
    by_cases c13 : t653 = 31744
    ·rw [if_pos c13] at H
     have c13b0 : (t653 == 31744) = true := beq_iff_eq.mpr c13
     have c13b1 : (t653 != 31744) = false := bne_eq_false_iff_eq.mpr c13
     clear c13
     have H' := Aside0.mk H
     clear H
     have hnb14 := NB652_659.out
     have hnc14 := NB659_652.out
     have hcz15_0 : w8.cell? ⟨gb652, 0, none⟩ = some (.bool t647) := (blk_cell BK652.out 0).trans rfl
     have hcz15_1 : w8.cell? ⟨gb652, 1, none⟩ = some (.bool t648) := (blk_cell BK652.out 1).trans rfl
     have hcz15_2 : w8.cell? ⟨gb652, 2, none⟩ = some (.bool t649) := (blk_cell BK652.out 2).trans rfl
     have hcz15_3 : w8.cell? ⟨gb652, 3, none⟩ = some (.bool t650) := (blk_cell BK652.out 3).trans rfl
     have hcz15_4 : w8.cell? ⟨gb652, 4, none⟩ = some (.bool t651) := (blk_cell BK652.out 4).trans rfl
     have hfz15_0 := blk_frozen BK652.out 0
     have hfz15_1 := blk_frozen BK652.out 1
     have hfz15_2 := blk_frozen BK652.out 2
     have hfz15_3 := blk_frozen BK652.out 3
     have hfz15_4 := blk_frozen BK652.out 4
     have hcz16_0 : w8.cell? ⟨gb659, 0, none⟩ = some (.bool false) := (blk_cell BK659.out 0).trans rfl
     have hcz16_1 : w8.cell? ⟨gb659, 1, none⟩ = some (.bool false) := (blk_cell BK659.out 1).trans rfl
     have hcz16_2 : w8.cell? ⟨gb659, 2, none⟩ = some (.bool false) := (blk_cell BK659.out 2).trans rfl
     have hcz16_3 : w8.cell? ⟨gb659, 3, none⟩ = some (.bool false) := (blk_cell BK659.out 3).trans rfl
     have hcz16_4 : w8.cell? ⟨gb659, 4, none⟩ = some (.bool false) := (blk_cell BK659.out 4).trans rfl
     have hfz16_0 := blk_frozen BK659.out 0
     have hfz16_1 := blk_frozen BK659.out 1
     have hfz16_2 := blk_frozen BK659.out 2
     have hfz16_3 := blk_frozen BK659.out 3
     have hfz16_4 := blk_frozen BK659.out 4
     go_wp2
     go_meet
     case rel => exact ⟨_, ((!t654 && (t655 && (!t656 && (!t657 && (!t658)))))), (by first | rfl | (simp; done) | (simp [*]; done) | (congr 1; (try unfold wrap64); omega) | (congr 1; rw [IntKind.wrap_u64]; omega)), H', ⟨by first | omega | exact Nat.le_refl _⟩, ⟨by (with_reducible repeat first | apply bd | apply be | apply ba); refine blk_far ?_ NB652_659.out _; (with_reducible repeat first | apply bd | apply be | apply ba); refine blk_far ?_ NB652_659.out _; (with_reducible repeat first | apply bd | apply be | apply ba); refine blk_far ?_ NB652_659.out _; (with_reducible repeat first | apply bd | apply be | apply ba); refine blk_far ?_ NB652_659.out _; (with_reducible repeat first | apply bd | apply be | apply ba); refine blk_far ?_ NB652_659.out _; (with_reducible repeat first | apply bd | apply be | apply ba); exact BK652.out⟩, ⟨by (with_reducible repeat first | apply bd | apply be | apply ba); refine blk_put (cs := #[.bool t654, .bool t655, .bool t656, .bool t657, .bool false]) ?_ 4 _ rfl; (with_reducible repeat first | apply bd | apply be | apply ba); refine blk_put (cs := #[.bool t654, .bool t655, .bool t656, .bool false, .bool false]) ?_ 3 _ rfl; (with_reducible repeat first | apply bd | apply be | apply ba); refine blk_put (cs := #[.bool t654, .bool t655, .bool false, .bool false, .bool false]) ?_ 2 _ rfl; (with_reducible repeat first | apply bd | apply be | apply ba); refine blk_put (cs := #[.bool t654, .bool false, .bool false, .bool false, .bool false]) ?_ 1 _ rfl; (with_reducible repeat first | apply bd | apply be | apply ba); refine blk_put (cs := F5) ?_ 0 _ rfl; (with_reducible repeat first | apply bd | apply be | apply ba); exact BK659.out⟩, ⟨bl2 HB.out GE652.out GE659.out⟩⟩
    ·rw [if_neg c13] at H
     have c13b0 : (t653 == 31744) = false := beq_eq_false_iff_ne.mpr c13
     have c13b1 : (t653 != 31744) = true := bne_iff_ne.mpr c13
     have H' := Aside0.mk H
     clear H
     have hnb17 := NB652_659.out
     have hnc17 := NB659_652.out
     have hcz18_0 : w8.cell? ⟨gb652, 0, none⟩ = some (.bool t647) := (blk_cell BK652.out 0).trans rfl
     have hcz18_1 : w8.cell? ⟨gb652, 1, none⟩ = some (.bool t648) := (blk_cell BK652.out 1).trans rfl
     have hcz18_2 : w8.cell? ⟨gb652, 2, none⟩ = some (.bool t649) := (blk_cell BK652.out 2).trans rfl
     have hcz18_3 : w8.cell? ⟨gb652, 3, none⟩ = some (.bool t650) := (blk_cell BK652.out 3).trans rfl
     have hcz18_4 : w8.cell? ⟨gb652, 4, none⟩ = some (.bool t651) := (blk_cell BK652.out 4).trans rfl
     have hfz18_0 := blk_frozen BK652.out 0
     have hfz18_1 := blk_frozen BK652.out 1
     have hfz18_2 := blk_frozen BK652.out 2
     have hfz18_3 := blk_frozen BK652.out 3
     have hfz18_4 := blk_frozen BK652.out 4
     go_wp2
     go_meet
     case rel => exact ⟨_, (false), (by first | rfl | (simp; done) | (simp [*]; done) | (congr 1; (try unfold wrap64); omega) | (congr 1; rw [IntKind.wrap_u64]; omega)), H', ⟨by first | omega | exact Nat.le_refl _⟩, ⟨by (with_reducible repeat first | apply bd | apply be | apply ba); refine blk_far ?_ NB652_659.out _; (with_reducible repeat first | apply bd | apply be | apply ba); refine blk_far ?_ NB652_659.out _; (with_reducible repeat first | apply bd | apply be | apply ba); refine blk_far ?_ NB652_659.out _; (with_reducible repeat first | apply bd | apply be | apply ba); refine blk_far ?_ NB652_659.out _; (with_reducible repeat first | apply bd | apply be | apply ba); refine blk_far ?_ NB652_659.out _; (with_reducible repeat first | apply bd | apply be | apply ba); exact BK652.out⟩, ⟨by (with_reducible repeat first | apply bd | apply be | apply ba); refine blk_put (cs := #[.bool t654, .bool t655, .bool t656, .bool t657, .bool false]) ?_ 4 _ rfl; (with_reducible repeat first | apply bd | apply be | apply ba); refine blk_put (cs := #[.bool t654, .bool t655, .bool t656, .bool false, .bool false]) ?_ 3 _ rfl; (with_reducible repeat first | apply bd | apply be | apply ba); refine blk_put (cs := #[.bool t654, .bool t655, .bool false, .bool false, .bool false]) ?_ 2 _ rfl; (with_reducible repeat first | apply bd | apply be | apply ba); refine blk_put (cs := #[.bool t654, .bool false, .bool false, .bool false, .bool false]) ?_ 1 _ rfl; (with_reducible repeat first | apply bd | apply be | apply ba); refine blk_put (cs := F5) ?_ 0 _ rfl; (with_reducible repeat first | apply bd | apply be | apply ba); exact BK659.out⟩, ⟨bl2 HB.out GE652.out GE659.out⟩⟩
   ·rw [if_neg c12] at H
    have c12b0 : (!t647 && (!t648 && (!t649 && (!t650 && (!t651))))) = false := by simpa using c12
    clear c12
    have H' := Aside0.mk H
    clear H
    have hnb19 := NB652_659.out
    have hnc19 := NB659_652.out
    have hcz20_0 : w8.cell? ⟨gb652, 0, none⟩ = some (.bool t647) := (blk_cell BK652.out 0).trans rfl
    have hcz20_1 : w8.cell? ⟨gb652, 1, none⟩ = some (.bool t648) := (blk_cell BK652.out 1).trans rfl
    have hcz20_2 : w8.cell? ⟨gb652, 2, none⟩ = some (.bool t649) := (blk_cell BK652.out 2).trans rfl
    have hcz20_3 : w8.cell? ⟨gb652, 3, none⟩ = some (.bool t650) := (blk_cell BK652.out 3).trans rfl
    have hcz20_4 : w8.cell? ⟨gb652, 4, none⟩ = some (.bool t651) := (blk_cell BK652.out 4).trans rfl
    have hfz20_0 := blk_frozen BK652.out 0
    have hfz20_1 := blk_frozen BK652.out 1
    have hfz20_2 := blk_frozen BK652.out 2
    have hfz20_3 := blk_frozen BK652.out 3
    have hfz20_4 := blk_frozen BK652.out 4
    go_wp2
    go_meet
    case rel => exact ⟨_, (false), (by first | rfl | (simp; done) | (simp [*]; done) | (congr 1; (try unfold wrap64); omega) | (congr 1; rw [IntKind.wrap_u64]; omega)), H', ⟨by first | omega | exact Nat.le_refl _⟩, ⟨by (with_reducible repeat first | apply bd | apply be | apply ba); refine blk_far ?_ NB652_659.out _; (with_reducible repeat first | apply bd | apply be | apply ba); refine blk_far ?_ NB652_659.out _; (with_reducible repeat first | apply bd | apply be | apply ba); refine blk_far ?_ NB652_659.out _; (with_reducible repeat first | apply bd | apply be | apply ba); refine blk_far ?_ NB652_659.out _; (with_reducible repeat first | apply bd | apply be | apply ba); refine blk_far ?_ NB652_659.out _; (with_reducible repeat first | apply bd | apply be | apply ba); exact BK652.out⟩, ⟨by (with_reducible repeat first | apply bd | apply be | apply ba); refine blk_put (cs := #[.bool t654, .bool t655, .bool t656, .bool t657, .bool false]) ?_ 4 _ rfl; (with_reducible repeat first | apply bd | apply be | apply ba); refine blk_put (cs := #[.bool t654, .bool t655, .bool t656, .bool false, .bool false]) ?_ 3 _ rfl; (with_reducible repeat first | apply bd | apply be | apply ba); refine blk_put (cs := #[.bool t654, .bool t655, .bool false, .bool false, .bool false]) ?_ 2 _ rfl; (with_reducible repeat first | apply bd | apply be | apply ba); refine blk_put (cs := #[.bool t654, .bool false, .bool false, .bool false, .bool false]) ?_ 1 _ rfl; (with_reducible repeat first | apply bd | apply be | apply ba); refine blk_put (cs := F5) ?_ 0 _ rfl; (with_reducible repeat first | apply bd | apply be | apply ba); exact BK659.out⟩, ⟨bl2 HB.out GE652.out GE659.out⟩⟩
  ·rw [if_neg c11] at H
   have c11b0 : (t646 == 1073741824) = false := beq_eq_false_iff_ne.mpr c11
   have c11b1 : (t646 != 1073741824) = true := bne_iff_ne.mpr c11
   (first | rw [c11b0] | (simp only [i64_w, i32_w]; rw [c11b0]) | skip)
   have H' := Aside0.mk H
   clear H
   go_wp2
   go_meet
   case rel => exact ⟨_, (false), (by first | rfl | (simp; done) | (simp [*]; done) | (congr 1; (try unfold wrap64); omega) | (congr 1; rw [IntKind.wrap_u64]; omega)), H', ⟨by first | omega | exact Nat.le_refl _⟩, ⟨by (with_reducible repeat first | apply bd | apply be | apply ba); refine blk_far ?_ NB652_659.out _; (with_reducible repeat first | apply bd | apply be | apply ba); refine blk_far ?_ NB652_659.out _; (with_reducible repeat first | apply bd | apply be | apply ba); refine blk_far ?_ NB652_659.out _; (with_reducible repeat first | apply bd | apply be | apply ba); refine blk_far ?_ NB652_659.out _; (with_reducible repeat first | apply bd | apply be | apply ba); refine blk_far ?_ NB652_659.out _; (with_reducible repeat first | apply bd | apply be | apply ba); exact BK652.out⟩, ⟨by (with_reducible repeat first | apply bd | apply be | apply ba); refine blk_put (cs := #[.bool t654, .bool t655, .bool t656, .bool t657, .bool false]) ?_ 4 _ rfl; (with_reducible repeat first | apply bd | apply be | apply ba); refine blk_put (cs := #[.bool t654, .bool t655, .bool t656, .bool false, .bool false]) ?_ 3 _ rfl; (with_reducible repeat first | apply bd | apply be | apply ba); refine blk_put (cs := #[.bool t654, .bool t655, .bool false, .bool false, .bool false]) ?_ 2 _ rfl; (with_reducible repeat first | apply bd | apply be | apply ba); refine blk_put (cs := #[.bool t654, .bool false, .bool false, .bool false, .bool false]) ?_ 1 _ rfl; (with_reducible repeat first | apply bd | apply be | apply ba); refine blk_put (cs := F5) ?_ 0 _ rfl; (with_reducible repeat first | apply bd | apply be | apply ba); exact BK659.out⟩, ⟨bl2 HB.out GE652.out GE659.out⟩⟩
 case rest =>
  clear HC3
  try clear c1 p2 c3 p6 c9 c11 c11b0 c11b1 c12 c12b0 c13 c13b0 c13b1 c14 c17 c19 hcz10_0 hcz10_1 hcz10_2 hcz10_3 hcz10_4 hcz15_0 hcz15_1 hcz15_2 hcz15_3 hcz15_4 hcz16_0 hcz16_1 hcz16_2 hcz16_3 hcz16_4 hcz18_0 hcz18_1 hcz18_2 hcz18_3 hcz18_4 hcz20_0 hcz20_1 hcz20_2 hcz20_3 hcz20_4 hcz6_0 hcz6_1 hcz6_2 hcz6_3 hcz6_4 hfz10_0 hfz10_1 hfz10_2 hfz10_3 hfz10_4 hfz15_0 hfz15_1 hfz15_2 hfz15_3 hfz15_4 hfz16_0 hfz16_1 hfz16_2 hfz16_3 hfz16_4 hfz18_0 hfz18_1 hfz18_2 hfz18_3 hfz18_4 hfz20_0 hfz20_1 hfz20_2 hfz20_3 hfz20_4 hfz6_0 hfz6_1 hfz6_2 hfz6_3 hfz6_4
  obtain ⟨kq, x0_2, rfl, HA, HJ2, BK652, BK659, HB⟩ := hcut
  cases kq with
  |zero => exact absurd HA.out (by simp [anneallaw6_known.j0])
  |succ kj2 =>
   have H := HA.out
   clear HA
   simp only [anneallaw6_known.j0] at H
   obtain rfl := Option.some.inj H
   go_wp2
   go_ret
   exact ⟨by first | rfl | (simp [errW_none, errW_some] <;> rfl) | (simp [*, errW_none, errW_some] <;> rfl), bl2 HB.out GE652.out GE659.out⟩

/-! ### anneallaw6_form: function 34 -/
def anneallaw6_form.f (a0 : Int) : Option (Int) := (some (([0, 1, 2] : List Int) : List Int)).bind fun y660 => (if 0 ≤ (Int.tmod a0 3) then (if (Int.tmod a0 3) < (y660.length : Int) then (some (rd y660 (Int.tmod a0 3))) else (none)) else (none))
set_option maxHeartbeats 8000000 in
set_option maxRecDepth 100000 in
theorem anneallaw6_form.calls (a0 : Int) (r : Int) (w : World) (h : anneallaw6_form.f a0 = some r) :
  Calls Try.prog 34 #[.int .u8 a0] w fun e w' => e = .returned (.int .i64 r) ∧ Below w.heap.size w w' := by
 have HB := Aside0.mk (Below.refl w.heap.size w)
 have H : ((some (([0, 1, 2] : List Int) : List Int)).bind fun y660 => (if 0 ≤ (Int.tmod a0 3) then (if (Int.tmod a0 3) < (y660.length : Int) then (some (rd y660 (Int.tmod a0 3))) else (none)) else (none))) = some r := h
 clear h
 obtain ⟨y660, hy660⟩ : ∃ y_ : List Int, y_ = (([0, 1, 2] : List Int)) := ⟨_, rfl⟩
 replace H : (if 0 ≤ (Int.tmod a0 3) then (if (Int.tmod a0 3) < (y660.length : Int) then (some (rd y660 (Int.tmod a0 3))) else (none)) else (none)) = some r := by first | (rw [hy660]; with_reducible exact H) | (have H2_ := (Option.bind_some _ _).symm.trans H; rw [hy660]; with_reducible exact H2_) | (have H2_ := (Option.bind_some _ _).symm.trans H; with_reducible exact H2_) | with_reducible exact H | (rw [hy660]; exact H) | exact H
 have Ny660 := Aside0.mk hy660
 clear hy660
 obtain ⟨ji2, hji2⟩ : ∃ j_ : Int, (Int.tmod a0 3) = j_ := ⟨_, rfl⟩
 replace H : (if 0 ≤ (ji2) then (if (ji2) < (y660.length : Int) then (some (rd y660 (ji2))) else (none)) else (none)) = some r := by first | (rw [hji2] at H; exact H) | (simp only [hji2] at H ⊢; exact H)
 by_cases c3 : 0 ≤ (ji2)
 ·rw [if_pos c3] at H
  have c3b0 : decide (0 ≤ (ji2)) = true := decide_eq_true c3
  clear c3
  by_cases c4 : (ji2) < (y660.length : Int)
  ·rw [if_pos c4] at H
   have c4b0 : decide ((ji2) < (y660.length : Int)) = true := decide_eq_true c4
   clear c4
   obtain rfl := Option.some.inj H
   go_enter Try.func34, Try.ntmps34
   go_wp2_with (first | ((with_reducible refine gate_dst (N := 3) rfl ?_); refine Kd.R_lit (Kd.int .i64) _ 3 ?hg (N := 3) ?hd (xs := ([0, 1, 2] : List Int)) (inner := [.int .i64 0, .int .i64 1, .int .i64 2]) (ok := fun _ => True) (okp := fun _ => True) ?hr ?hp (fun _ hk => hk) trivial (Below.refl _ _) (Nat.le_refl _) (by simp) ?_; (case hd => rfl); (case hg => rfl); (case hr => first | (go_simp; done) | (go_simp; rfl)); (case hp => exact (Reps.one (show Kd.M (Kd.int .i64) _ _ _ 0 [.int .i64 0] from rfl) (Reps.one (show Kd.M (Kd.int .i64) _ _ _ 1 [.int .i64 1] from rfl) (Reps.one (show Kd.M (Kd.int .i64) _ _ _ 2 [.int .i64 2] from rfl) (Reps.none _ _))))); intro v661 w5 ho6 hb hg_ hnew_; clear hg_ hnew_; (first | rw [← Ny660.out] at ho6 | (simp only [Int.reduceToNat] at ho6; rw [← Ny660.out] at ho6)); have n0_ := Aside0.mk (Kd.R_lower ho6 (below_size (bl0 HB.out))); have n1_ := Aside0.mk (below_step (bl0 HB.out) hb); clear HB; have HO662 := n0_; have HB := n1_; clear n0_ n1_; clear hb ho6; obtain ⟨Ao7, co7, eo7⟩ := Kd.R_slice HO662.out; subst eo7; have p663 : 0 ≤ ((ji2) : Int) := of_decide_eq_true (by first | (with_reducible assumption) | assumption); have q663 : (ji2) < (y660.length : Int) := of_decide_eq_true (by first | (with_reducible assumption) | assumption); obtain ⟨ad663, e663, hx663_0⟩ := Kd.at_int (Kd.R_reads' HO662.out).2.2 (ji2) p663 q663; cases e663; replace p663 := eq_true p663; replace q663 := eq_true q663))
   go_ret
   exact ⟨by first | rfl | (simp [errW_none, errW_some] <;> rfl) | (simp only [← hji2]; first | rfl | (simp [errW_none, errW_some] <;> rfl)) | (simp [*, errW_none, errW_some] <;> rfl), bl0 HB.out⟩
  ·rw [if_neg c4] at H
   exact absurd H (by simp)
 ·rw [if_neg c3] at H
  exact absurd H (by simp)

end Go.Proofs.Ytngkpekmgahjiaa.P

-- Printed by a program of this session's out of Lean's print of the translation; Lean checks it.
namespace Go.Proofs.Ytngkpekmgahjiaa.P
open Go.RowKit Go.Proofs.YtngkpekmgahjiaaW.PrintWords Go.Proofs.YtngkpekmgahjiaaW.PrintLast Go.Proofs.YtngkpekmgahjiaaW.PrintMore
attribute [local go_sem] max2_int min2_int max_two min_two max_three min_three max_four min_four   -- for this text's walks alone
set_option linter.unusedVariables false
set_option linter.unusedSimpArgs false

/-! ### annealref1_Mask: function 59 -/
def annealref1_Mask.f (a0 : Int) : Option (Int) := (annealref1_Widths.f a0).bind fun bt278 => (if 0 ≤ (wrap64 ((wrap64 (1 + bt278.1)) + bt278.2)) then (some ((IntKind.u64.wrap ((shl .u64 1 (wrap64 ((wrap64 (1 + bt278.1)) + bt278.2))) - 1)) % 4294967296)) else (none))
set_option maxHeartbeats 8000000 in
set_option maxRecDepth 100000 in
theorem annealref1_Mask.calls (a0 : Int) (r : Int) (w : World) (h : annealref1_Mask.f a0 = some r) :
  Calls Try.prog 59 #[.int .i64 a0] w fun e w' => e = .returned (.int .u32 r) ∧ Drawn0 w w' := by
 have H : ((annealref1_Widths.f a0).bind fun bt278 => (if 0 ≤ (wrap64 ((wrap64 (1 + bt278.1)) + bt278.2)) then (some ((IntKind.u64.wrap ((shl .u64 1 (wrap64 ((wrap64 (1 + bt278.1)) + bt278.2))) - 1)) % 4294967296)) else (none))) = some r := h
 clear h
 replace H := Option.bind_eq_some_iff.mp H
 obtain ⟨⟨t278, t279⟩, A20, H⟩ := H
 replace H : (if 0 ≤ (wrap64 ((wrap64 (1 + t278)) + t279)) then (some ((IntKind.u64.wrap ((shl .u64 1 (wrap64 ((wrap64 (1 + t278)) + t279))) - 1)) % 4294967296)) else (none)) = some r := H
 have A2 := Aside0.mk A20
 clear A20
 obtain ⟨ji3, hji3⟩ : ∃ j_ : Int, (wrap64 ((wrap64 (1 + t278)) + t279)) = j_ := ⟨_, rfl⟩
 replace H : (if 0 ≤ (ji3) then (some ((IntKind.u64.wrap ((shl .u64 1 (ji3)) - 1)) % 4294967296)) else (none)) = some r := by first | (rw [hji3] at H; exact H) | (simp only [hji3] at H ⊢; exact H)
 (try rw [hji3] at A2)
 have hji3w : (IntKind.i64.wrap ((wrap64 (1 + t278)) + t279)) = ji3 := (i64_w _).trans hji3
 by_cases c4 : 0 ≤ (ji3)
 ·rw [if_pos c4] at H
  have c4b0 := eq_true c4
  have c4b1 : decide (0 ≤ (ji3)) = true := decide_eq_true c4
  clear c4
  obtain ⟨ji5, hji5⟩ : ∃ j_ : Int, (shl .u64 1 (ji3)) = j_ := ⟨_, rfl⟩
  replace H : (some ((IntKind.u64.wrap ((ji5) - 1)) % 4294967296)) = some r := by first | (rw [hji5] at H; exact H) | (simp only [hji5] at H ⊢; exact H)
  (try rw [hji5] at A2)
  have hji5_ : (IntKind.u64.wrap (1 * 2 ^ min (ji3).toNat 64)) = ji5 := hji5
  have hji5z : (ji3) ≤ 64 → (IntKind.u64.wrap (1 * 2 ^ (ji3).toNat)) = ji5 := shl_small hji5
  have hji5u : (IntKind.u64.wrap (2 ^ min (ji3).toNat 64)) = ji5 := by have h_ := hji5_; rw [Int.one_mul] at h_; exact h_
  have hji5v : (ji3) ≤ 64 → (IntKind.u64.wrap (2 ^ (ji3).toNat)) = ji5 := fun hle_ => by have h_ := hji5z hle_; rw [Int.one_mul] at h_; exact h_
  obtain rfl := Option.some.inj H
  go_enter Try.func59, Try.ntmps59
  go_wp2_with (first | ((with_reducible refine gate_callee (f := 49) rfl ?_); refine goesL_ (some 7) rfl rfl Try.func49 (by kernel_rfl) rfl #[.int .i64 a0] rfl gl ?_; (with_reducible refine (annealref1_Widths.calls a0 t278 t279 _ A2.out).mono ?_); rintro e w' ⟨rfl, ⟨nd, rfl⟩⟩; refine ⟨_, rfl, ?_⟩))
  go_ret
  exact ⟨by first | rfl | (simp; done) | (simp only [← hji3, ← hji5] <;> (first | rfl | (simp; done))) | (simp [*]; done) | (congr 1; (try unfold wrap64); omega) | (congr 1; rw [IntKind.wrap_u64]; omega), by repeat (first | exact Drawn0.refl _ | apply Drawn0.step)⟩
 ·rw [if_neg c4] at H
  exact absurd H (by simp)

/-! ### annealref1_parts: function 97 -/
def annealref1_parts.f (a0 : Int) (a1 : Int) : Option (Bool × Int × Int) := (annealref1_Widths.f a0).bind fun bt280 => ((annealref1_Mask.f a0).bind fun t282 => (if 0 ≤ (wrap64 (bt280.1 + bt280.2)) then (if 0 ≤ bt280.2 then (if 0 ≤ bt280.1 then (some (((shr .u32 (Go.bits .and .u32 a1 t282) (wrap64 (bt280.1 + bt280.2))) == 1), wrap64 (Go.bits .and .u32 (shr .u32 (Go.bits .and .u32 a1 t282) bt280.2) (((shl .u32 1 bt280.1) - 1) % 4294967296)), IntKind.u64.wrap (Go.bits .and .u32 (Go.bits .and .u32 a1 t282) (((shl .u32 1 bt280.2) - 1) % 4294967296)))) else (none)) else (none)) else (none)))
set_option maxHeartbeats 8000000 in
set_option maxRecDepth 100000 in
theorem annealref1_parts.calls (a0 : Int) (a1 : Int) (r1 : Bool) (r2 : Int) (r3 : Int) (w : World) (h : annealref1_parts.f a0 a1 = some (r1, r2, r3)) :
  Calls Try.prog 97 #[.int .i64 a0, .int .u32 a1] w fun e w' => e = .returned (.tuple #[.bool r1, .int .i64 r2, .int .u64 r3]) ∧ Drawn0 w w' := by
 have H : ((annealref1_Widths.f a0).bind fun bt280 => ((annealref1_Mask.f a0).bind fun t282 => (if 0 ≤ (wrap64 (bt280.1 + bt280.2)) then (if 0 ≤ bt280.2 then (if 0 ≤ bt280.1 then (some (((shr .u32 (Go.bits .and .u32 a1 t282) (wrap64 (bt280.1 + bt280.2))) == 1), wrap64 (Go.bits .and .u32 (shr .u32 (Go.bits .and .u32 a1 t282) bt280.2) (((shl .u32 1 bt280.1) - 1) % 4294967296)), IntKind.u64.wrap (Go.bits .and .u32 (Go.bits .and .u32 a1 t282) (((shl .u32 1 bt280.2) - 1) % 4294967296)))) else (none)) else (none)) else (none)))) = some (r1, r2, r3) := h
 clear h
 replace H := Option.bind_eq_some_iff.mp H
 obtain ⟨⟨t280, t281⟩, A30, H⟩ := H
 replace H : ((annealref1_Mask.f a0).bind fun t282 => (if 0 ≤ (wrap64 (t280 + t281)) then (if 0 ≤ t281 then (if 0 ≤ t280 then (some (((shr .u32 (Go.bits .and .u32 a1 t282) (wrap64 (t280 + t281))) == 1), wrap64 (Go.bits .and .u32 (shr .u32 (Go.bits .and .u32 a1 t282) t281) (((shl .u32 1 t280) - 1) % 4294967296)), IntKind.u64.wrap (Go.bits .and .u32 (Go.bits .and .u32 a1 t282) (((shl .u32 1 t281) - 1) % 4294967296)))) else (none)) else (none)) else (none))) = some (r1, r2, r3) := H
 have A3 := Aside0.mk A30
 clear A30
 replace H := Option.bind_eq_some_iff.mp H
 obtain ⟨t282, A40, H⟩ := H
 replace H : (if 0 ≤ (wrap64 (t280 + t281)) then (if 0 ≤ t281 then (if 0 ≤ t280 then (some (((shr .u32 (Go.bits .and .u32 a1 t282) (wrap64 (t280 + t281))) == 1), wrap64 (Go.bits .and .u32 (shr .u32 (Go.bits .and .u32 a1 t282) t281) (((shl .u32 1 t280) - 1) % 4294967296)), IntKind.u64.wrap (Go.bits .and .u32 (Go.bits .and .u32 a1 t282) (((shl .u32 1 t281) - 1) % 4294967296)))) else (none)) else (none)) else (none)) = some (r1, r2, r3) := H
 have A4 := Aside0.mk A40
 clear A40
 obtain ⟨ji5, hji5⟩ : ∃ j_ : Int, (wrap64 (t280 + t281)) = j_ := ⟨_, rfl⟩
 replace H : (if 0 ≤ (ji5) then (if 0 ≤ t281 then (if 0 ≤ t280 then (some (((shr .u32 (Go.bits .and .u32 a1 t282) (ji5)) == 1), wrap64 (Go.bits .and .u32 (shr .u32 (Go.bits .and .u32 a1 t282) t281) (((shl .u32 1 t280) - 1) % 4294967296)), IntKind.u64.wrap (Go.bits .and .u32 (Go.bits .and .u32 a1 t282) (((shl .u32 1 t281) - 1) % 4294967296)))) else (none)) else (none)) else (none)) = some (r1, r2, r3) := by first | (rw [hji5] at H; exact H) | (simp only [hji5] at H ⊢; exact H)
 (try rw [hji5] at A3)
 (try rw [hji5] at A4)
 have hji5w : (IntKind.i64.wrap (t280 + t281)) = ji5 := (i64_w _).trans hji5
 by_cases c6 : 0 ≤ (ji5)
 ·rw [if_pos c6] at H
  have c6b0 := eq_true c6
  have c6b1 : decide (0 ≤ (ji5)) = true := decide_eq_true c6
  clear c6
  obtain ⟨ji7, hji7⟩ : ∃ j_ : Int, (shr .u32 (Go.bits .and .u32 a1 t282) (ji5)) = j_ := ⟨_, rfl⟩
  replace H : (if 0 ≤ t281 then (if 0 ≤ t280 then (some (((ji7) == 1), wrap64 (Go.bits .and .u32 (shr .u32 (Go.bits .and .u32 a1 t282) t281) (((shl .u32 1 t280) - 1) % 4294967296)), IntKind.u64.wrap (Go.bits .and .u32 (Go.bits .and .u32 a1 t282) (((shl .u32 1 t281) - 1) % 4294967296)))) else (none)) else (none)) = some (r1, r2, r3) := by first | (rw [hji7] at H; exact H) | (simp only [hji7] at H ⊢; exact H)
  (try rw [hji7] at A3)
  (try rw [hji7] at A4)
  have hji7_ : ((Go.bits .and .u32 a1 t282) / 2 ^ min (ji5).toNat 32) = ji7 := hji7
  have hji7z : (ji5) ≤ 32 → ((Go.bits .and .u32 a1 t282) / 2 ^ (ji5).toNat) = ji7 := shr_small hji7
  by_cases c8 : 0 ≤ t281
  ·rw [if_pos c8] at H
   have c8b0 := eq_true c8
   have c8b1 : decide (0 ≤ t281) = true := decide_eq_true c8
   clear c8
   obtain ⟨ji9, hji9⟩ : ∃ j_ : Int, (shr .u32 (Go.bits .and .u32 a1 t282) t281) = j_ := ⟨_, rfl⟩
   replace H : (if 0 ≤ t280 then (some (((ji7) == 1), wrap64 (Go.bits .and .u32 (ji9) (((shl .u32 1 t280) - 1) % 4294967296)), IntKind.u64.wrap (Go.bits .and .u32 (Go.bits .and .u32 a1 t282) (((shl .u32 1 t281) - 1) % 4294967296)))) else (none)) = some (r1, r2, r3) := by first | (rw [hji9] at H; exact H) | (simp only [hji9] at H ⊢; exact H)
   (try rw [hji9] at A3)
   (try rw [hji9] at A4)
   have hji9_ : ((Go.bits .and .u32 a1 t282) / 2 ^ min t281.toNat 32) = ji9 := hji9
   have hji9z : t281 ≤ 32 → ((Go.bits .and .u32 a1 t282) / 2 ^ t281.toNat) = ji9 := shr_small hji9
   by_cases c10 : 0 ≤ t280
   ·rw [if_pos c10] at H
    have c10b0 := eq_true c10
    have c10b1 : decide (0 ≤ t280) = true := decide_eq_true c10
    clear c10
    obtain ⟨ji11, hji11⟩ : ∃ j_ : Int, (shl .u32 1 t280) = j_ := ⟨_, rfl⟩
    replace H : (some (((ji7) == 1), wrap64 (Go.bits .and .u32 (ji9) (((ji11) - 1) % 4294967296)), IntKind.u64.wrap (Go.bits .and .u32 (Go.bits .and .u32 a1 t282) (((shl .u32 1 t281) - 1) % 4294967296)))) = some (r1, r2, r3) := by first | (rw [hji11] at H; exact H) | (simp only [hji11] at H ⊢; exact H)
    (try rw [hji11] at A3)
    (try rw [hji11] at A4)
    have hji11_ : (IntKind.u32.wrap (1 * 2 ^ min t280.toNat 32)) = ji11 := hji11
    have hji11z : t280 ≤ 32 → (IntKind.u32.wrap (1 * 2 ^ t280.toNat)) = ji11 := shl_small hji11
    have hji11u : (IntKind.u32.wrap (2 ^ min t280.toNat 32)) = ji11 := by have h_ := hji11_; rw [Int.one_mul] at h_; exact h_
    have hji11v : t280 ≤ 32 → (IntKind.u32.wrap (2 ^ t280.toNat)) = ji11 := fun hle_ => by have h_ := hji11z hle_; rw [Int.one_mul] at h_; exact h_
    obtain ⟨ji12, hji12⟩ : ∃ j_ : Int, (((ji11) - 1) % 4294967296) = j_ := ⟨_, rfl⟩
    replace H : (some (((ji7) == 1), wrap64 (Go.bits .and .u32 (ji9) (ji12)), IntKind.u64.wrap (Go.bits .and .u32 (Go.bits .and .u32 a1 t282) (((shl .u32 1 t281) - 1) % 4294967296)))) = some (r1, r2, r3) := by first | (rw [hji12] at H; exact H) | (simp only [hji12] at H ⊢; exact H)
    (try rw [hji12] at A3)
    (try rw [hji12] at A4)
    have hji12l : 0 ≤ ji12 := by rw [← hji12]; exact Int.emod_nonneg _ (by decide)
    have hji12h : ji12 ≤ 4294967295 := by have := Int.emod_lt_of_pos (((ji11) - 1)) (show (0 : Int) < 4294967296 by decide); omega
    have hji12w : (IntKind.u32.wrap ((ji11) - 1)) = ji12 := (u32_w _).trans hji12
    (try (have hji12_ := hji12; simp only [Int.add_emod_emod, Int.emod_add_emod, Int.sub_emod_emod, Int.emod_sub_emod] at hji12_))
    have c13b0 := eq_true (of_decide_eq_true (by first | (with_reducible assumption) | assumption) : 0 ≤ t281)
    obtain ⟨ji14, hji14⟩ : ∃ j_ : Int, (shl .u32 1 t281) = j_ := ⟨_, rfl⟩
    replace H : (some (((ji7) == 1), wrap64 (Go.bits .and .u32 (ji9) (ji12)), IntKind.u64.wrap (Go.bits .and .u32 (Go.bits .and .u32 a1 t282) (((ji14) - 1) % 4294967296)))) = some (r1, r2, r3) := by first | (rw [hji14] at H; exact H) | (simp only [hji14] at H ⊢; exact H)
    (try rw [hji14] at A3)
    (try rw [hji14] at A4)
    have hji14_ : (IntKind.u32.wrap (1 * 2 ^ min t281.toNat 32)) = ji14 := hji14
    have hji14z : t281 ≤ 32 → (IntKind.u32.wrap (1 * 2 ^ t281.toNat)) = ji14 := shl_small hji14
    have hji14u : (IntKind.u32.wrap (2 ^ min t281.toNat 32)) = ji14 := by have h_ := hji14_; rw [Int.one_mul] at h_; exact h_
    have hji14v : t281 ≤ 32 → (IntKind.u32.wrap (2 ^ t281.toNat)) = ji14 := fun hle_ => by have h_ := hji14z hle_; rw [Int.one_mul] at h_; exact h_
    obtain ⟨ji15, hji15⟩ : ∃ j_ : Int, (((ji14) - 1) % 4294967296) = j_ := ⟨_, rfl⟩
    replace H : (some (((ji7) == 1), wrap64 (Go.bits .and .u32 (ji9) (ji12)), IntKind.u64.wrap (Go.bits .and .u32 (Go.bits .and .u32 a1 t282) (ji15)))) = some (r1, r2, r3) := by first | (rw [hji15] at H; exact H) | (simp only [hji15] at H ⊢; exact H)
    (try rw [hji15] at A3)
    (try rw [hji15] at A4)
    have hji15l : 0 ≤ ji15 := by rw [← hji15]; exact Int.emod_nonneg _ (by decide)
    have hji15h : ji15 ≤ 4294967295 := by have := Int.emod_lt_of_pos (((ji14) - 1)) (show (0 : Int) < 4294967296 by decide); omega
    have hji15w : (IntKind.u32.wrap ((ji14) - 1)) = ji15 := (u32_w _).trans hji15
    (try (have hji15_ := hji15; simp only [Int.add_emod_emod, Int.emod_add_emod, Int.sub_emod_emod, Int.emod_sub_emod] at hji15_))
    simp only [Option.some.injEq, Prod.mk.injEq] at H
    obtain ⟨rfl, rfl, rfl⟩ := H
    go_enter Try.func97, Try.ntmps97
    go_wp2_with (first | (go_at_call 49; (with_reducible refine (annealref1_Widths.calls a0 t280 t281 _ A3.out).mono ?_); rintro e w' ⟨rfl, ⟨nd, rfl⟩⟩; (try first | exact ⟨rfl, _, World.drewN_drewN _ _ _⟩ | exact ⟨rfl, _, Eq.trans (World.drewN_drewN _ _ _) (congrArg (World.drewN _) (Nat.add_assoc _ _ _))⟩)) | (go_at_call 59; (with_reducible refine (annealref1_Mask.calls a0 t282 _ A4.out).mono ?_); rintro e w' ⟨rfl, ⟨nd, rfl⟩⟩; (try first | exact ⟨rfl, _, World.drewN_drewN _ _ _⟩ | exact ⟨rfl, _, Eq.trans (World.drewN_drewN _ _ _) (congrArg (World.drewN _) (Nat.add_assoc _ _ _))⟩)))
    repeat (go_quiet (first | (go_at_call 49; (with_reducible refine (annealref1_Widths.calls a0 t280 t281 _ A3.out).mono ?_); rintro e w' ⟨rfl, ⟨nd, rfl⟩⟩; (try first | exact ⟨rfl, _, World.drewN_drewN _ _ _⟩ | exact ⟨rfl, _, Eq.trans (World.drewN_drewN _ _ _) (congrArg (World.drewN _) (Nat.add_assoc _ _ _))⟩)) | (go_at_call 59; (with_reducible refine (annealref1_Mask.calls a0 t282 _ A4.out).mono ?_); rintro e w' ⟨rfl, ⟨nd, rfl⟩⟩; (try first | exact ⟨rfl, _, World.drewN_drewN _ _ _⟩ | exact ⟨rfl, _, Eq.trans (World.drewN_drewN _ _ _) (congrArg (World.drewN _) (Nat.add_assoc _ _ _))⟩))); try go_wp2_with (first | (go_at_call 49; (with_reducible refine (annealref1_Widths.calls a0 t280 t281 _ A3.out).mono ?_); rintro e w' ⟨rfl, ⟨nd, rfl⟩⟩; (try first | exact ⟨rfl, _, World.drewN_drewN _ _ _⟩ | exact ⟨rfl, _, Eq.trans (World.drewN_drewN _ _ _) (congrArg (World.drewN _) (Nat.add_assoc _ _ _))⟩)) | (go_at_call 59; (with_reducible refine (annealref1_Mask.calls a0 t282 _ A4.out).mono ?_); rintro e w' ⟨rfl, ⟨nd, rfl⟩⟩; (try first | exact ⟨rfl, _, World.drewN_drewN _ _ _⟩ | exact ⟨rfl, _, Eq.trans (World.drewN_drewN _ _ _) (congrArg (World.drewN _) (Nat.add_assoc _ _ _))⟩))))
    go_ret3
    exact ⟨by first | rfl | (simp; done) | (simp only [← hji5, ← hji7, ← hji9, ← hji11, ← hji12, ← hji14, ← hji15] <;> (first | rfl | (simp; done))) | (simp [*]; done) | (congr 1; (try unfold wrap64); omega) | (congr 1; rw [IntKind.wrap_u64]; omega), by repeat (first | exact Drawn0.refl _ | apply Drawn0.step)⟩
   ·rw [if_neg c10] at H
    exact absurd H (by simp)
  ·rw [if_neg c8] at H
   exact absurd H (by simp)
 ·rw [if_neg c6] at H
  exact absurd H (by simp)

/-! ### annealref1_neg: function 71 -/
def annealref1_neg.f (a0 : Int) (a1 : Int) : Option (Bool) := (annealref1_parts.f a0 a1).bind fun bt283 => (some bt283.1)
set_option maxHeartbeats 8000000 in
set_option maxRecDepth 100000 in
theorem annealref1_neg.calls (a0 : Int) (a1 : Int) (r : Bool) (w : World) (h : annealref1_neg.f a0 a1 = some r) :
  Calls Try.prog 71 #[.int .i64 a0, .int .u32 a1] w fun e w' => e = .returned (.bool r) ∧ Drawn0 w w' := by
 have H : ((annealref1_parts.f a0 a1).bind fun bt283 => (some bt283.1)) = some r := h
 clear h
 replace H := Option.bind_eq_some_iff.mp H
 obtain ⟨⟨t283, t284, t285⟩, A30, H⟩ := H
 replace H : (some t283) = some r := H
 have A3 := Aside0.mk A30
 clear A30
 obtain rfl := Option.some.inj H
 go_enter Try.func71, Try.ntmps71
 go_wp2_with (first | ((with_reducible refine gate_callee (f := 97) rfl ?_); refine goesL_ (some 11) rfl rfl Try.func97 (by kernel_rfl) rfl #[.int .i64 a0, .int .u32 a1] rfl gl ?_; (with_reducible refine (annealref1_parts.calls a0 a1 t283 t284 t285 _ A3.out).mono ?_); rintro e w' ⟨rfl, ⟨nd, rfl⟩⟩; refine ⟨_, rfl, ?_⟩))
 go_ret
 exact ⟨by first | rfl | (simp; done) | (simp [*]; done) | (congr 1; (try unfold wrap64); omega) | (congr 1; rw [IntKind.wrap_u64]; omega), by repeat (first | exact Drawn0.refl _ | apply Drawn0.step)⟩

/-! ### annealref1_Key: function 44 -/
/-! ### annealref1_Class: function 96 -/
def annealref1_Class.j0 : Nat → Int → Int → Int → Int → Bool → Option (Int)
 |0, _, _, _, _, _ => none
 |k + 1, x5, x6, x8, x9, x22 => if x22 = true then (some 0) else (if x8 = 0 then (some 1) else (if 0 ≤ x5 then (if x8 < (wrap64 ((shl .i64 1 x5) - 1)) then (some 2) else (if x9 = 0 then (some 3) else (if 0 ≤ (wrap64 (x6 - 1)) then (if (shr .u64 x9 (wrap64 (x6 - 1))) = 1 then (some 4) else (some 5)) else (none)))) else (none)))
def annealref1_Class.f (k : Nat) (a0 : Int) (a1 : Int) : Option (Int) := (annealref1_Widths.f a0).bind fun bt289 => ((annealref1_parts.f a0 a1).bind fun bt291 => (if bt291.2.1 = 0 then (annealref1_Class.j0 k bt289.1 bt289.2 bt291.2.1 bt291.2.2 (bt291.2.2 == 0)) else (annealref1_Class.j0 k bt289.1 bt289.2 bt291.2.1 bt291.2.2 false)))
set_option maxHeartbeats 8000000 in
set_option maxRecDepth 100000 in
theorem annealref1_Class.calls (k : Nat) (a0 : Int) (a1 : Int) (r : Int) (w : World) (h : annealref1_Class.f k a0 a1 = some r) :
  Calls Try.prog 96 #[.int .i64 a0, .int .u32 a1] w fun e w' => e = .returned (.int .i64 r) ∧ Drawn0 w w' := by
 have H : ((annealref1_Widths.f a0).bind fun bt289 => ((annealref1_parts.f a0 a1).bind fun bt291 => (if bt291.2.1 = 0 then (annealref1_Class.j0 k bt289.1 bt289.2 bt291.2.1 bt291.2.2 (bt291.2.2 == 0)) else (annealref1_Class.j0 k bt289.1 bt289.2 bt291.2.1 bt291.2.2 false)))) = some r := h
 clear h
 replace H := Option.bind_eq_some_iff.mp H
 obtain ⟨⟨t289, t290⟩, A30, H⟩ := H
 replace H : ((annealref1_parts.f a0 a1).bind fun bt291 => (if bt291.2.1 = 0 then (annealref1_Class.j0 k t289 t290 bt291.2.1 bt291.2.2 (bt291.2.2 == 0)) else (annealref1_Class.j0 k t289 t290 bt291.2.1 bt291.2.2 false))) = some r := H
 have A3 := Aside0.mk A30
 clear A30
 replace H := Option.bind_eq_some_iff.mp H
 obtain ⟨⟨t291, t292, t293⟩, A40, H⟩ := H
 replace H : (if t292 = 0 then (annealref1_Class.j0 k t289 t290 t292 t293 (t293 == 0)) else (annealref1_Class.j0 k t289 t290 t292 t293 false)) = some r := H
 have A4 := Aside0.mk A40
 clear A40
 have HC5 := Aside0.mk H
 clear H
 go_enter Try.func96, Try.ntmps96
 go_upto_region 3 with (first | ((with_reducible refine gate_callee (f := 49) rfl ?_); refine goesL_ (some 12) rfl rfl Try.func49 (by kernel_rfl) rfl #[.int .i64 a0] rfl gl ?_; (with_reducible refine (annealref1_Widths.calls a0 t289 t290 _ A3.out).mono ?_); rintro e w' ⟨rfl, ⟨nd, rfl⟩⟩; refine ⟨_, rfl, ?_⟩) | ((with_reducible refine gate_callee (f := 97) rfl ?_); refine goesL_ (some 18) rfl rfl Try.func97 (by kernel_rfl) rfl #[.int .i64 a0, .int .u32 a1] rfl gl ?_; (with_reducible refine (annealref1_parts.calls a0 a1 t291 t292 t293 _ A4.out).mono ?_); rintro e w' ⟨rfl, ⟨nd, rfl⟩⟩; refine ⟨_, rfl, ?_⟩))
 (try simp only [Act.put, sb, sz, ss])
 go_cut [22] (fun v22 wc => ∃ (kq : Nat) (x22_4 : Bool), v22 = .bool x22_4 ∧ Aside0 (annealref1_Class.j0 kq t289 t290 t292 t293 x22_4 = some r) ∧ Aside0 (kq ≤ k) ∧ Drawn0 w wc)
 case first =>
  have H := HC5.out
  clear HC5
  by_cases c6 : t292 = 0
  ·rw [if_pos c6] at H
   have c6b0 : (t292 == 0) = true := beq_iff_eq.mpr c6
   have c6b1 : (t292 != 0) = false := bne_eq_false_iff_eq.mpr c6
   clear c6
   (first | rw [c6b0] | (simp only [i64_w, i32_w]; rw [c6b0]) | skip)
   have H' := Aside0.mk H
   clear H
   go_wp2
   go_meet
   case rel => exact ⟨_, ((t293 == 0)), (by first | rfl | (simp; done) | (simp [*]; done) | (congr 1; (try unfold wrap64); omega) | (congr 1; rw [IntKind.wrap_u64]; omega)), H', ⟨by first | omega | exact Nat.le_refl _⟩, by repeat (first | exact Drawn0.refl _ | apply Drawn0.step)⟩
  ·rw [if_neg c6] at H
   have c6b0 : (t292 == 0) = false := beq_eq_false_iff_ne.mpr c6
   have c6b1 : (t292 != 0) = true := bne_iff_ne.mpr c6
   (first | rw [c6b0] | (simp only [i64_w, i32_w]; rw [c6b0]) | skip)
   have H' := Aside0.mk H
   clear H
   go_wp2
   go_meet
   case rel => exact ⟨_, (false), (by first | rfl | (simp; done) | (simp [*]; done) | (congr 1; (try unfold wrap64); omega) | (congr 1; rw [IntKind.wrap_u64]; omega)), H', ⟨by first | omega | exact Nat.le_refl _⟩, by repeat (first | exact Drawn0.refl _ | apply Drawn0.step)⟩
 case rest =>
  clear HC5
  try clear p2 c4 c6 c6b0 c6b1 p6
  obtain ⟨kq, x22_4, rfl, HA, HJ4, ⟨mc4, rfl⟩⟩ := hcut
  cases kq with
  |zero => exact absurd HA.out (by simp [annealref1_Class.j0])
  |succ kj4 =>
   have H := HA.out
   clear HA
   simp only [annealref1_Class.j0] at H
   by_cases c7 : x22_4 = true
   ·subst c7
    have H1 : (some 0) = some r := by rw [if_pos rfl] at H; exact H
    clear H
    have H := H1
    clear H1
    obtain rfl := Option.some.inj H
    go_wp2
    go_ret
    exact ⟨by first | rfl | (simp; done) | (simp [*]; done) | (congr 1; (try unfold wrap64); omega) | (congr 1; rw [IntKind.wrap_u64]; omega), by repeat (first | exact Drawn0.refl _ | apply Drawn0.step)⟩
   ·replace c7 := Bool.eq_false_iff.mpr c7
    subst c7
    have H1 : (if t292 = 0 then (some 1) else (if 0 ≤ t289 then (if t292 < (wrap64 ((shl .i64 1 t289) - 1)) then (some 2) else (if t293 = 0 then (some 3) else (if 0 ≤ (wrap64 (t290 - 1)) then (if (shr .u64 t293 (wrap64 (t290 - 1))) = 1 then (some 4) else (some 5)) else (none)))) else (none))) = some r := by rw [if_neg (show ¬ (false = true) by decide)] at H; exact H
    clear H
    have H := H1
    clear H1
    by_cases c8 : t292 = 0
    ·rw [if_pos c8] at H
     have c8b0 : (t292 == 0) = true := beq_iff_eq.mpr c8
     have c8b1 : (t292 != 0) = false := bne_eq_false_iff_eq.mpr c8
     clear c8
     obtain rfl := Option.some.inj H
     go_wp2
     go_ret
     exact ⟨by first | rfl | (simp; done) | (simp [*]; done) | (congr 1; (try unfold wrap64); omega) | (congr 1; rw [IntKind.wrap_u64]; omega), by repeat (first | exact Drawn0.refl _ | apply Drawn0.step)⟩
    ·rw [if_neg c8] at H
     have c8b0 : (t292 == 0) = false := beq_eq_false_iff_ne.mpr c8
     have c8b1 : (t292 != 0) = true := bne_iff_ne.mpr c8
     by_cases c9 : 0 ≤ t289
     ·rw [if_pos c9] at H
      have c9b0 := eq_true c9
      have c9b1 : decide (0 ≤ t289) = true := decide_eq_true c9
      clear c9
      obtain ⟨ji10, hji10⟩ : ∃ j_ : Int, (shl .i64 1 t289) = j_ := ⟨_, rfl⟩
      replace H : (if t292 < (wrap64 ((ji10) - 1)) then (some 2) else (if t293 = 0 then (some 3) else (if 0 ≤ (wrap64 (t290 - 1)) then (if (shr .u64 t293 (wrap64 (t290 - 1))) = 1 then (some 4) else (some 5)) else (none)))) = some r := by first | (rw [hji10] at H; exact H) | (simp only [hji10] at H ⊢; exact H)
      have hji10_ : (IntKind.i64.wrap (1 * 2 ^ min t289.toNat 64)) = ji10 := hji10
      have hji10z : t289 ≤ 64 → (IntKind.i64.wrap (1 * 2 ^ t289.toNat)) = ji10 := shl_small hji10
      have hji10u : (IntKind.i64.wrap (2 ^ min t289.toNat 64)) = ji10 := by have h_ := hji10_; rw [Int.one_mul] at h_; exact h_
      have hji10v : t289 ≤ 64 → (IntKind.i64.wrap (2 ^ t289.toNat)) = ji10 := fun hle_ => by have h_ := hji10z hle_; rw [Int.one_mul] at h_; exact h_
      have hji10y : (wrap64 (1 * 2 ^ min t289.toNat 64)) = ji10 := (i64_w _).symm.trans hji10_
      have hji10x : t289 ≤ 64 → (wrap64 (1 * 2 ^ t289.toNat)) = ji10 := fun h_ => (i64_w _).symm.trans (hji10z h_)
      by_cases c11 : t292 < (wrap64 ((ji10) - 1))
      ·rw [if_pos c11] at H
       have c11b0 : decide (t292 < (wrap64 ((ji10) - 1))) = true := decide_eq_true c11
       clear c11
       obtain rfl := Option.some.inj H
       go_wp2
       go_ret
       exact ⟨by first | rfl | (simp; done) | (simp only [← hji10] <;> (first | rfl | (simp; done))) | (simp [*]; done) | (congr 1; (try unfold wrap64); omega) | (congr 1; rw [IntKind.wrap_u64]; omega), by repeat (first | exact Drawn0.refl _ | apply Drawn0.step)⟩
      ·rw [if_neg c11] at H
       have c11b0 : decide (t292 < (wrap64 ((ji10) - 1))) = false := decide_eq_false c11
       clear c11
       by_cases c12 : t293 = 0
       ·rw [if_pos c12] at H
        have c12b0 : (t293 == 0) = true := beq_iff_eq.mpr c12
        have c12b1 : (t293 != 0) = false := bne_eq_false_iff_eq.mpr c12
        clear c12
        obtain rfl := Option.some.inj H
        go_wp2
        go_ret
        exact ⟨by first | rfl | (simp; done) | (simp only [← hji10] <;> (first | rfl | (simp; done))) | (simp [*]; done) | (congr 1; (try unfold wrap64); omega) | (congr 1; rw [IntKind.wrap_u64]; omega), by repeat (first | exact Drawn0.refl _ | apply Drawn0.step)⟩
       ·rw [if_neg c12] at H
        have c12b0 : (t293 == 0) = false := beq_eq_false_iff_ne.mpr c12
        have c12b1 : (t293 != 0) = true := bne_iff_ne.mpr c12
        obtain ⟨ji13, hji13⟩ : ∃ j_ : Int, (wrap64 (t290 - 1)) = j_ := ⟨_, rfl⟩
        replace H : (if 0 ≤ (ji13) then (if (shr .u64 t293 (ji13)) = 1 then (some 4) else (some 5)) else (none)) = some r := by first | (rw [hji13] at H; exact H) | (simp only [hji13] at H ⊢; exact H)
        have hji13w : (IntKind.i64.wrap (t290 - 1)) = ji13 := (i64_w _).trans hji13
        by_cases c14 : 0 ≤ (ji13)
        ·rw [if_pos c14] at H
         have c14b0 := eq_true c14
         have c14b1 : decide (0 ≤ (ji13)) = true := decide_eq_true c14
         clear c14
         obtain ⟨ji15, hji15⟩ : ∃ j_ : Int, (shr .u64 t293 (ji13)) = j_ := ⟨_, rfl⟩
         replace H : (if (ji15) = 1 then (some 4) else (some 5)) = some r := by first | (rw [hji15] at H; exact H) | (simp only [hji15] at H ⊢; exact H)
         have hji15_ : (t293 / 2 ^ min (ji13).toNat 64) = ji15 := hji15
         have hji15z : (ji13) ≤ 64 → (t293 / 2 ^ (ji13).toNat) = ji15 := shr_small hji15
         by_cases c16 : (ji15) = 1
         ·rw [if_pos c16] at H
          have c16b0 : ((ji15) == 1) = true := beq_iff_eq.mpr c16
          have c16b1 : ((ji15) != 1) = false := bne_eq_false_iff_eq.mpr c16
          clear c16
          obtain rfl := Option.some.inj H
          go_wp2
          go_ret
          exact ⟨by first | rfl | (simp; done) | (simp only [← hji10, ← hji13, ← hji15] <;> (first | rfl | (simp; done))) | (simp [*]; done) | (congr 1; (try unfold wrap64); omega) | (congr 1; rw [IntKind.wrap_u64]; omega), by repeat (first | exact Drawn0.refl _ | apply Drawn0.step)⟩
         ·rw [if_neg c16] at H
          have c16b0 : ((ji15) == 1) = false := beq_eq_false_iff_ne.mpr c16
          have c16b1 : ((ji15) != 1) = true := bne_iff_ne.mpr c16
          obtain rfl := Option.some.inj H
          go_wp2
          go_ret
          exact ⟨by first | rfl | (simp; done) | (simp only [← hji10, ← hji13, ← hji15] <;> (first | rfl | (simp; done))) | (simp [*]; done) | (congr 1; (try unfold wrap64); omega) | (congr 1; rw [IntKind.wrap_u64]; omega), by repeat (first | exact Drawn0.refl _ | apply Drawn0.step)⟩
        ·rw [if_neg c14] at H
         exact absurd H (by simp)
     ·rw [if_neg c9] at H
      exact absurd H (by simp)

end Go.Proofs.Ytngkpekmgahjiaa.P
