import Derived.Test.YtngkpekmgahjiaaQqoZ
import Derived.Test.YtngkpekmgahjiaaQqoM1
import Derived.Test.YtngkpekmgahjiaaQqoPx36
import Derived.Test.YtngkpekmgahjiaaQqoPx37
import Derived.Test.YtngkpekmgahjiaaQqoM3
import Derived.Test.YtngkpekmgahjiaaQqoM4
import Derived.Test.YtngkpekmgahjiaaQqoPx17
-- Printed by a program of this session's out of Lean's print of the translation; Lean checks it.
namespace Go.Proofs.Ytngkpekmgahjiaa.P
open Go.RowKit Go.Proofs.YtngkpekmgahjiaaW.PrintWords Go.Proofs.YtngkpekmgahjiaaW.PrintLast Go.Proofs.YtngkpekmgahjiaaW.PrintMore
attribute [local go_sem] max2_int min2_int max_two min_two max_three min_three max_four min_four   -- for this text's walks alone
set_option linter.unusedVariables false
set_option linter.unusedSimpArgs false

attribute [local go_sem high] eqA41
/-! ### anneallaw6_known: function 33 -/
def anneallaw6_known.f (k : Nat)  : Option (Bool) := (quot_Sqrt.f k 2 0 1082130432).bind fun bt656 => ((quot_Div.f k 0 0 15360 0).bind fun bt663 => (if bt656.1 = 1073741824 then (if (!bt656.2.1 && (!bt656.2.2.1 && (!bt656.2.2.2.1 && (!bt656.2.2.2.2.1 && (!bt656.2.2.2.2.2))))) = true then (if bt663.1 = 31744 then (some (!bt663.2.1 && (bt663.2.2.1 && (!bt663.2.2.2.1 && (!bt663.2.2.2.2.1 && (!bt663.2.2.2.2.2)))))) else (some false)) else (some false)) else (some false)))
theorem anneallaw6_known.mono : ∀ k, LeO (anneallaw6_known.f k ) (anneallaw6_known.f (k + 1) ) := by
 intro  k
 unfold anneallaw6_known.f
 repeat' first
   |(with_reducible exact quot_Div.mono _ _ _ _ _)
   |(with_reducible exact quot_Sqrt.mono _ _ _ _)
   |(with_reducible exact LeO.refl _)
   |(with_reducible exact LeO.none _)
   |(with_reducible refine LeO.ite ?_ ?_)
   |(with_reducible refine LeO.bind ?_ (fun _ => ?_))
   |exact quot_Div.mono _ _ _ _ _
   |exact quot_Sqrt.mono _ _ _ _
   |exact LeO.none _
   |refine LeO.ite ?_ ?_
   |refine LeO.bind ?_ (fun _ => ?_)
set_option maxHeartbeats 8000000 in
set_option maxRecDepth 100000 in
theorem anneallaw6_known.calls (k : Nat)  (r : Bool) (w : World) (h : anneallaw6_known.f k  = some r) :
  Calls Try.prog 33 #[] w fun e w' => e = .returned (.bool r) ∧ Below w.heap.size w w' := by
 have hu41 := Try.underlying41
 have HB := Aside0.mk (Below.refl w.heap.size w)
 have H : ((quot_Sqrt.f k 2 0 1082130432).bind fun bt656 => ((quot_Div.f k 0 0 15360 0).bind fun bt663 => (if bt656.1 = 1073741824 then (if (!bt656.2.1 && (!bt656.2.2.1 && (!bt656.2.2.2.1 && (!bt656.2.2.2.2.1 && (!bt656.2.2.2.2.2))))) = true then (if bt663.1 = 31744 then (some (!bt663.2.1 && (bt663.2.2.1 && (!bt663.2.2.2.1 && (!bt663.2.2.2.2.1 && (!bt663.2.2.2.2.2)))))) else (some false)) else (some false)) else (some false)))) = some r := h
 clear h
 replace H := Option.bind_eq_some_iff.mp H
 obtain ⟨⟨t656, t657, t658, t659, t660, t661⟩, A10, H⟩ := H
 replace H : ((quot_Div.f k 0 0 15360 0).bind fun bt663 => (if t656 = 1073741824 then (if (!t657 && (!t658 && (!t659 && (!t660 && (!t661))))) = true then (if bt663.1 = 31744 then (some (!bt663.2.1 && (bt663.2.2.1 && (!bt663.2.2.2.1 && (!bt663.2.2.2.2.1 && (!bt663.2.2.2.2.2)))))) else (some false)) else (some false)) else (some false))) = some r := H
 have A1 := Aside0.mk A10
 clear A10
 replace H := Option.bind_eq_some_iff.mp H
 obtain ⟨⟨t663, t664, t665, t666, t667, t668⟩, A20, H⟩ := H
 replace H : (if t656 = 1073741824 then (if (!t657 && (!t658 && (!t659 && (!t660 && (!t661))))) = true then (if t663 = 31744 then (some (!t664 && (t665 && (!t666 && (!t667 && (!t668)))))) else (some false)) else (some false)) else (some false)) = some r := H
 have A2 := Aside0.mk A20
 clear A20
 by_cases c3 : t656 = 1073741824
 ·rw [if_pos c3] at H
  have c3b0 : (t656 == 1073741824) = true := beq_iff_eq.mpr c3
  have c3b1 : (t656 != 1073741824) = false := bne_eq_false_iff_eq.mpr c3
  clear c3
  by_cases c4 : (!t657 && (!t658 && (!t659 && (!t660 && (!t661))))) = true
  ·rw [if_pos c4] at H
   have c4b0 : (!t657 && (!t658 && (!t659 && (!t660 && (!t661))))) = true := c4
   clear c4
   by_cases c5 : t663 = 31744
   ·rw [if_pos c5] at H
    have c5b0 : (t663 == 31744) = true := beq_iff_eq.mpr c5
    have c5b1 : (t663 != 31744) = false := bne_eq_false_iff_eq.mpr c5
    clear c5
    obtain rfl := Option.some.inj H
    go_enter Try.func33, Try.ntmps33
    go_wp2_with (first | ((with_reducible refine gate_callee (f := 38) rfl ?_); refine goesL_ (some 6) rfl rfl Try.func38 (by kernel_rfl) rfl #[.int .i64 2, .int .i64 0, .int .u32 1082130432] rfl gl ?_; (with_reducible refine (quot_Sqrt.calls k 2 0 1082130432 t656 t657 t658 t659 t660 t661 _ A1.out).mono ?_); rintro e w6 ⟨rfl, hb⟩; refine ⟨_, rfl, ?_⟩; have n0_ := Aside0.mk (below_step (bl0 HB.out) hb); clear HB; have HB := n0_; clear n0_) | ((with_reducible refine gate_dst (N := 2) rfl ?_); refine box_event ?hg (N := 2) ?hd (cs := F5) (t := 41) ?hr ?_; (case hd => rfl); (case hg => rfl); (case hr => first | (go_simp; done) | (go_simp; rfl)); intro gb662 hg w7 hbox hb; have n0_ := Aside0.mk (below_step (bl0 HB.out) hb); have n1_ := Aside0.mk (hbox); have n2_ := Aside0.mk ((by rw [hg]; exact (below_size (bl0 HB.out)) : w.heap.size ≤ gb662)); have n3_ := Aside0.mk ((by rw [hg]; exact (below_size (bl0 HB.out)) : w.heap.size ≤ gb662)); clear HB; have HB := n0_; have BK662 := n1_; have GW662 := n2_; have GE662 := n3_; clear n0_ n1_ n2_ n3_; clear hb hbox hg; obtain ⟨hcz8_0, hcz8_1, hcz8_2, hcz8_3, hcz8_4⟩ := bc5 BK662.out; obtain ⟨hfz8_0, hfz8_1, hfz8_2, hfz8_3, hfz8_4⟩ := bf5 BK662.out) | ((with_reducible refine gate_callee (f := 36) rfl ?_); refine goesL_ (some 10) rfl rfl Try.func36 (by kernel_rfl) rfl #[.int .i64 0, .int .i64 0, .int .u32 15360, .int .u32 0] rfl gl ?_; (with_reducible refine (quot_Div.calls k 0 0 15360 0 t663 t664 t665 t666 t667 t668 _ A2.out).mono ?_); rintro e w9 ⟨rfl, hb⟩; refine ⟨_, rfl, ?_⟩; have n0_ := Aside0.mk (blk_below (g := gb662) (o := .cells #[.bool t657, .bool t658, .bool t659, .bool t660, .bool t661] 41 (0, 0)) (by (with_reducible repeat (first | refine blk_drewN ?_ _ | refine blk_drew ?_ | refine blk_alloc ?_ _)); refine blk_put (cs := #[.bool t657, .bool t658, .bool t659, .bool t660, .bool false]) ?_ 4 _ rfl; (with_reducible repeat (first | refine blk_drewN ?_ _ | refine blk_drew ?_ | refine blk_alloc ?_ _)); refine blk_put (cs := #[.bool t657, .bool t658, .bool t659, .bool false, .bool false]) ?_ 3 _ rfl; (with_reducible repeat (first | refine blk_drewN ?_ _ | refine blk_drew ?_ | refine blk_alloc ?_ _)); refine blk_put (cs := #[.bool t657, .bool t658, .bool false, .bool false, .bool false]) ?_ 2 _ rfl; (with_reducible repeat (first | refine blk_drewN ?_ _ | refine blk_drew ?_ | refine blk_alloc ?_ _)); refine blk_put (cs := #[.bool t657, .bool false, .bool false, .bool false, .bool false]) ?_ 1 _ rfl; (with_reducible repeat (first | refine blk_drewN ?_ _ | refine blk_drew ?_ | refine blk_alloc ?_ _)); refine blk_put (cs := F5) ?_ 0 _ rfl; (with_reducible repeat (first | refine blk_drewN ?_ _ | refine blk_drew ?_ | refine blk_alloc ?_ _)); exact BK662.out) hb); have n1_ := Aside0.mk (below_step (bl1 HB.out GE662.out) hb); clear BK662; clear HB; have BK662 := n0_; have HB := n1_; clear n0_ n1_) | ((with_reducible refine gate_dst (N := 4) rfl ?_); refine box_event ?hg (N := 4) ?hd (cs := F5) (t := 41) ?hr ?_; (case hd => rfl); (case hg => rfl); (case hr => first | (go_simp; done) | (go_simp; rfl)); intro gb669 hg w10 hbox hb; have n0_ := Aside0.mk (blk_below (g := gb662) (o := .cells #[.bool t657, .bool t658, .bool t659, .bool t660, .bool t661] 41 (0, 0)) (bv BK662.out) hb); have n1_ := Aside0.mk (below_step (bl1 HB.out GE662.out) hb); have n2_ := Aside0.mk (hbox); have n3_ := Aside0.mk ((by rw [hg]; exact (below_size (bl1 HB.out GE662.out)) : w.heap.size ≤ gb669)); have n4_ := Aside0.mk ((by rw [hg]; exact (below_size (bl1 HB.out GE662.out)) : w.heap.size ≤ gb669)); have n5_ := Aside0.mk ((by rw [hg]; exact Nat.ne_of_lt (blk_lt (g := gb662) (o := .cells #[.bool t657, .bool t658, .bool t659, .bool t660, .bool t661] 41 (0, 0)) (bv BK662.out)) : gb662 ≠ gb669)); have n6_ := Aside0.mk ((by rw [hg]; exact Nat.ne_of_gt (blk_lt (g := gb662) (o := .cells #[.bool t657, .bool t658, .bool t659, .bool t660, .bool t661] 41 (0, 0)) (bv BK662.out)) : gb669 ≠ gb662)); clear BK662; clear HB; have BK662 := n0_; have HB := n1_; have BK669 := n2_; have GW669 := n3_; have GE669 := n4_; have NB662_669 := n5_; have NB669_662 := n6_; clear n0_ n1_ n2_ n3_ n4_ n5_ n6_; clear hb hbox hg; have hnb11 := NB669_662.out; have hnc11 := NB662_669.out; obtain ⟨hcz12_0, hcz12_1, hcz12_2, hcz12_3, hcz12_4⟩ := bc5 BK669.out; obtain ⟨hfz12_0, hfz12_1, hfz12_2, hfz12_3, hfz12_4⟩ := bf5 BK669.out; obtain ⟨hcz13_0, hcz13_1, hcz13_2, hcz13_3, hcz13_4⟩ := bc5 BK662.out; obtain ⟨hfz13_0, hfz13_1, hfz13_2, hfz13_3, hfz13_4⟩ := bf5 BK662.out))
    go_ret
    exact ⟨by first | rfl | (simp [errW_none, errW_some] <;> rfl) | (simp [*, errW_none, errW_some] <;> rfl), bl2 HB.out GE662.out GE669.out⟩
   ·rw [if_neg c5] at H
    have c5b0 : (t663 == 31744) = false := beq_eq_false_iff_ne.mpr c5
    have c5b1 : (t663 != 31744) = true := bne_iff_ne.mpr c5
    obtain rfl := Option.some.inj H
    go_enter Try.func33, Try.ntmps33
    go_wp2_with (first | ((with_reducible refine gate_callee (f := 38) rfl ?_); refine goesL_ (some 6) rfl rfl Try.func38 (by kernel_rfl) rfl #[.int .i64 2, .int .i64 0, .int .u32 1082130432] rfl gl ?_; (with_reducible refine (quot_Sqrt.calls k 2 0 1082130432 t656 t657 t658 t659 t660 t661 _ A1.out).mono ?_); rintro e w14 ⟨rfl, hb⟩; refine ⟨_, rfl, ?_⟩; have n0_ := Aside0.mk (below_step (bl0 HB.out) hb); clear HB; have HB := n0_; clear n0_) | ((with_reducible refine gate_dst (N := 2) rfl ?_); refine box_event ?hg (N := 2) ?hd (cs := F5) (t := 41) ?hr ?_; (case hd => rfl); (case hg => rfl); (case hr => first | (go_simp; done) | (go_simp; rfl)); intro gb662 hg w15 hbox hb; have n0_ := Aside0.mk (below_step (bl0 HB.out) hb); have n1_ := Aside0.mk (hbox); have n2_ := Aside0.mk ((by rw [hg]; exact (below_size (bl0 HB.out)) : w.heap.size ≤ gb662)); have n3_ := Aside0.mk ((by rw [hg]; exact (below_size (bl0 HB.out)) : w.heap.size ≤ gb662)); clear HB; have HB := n0_; have BK662 := n1_; have GW662 := n2_; have GE662 := n3_; clear n0_ n1_ n2_ n3_; clear hb hbox hg; obtain ⟨hcz16_0, hcz16_1, hcz16_2, hcz16_3, hcz16_4⟩ := bc5 BK662.out; obtain ⟨hfz16_0, hfz16_1, hfz16_2, hfz16_3, hfz16_4⟩ := bf5 BK662.out) | ((with_reducible refine gate_callee (f := 36) rfl ?_); refine goesL_ (some 10) rfl rfl Try.func36 (by kernel_rfl) rfl #[.int .i64 0, .int .i64 0, .int .u32 15360, .int .u32 0] rfl gl ?_; (with_reducible refine (quot_Div.calls k 0 0 15360 0 t663 t664 t665 t666 t667 t668 _ A2.out).mono ?_); rintro e w17 ⟨rfl, hb⟩; refine ⟨_, rfl, ?_⟩; have n0_ := Aside0.mk (blk_below (g := gb662) (o := .cells #[.bool t657, .bool t658, .bool t659, .bool t660, .bool t661] 41 (0, 0)) (by (with_reducible repeat (first | refine blk_drewN ?_ _ | refine blk_drew ?_ | refine blk_alloc ?_ _)); refine blk_put (cs := #[.bool t657, .bool t658, .bool t659, .bool t660, .bool false]) ?_ 4 _ rfl; (with_reducible repeat (first | refine blk_drewN ?_ _ | refine blk_drew ?_ | refine blk_alloc ?_ _)); refine blk_put (cs := #[.bool t657, .bool t658, .bool t659, .bool false, .bool false]) ?_ 3 _ rfl; (with_reducible repeat (first | refine blk_drewN ?_ _ | refine blk_drew ?_ | refine blk_alloc ?_ _)); refine blk_put (cs := #[.bool t657, .bool t658, .bool false, .bool false, .bool false]) ?_ 2 _ rfl; (with_reducible repeat (first | refine blk_drewN ?_ _ | refine blk_drew ?_ | refine blk_alloc ?_ _)); refine blk_put (cs := #[.bool t657, .bool false, .bool false, .bool false, .bool false]) ?_ 1 _ rfl; (with_reducible repeat (first | refine blk_drewN ?_ _ | refine blk_drew ?_ | refine blk_alloc ?_ _)); refine blk_put (cs := F5) ?_ 0 _ rfl; (with_reducible repeat (first | refine blk_drewN ?_ _ | refine blk_drew ?_ | refine blk_alloc ?_ _)); exact BK662.out) hb); have n1_ := Aside0.mk (below_step (bl1 HB.out GE662.out) hb); clear BK662; clear HB; have BK662 := n0_; have HB := n1_; clear n0_ n1_) | ((with_reducible refine gate_dst (N := 4) rfl ?_); refine box_event ?hg (N := 4) ?hd (cs := F5) (t := 41) ?hr ?_; (case hd => rfl); (case hg => rfl); (case hr => first | (go_simp; done) | (go_simp; rfl)); intro gb669 hg w18 hbox hb; have n0_ := Aside0.mk (blk_below (g := gb662) (o := .cells #[.bool t657, .bool t658, .bool t659, .bool t660, .bool t661] 41 (0, 0)) (bv BK662.out) hb); have n1_ := Aside0.mk (below_step (bl1 HB.out GE662.out) hb); have n2_ := Aside0.mk (hbox); have n3_ := Aside0.mk ((by rw [hg]; exact (below_size (bl1 HB.out GE662.out)) : w.heap.size ≤ gb669)); have n4_ := Aside0.mk ((by rw [hg]; exact (below_size (bl1 HB.out GE662.out)) : w.heap.size ≤ gb669)); have n5_ := Aside0.mk ((by rw [hg]; exact Nat.ne_of_lt (blk_lt (g := gb662) (o := .cells #[.bool t657, .bool t658, .bool t659, .bool t660, .bool t661] 41 (0, 0)) (bv BK662.out)) : gb662 ≠ gb669)); have n6_ := Aside0.mk ((by rw [hg]; exact Nat.ne_of_gt (blk_lt (g := gb662) (o := .cells #[.bool t657, .bool t658, .bool t659, .bool t660, .bool t661] 41 (0, 0)) (bv BK662.out)) : gb669 ≠ gb662)); clear BK662; clear HB; have BK662 := n0_; have HB := n1_; have BK669 := n2_; have GW669 := n3_; have GE669 := n4_; have NB662_669 := n5_; have NB669_662 := n6_; clear n0_ n1_ n2_ n3_ n4_ n5_ n6_; clear hb hbox hg; have hnb19 := NB669_662.out; have hnc19 := NB662_669.out; obtain ⟨hcz20_0, hcz20_1, hcz20_2, hcz20_3, hcz20_4⟩ := bc5 BK669.out; obtain ⟨hfz20_0, hfz20_1, hfz20_2, hfz20_3, hfz20_4⟩ := bf5 BK669.out; obtain ⟨hcz21_0, hcz21_1, hcz21_2, hcz21_3, hcz21_4⟩ := bc5 BK662.out; obtain ⟨hfz21_0, hfz21_1, hfz21_2, hfz21_3, hfz21_4⟩ := bf5 BK662.out))
    go_ret
    exact ⟨by first | rfl | (simp [errW_none, errW_some] <;> rfl) | (simp [*, errW_none, errW_some] <;> rfl), bl2 HB.out GE662.out GE669.out⟩
  ·rw [if_neg c4] at H
   have c4b0 : (!t657 && (!t658 && (!t659 && (!t660 && (!t661))))) = false := by simpa using c4
   clear c4
   obtain rfl := Option.some.inj H
   go_enter Try.func33, Try.ntmps33
   go_wp2_with (first | ((with_reducible refine gate_callee (f := 38) rfl ?_); refine goesL_ (some 6) rfl rfl Try.func38 (by kernel_rfl) rfl #[.int .i64 2, .int .i64 0, .int .u32 1082130432] rfl gl ?_; (with_reducible refine (quot_Sqrt.calls k 2 0 1082130432 t656 t657 t658 t659 t660 t661 _ A1.out).mono ?_); rintro e w22 ⟨rfl, hb⟩; refine ⟨_, rfl, ?_⟩; have n0_ := Aside0.mk (below_step (bl0 HB.out) hb); clear HB; have HB := n0_; clear n0_) | ((with_reducible refine gate_dst (N := 2) rfl ?_); refine box_event ?hg (N := 2) ?hd (cs := F5) (t := 41) ?hr ?_; (case hd => rfl); (case hg => rfl); (case hr => first | (go_simp; done) | (go_simp; rfl)); intro gb662 hg w23 hbox hb; have n0_ := Aside0.mk (below_step (bl0 HB.out) hb); have n1_ := Aside0.mk (hbox); have n2_ := Aside0.mk ((by rw [hg]; exact (below_size (bl0 HB.out)) : w.heap.size ≤ gb662)); have n3_ := Aside0.mk ((by rw [hg]; exact (below_size (bl0 HB.out)) : w.heap.size ≤ gb662)); clear HB; have HB := n0_; have BK662 := n1_; have GW662 := n2_; have GE662 := n3_; clear n0_ n1_ n2_ n3_; clear hb hbox hg; obtain ⟨hcz24_0, hcz24_1, hcz24_2, hcz24_3, hcz24_4⟩ := bc5 BK662.out; obtain ⟨hfz24_0, hfz24_1, hfz24_2, hfz24_3, hfz24_4⟩ := bf5 BK662.out) | ((with_reducible refine gate_callee (f := 36) rfl ?_); refine goesL_ (some 10) rfl rfl Try.func36 (by kernel_rfl) rfl #[.int .i64 0, .int .i64 0, .int .u32 15360, .int .u32 0] rfl gl ?_; (with_reducible refine (quot_Div.calls k 0 0 15360 0 t663 t664 t665 t666 t667 t668 _ A2.out).mono ?_); rintro e w25 ⟨rfl, hb⟩; refine ⟨_, rfl, ?_⟩; have n0_ := Aside0.mk (blk_below (g := gb662) (o := .cells #[.bool t657, .bool t658, .bool t659, .bool t660, .bool t661] 41 (0, 0)) (by (with_reducible repeat (first | refine blk_drewN ?_ _ | refine blk_drew ?_ | refine blk_alloc ?_ _)); refine blk_put (cs := #[.bool t657, .bool t658, .bool t659, .bool t660, .bool false]) ?_ 4 _ rfl; (with_reducible repeat (first | refine blk_drewN ?_ _ | refine blk_drew ?_ | refine blk_alloc ?_ _)); refine blk_put (cs := #[.bool t657, .bool t658, .bool t659, .bool false, .bool false]) ?_ 3 _ rfl; (with_reducible repeat (first | refine blk_drewN ?_ _ | refine blk_drew ?_ | refine blk_alloc ?_ _)); refine blk_put (cs := #[.bool t657, .bool t658, .bool false, .bool false, .bool false]) ?_ 2 _ rfl; (with_reducible repeat (first | refine blk_drewN ?_ _ | refine blk_drew ?_ | refine blk_alloc ?_ _)); refine blk_put (cs := #[.bool t657, .bool false, .bool false, .bool false, .bool false]) ?_ 1 _ rfl; (with_reducible repeat (first | refine blk_drewN ?_ _ | refine blk_drew ?_ | refine blk_alloc ?_ _)); refine blk_put (cs := F5) ?_ 0 _ rfl; (with_reducible repeat (first | refine blk_drewN ?_ _ | refine blk_drew ?_ | refine blk_alloc ?_ _)); exact BK662.out) hb); have n1_ := Aside0.mk (below_step (bl1 HB.out GE662.out) hb); clear BK662; clear HB; have BK662 := n0_; have HB := n1_; clear n0_ n1_) | ((with_reducible refine gate_dst (N := 4) rfl ?_); refine box_event ?hg (N := 4) ?hd (cs := F5) (t := 41) ?hr ?_; (case hd => rfl); (case hg => rfl); (case hr => first | (go_simp; done) | (go_simp; rfl)); intro gb669 hg w26 hbox hb; have n0_ := Aside0.mk (blk_below (g := gb662) (o := .cells #[.bool t657, .bool t658, .bool t659, .bool t660, .bool t661] 41 (0, 0)) (bv BK662.out) hb); have n1_ := Aside0.mk (below_step (bl1 HB.out GE662.out) hb); have n2_ := Aside0.mk (hbox); have n3_ := Aside0.mk ((by rw [hg]; exact (below_size (bl1 HB.out GE662.out)) : w.heap.size ≤ gb669)); have n4_ := Aside0.mk ((by rw [hg]; exact (below_size (bl1 HB.out GE662.out)) : w.heap.size ≤ gb669)); have n5_ := Aside0.mk ((by rw [hg]; exact Nat.ne_of_lt (blk_lt (g := gb662) (o := .cells #[.bool t657, .bool t658, .bool t659, .bool t660, .bool t661] 41 (0, 0)) (bv BK662.out)) : gb662 ≠ gb669)); have n6_ := Aside0.mk ((by rw [hg]; exact Nat.ne_of_gt (blk_lt (g := gb662) (o := .cells #[.bool t657, .bool t658, .bool t659, .bool t660, .bool t661] 41 (0, 0)) (bv BK662.out)) : gb669 ≠ gb662)); clear BK662; clear HB; have BK662 := n0_; have HB := n1_; have BK669 := n2_; have GW669 := n3_; have GE669 := n4_; have NB662_669 := n5_; have NB669_662 := n6_; clear n0_ n1_ n2_ n3_ n4_ n5_ n6_; clear hb hbox hg; have hnb27 := NB669_662.out; have hnc27 := NB662_669.out; obtain ⟨hcz28_0, hcz28_1, hcz28_2, hcz28_3, hcz28_4⟩ := bc5 BK669.out; obtain ⟨hfz28_0, hfz28_1, hfz28_2, hfz28_3, hfz28_4⟩ := bf5 BK669.out; obtain ⟨hcz29_0, hcz29_1, hcz29_2, hcz29_3, hcz29_4⟩ := bc5 BK662.out; obtain ⟨hfz29_0, hfz29_1, hfz29_2, hfz29_3, hfz29_4⟩ := bf5 BK662.out))
   go_ret
   exact ⟨by first | rfl | (simp [errW_none, errW_some] <;> rfl) | (simp [*, errW_none, errW_some] <;> rfl), bl2 HB.out GE662.out GE669.out⟩
 ·rw [if_neg c3] at H
  have c3b0 : (t656 == 1073741824) = false := beq_eq_false_iff_ne.mpr c3
  have c3b1 : (t656 != 1073741824) = true := bne_iff_ne.mpr c3
  obtain rfl := Option.some.inj H
  go_enter Try.func33, Try.ntmps33
  go_wp2_with (first | ((with_reducible refine gate_callee (f := 38) rfl ?_); refine goesL_ (some 6) rfl rfl Try.func38 (by kernel_rfl) rfl #[.int .i64 2, .int .i64 0, .int .u32 1082130432] rfl gl ?_; (with_reducible refine (quot_Sqrt.calls k 2 0 1082130432 t656 t657 t658 t659 t660 t661 _ A1.out).mono ?_); rintro e w30 ⟨rfl, hb⟩; refine ⟨_, rfl, ?_⟩; have n0_ := Aside0.mk (below_step (bl0 HB.out) hb); clear HB; have HB := n0_; clear n0_) | ((with_reducible refine gate_dst (N := 2) rfl ?_); refine box_event ?hg (N := 2) ?hd (cs := F5) (t := 41) ?hr ?_; (case hd => rfl); (case hg => rfl); (case hr => first | (go_simp; done) | (go_simp; rfl)); intro gb662 hg w31 hbox hb; have n0_ := Aside0.mk (below_step (bl0 HB.out) hb); have n1_ := Aside0.mk (hbox); have n2_ := Aside0.mk ((by rw [hg]; exact (below_size (bl0 HB.out)) : w.heap.size ≤ gb662)); have n3_ := Aside0.mk ((by rw [hg]; exact (below_size (bl0 HB.out)) : w.heap.size ≤ gb662)); clear HB; have HB := n0_; have BK662 := n1_; have GW662 := n2_; have GE662 := n3_; clear n0_ n1_ n2_ n3_; clear hb hbox hg; obtain ⟨hcz32_0, hcz32_1, hcz32_2, hcz32_3, hcz32_4⟩ := bc5 BK662.out; obtain ⟨hfz32_0, hfz32_1, hfz32_2, hfz32_3, hfz32_4⟩ := bf5 BK662.out) | ((with_reducible refine gate_callee (f := 36) rfl ?_); refine goesL_ (some 10) rfl rfl Try.func36 (by kernel_rfl) rfl #[.int .i64 0, .int .i64 0, .int .u32 15360, .int .u32 0] rfl gl ?_; (with_reducible refine (quot_Div.calls k 0 0 15360 0 t663 t664 t665 t666 t667 t668 _ A2.out).mono ?_); rintro e w33 ⟨rfl, hb⟩; refine ⟨_, rfl, ?_⟩; have n0_ := Aside0.mk (blk_below (g := gb662) (o := .cells #[.bool t657, .bool t658, .bool t659, .bool t660, .bool t661] 41 (0, 0)) (by (with_reducible repeat (first | refine blk_drewN ?_ _ | refine blk_drew ?_ | refine blk_alloc ?_ _)); refine blk_put (cs := #[.bool t657, .bool t658, .bool t659, .bool t660, .bool false]) ?_ 4 _ rfl; (with_reducible repeat (first | refine blk_drewN ?_ _ | refine blk_drew ?_ | refine blk_alloc ?_ _)); refine blk_put (cs := #[.bool t657, .bool t658, .bool t659, .bool false, .bool false]) ?_ 3 _ rfl; (with_reducible repeat (first | refine blk_drewN ?_ _ | refine blk_drew ?_ | refine blk_alloc ?_ _)); refine blk_put (cs := #[.bool t657, .bool t658, .bool false, .bool false, .bool false]) ?_ 2 _ rfl; (with_reducible repeat (first | refine blk_drewN ?_ _ | refine blk_drew ?_ | refine blk_alloc ?_ _)); refine blk_put (cs := #[.bool t657, .bool false, .bool false, .bool false, .bool false]) ?_ 1 _ rfl; (with_reducible repeat (first | refine blk_drewN ?_ _ | refine blk_drew ?_ | refine blk_alloc ?_ _)); refine blk_put (cs := F5) ?_ 0 _ rfl; (with_reducible repeat (first | refine blk_drewN ?_ _ | refine blk_drew ?_ | refine blk_alloc ?_ _)); exact BK662.out) hb); have n1_ := Aside0.mk (below_step (bl1 HB.out GE662.out) hb); clear BK662; clear HB; have BK662 := n0_; have HB := n1_; clear n0_ n1_) | ((with_reducible refine gate_dst (N := 4) rfl ?_); refine box_event ?hg (N := 4) ?hd (cs := F5) (t := 41) ?hr ?_; (case hd => rfl); (case hg => rfl); (case hr => first | (go_simp; done) | (go_simp; rfl)); intro gb669 hg w34 hbox hb; have n0_ := Aside0.mk (blk_below (g := gb662) (o := .cells #[.bool t657, .bool t658, .bool t659, .bool t660, .bool t661] 41 (0, 0)) (bv BK662.out) hb); have n1_ := Aside0.mk (below_step (bl1 HB.out GE662.out) hb); have n2_ := Aside0.mk (hbox); have n3_ := Aside0.mk ((by rw [hg]; exact (below_size (bl1 HB.out GE662.out)) : w.heap.size ≤ gb669)); have n4_ := Aside0.mk ((by rw [hg]; exact (below_size (bl1 HB.out GE662.out)) : w.heap.size ≤ gb669)); have n5_ := Aside0.mk ((by rw [hg]; exact Nat.ne_of_lt (blk_lt (g := gb662) (o := .cells #[.bool t657, .bool t658, .bool t659, .bool t660, .bool t661] 41 (0, 0)) (bv BK662.out)) : gb662 ≠ gb669)); have n6_ := Aside0.mk ((by rw [hg]; exact Nat.ne_of_gt (blk_lt (g := gb662) (o := .cells #[.bool t657, .bool t658, .bool t659, .bool t660, .bool t661] 41 (0, 0)) (bv BK662.out)) : gb669 ≠ gb662)); clear BK662; clear HB; have BK662 := n0_; have HB := n1_; have BK669 := n2_; have GW669 := n3_; have GE669 := n4_; have NB662_669 := n5_; have NB669_662 := n6_; clear n0_ n1_ n2_ n3_ n4_ n5_ n6_; clear hb hbox hg; have hnb35 := NB669_662.out; have hnc35 := NB662_669.out; obtain ⟨hcz36_0, hcz36_1, hcz36_2, hcz36_3, hcz36_4⟩ := bc5 BK669.out; obtain ⟨hfz36_0, hfz36_1, hfz36_2, hfz36_3, hfz36_4⟩ := bf5 BK669.out))
  go_ret
  exact ⟨by first | rfl | (simp [errW_none, errW_some] <;> rfl) | (simp [*, errW_none, errW_some] <;> rfl), bl2 HB.out GE662.out GE669.out⟩

/-! ### anneallaw6_form: function 34 -/
def anneallaw6_form.f (a0 : Int) : Option (Int) := (some (([0, 1, 2] : List Int) : List Int)).bind fun y670 => (if 0 ≤ (Int.tmod a0 3) then (if (Int.tmod a0 3) < (y670.length : Int) then (some (rd y670 (Int.tmod a0 3))) else (none)) else (none))
set_option maxHeartbeats 8000000 in
set_option maxRecDepth 100000 in
theorem anneallaw6_form.calls (a0 : Int) (r : Int) (w : World) (h : anneallaw6_form.f a0 = some r) :
  Calls Try.prog 34 #[.int .u8 a0] w fun e w' => e = .returned (.int .i64 r) ∧ Below w.heap.size w w' := by
 have HB := Aside0.mk (Below.refl w.heap.size w)
 have H : ((some (([0, 1, 2] : List Int) : List Int)).bind fun y670 => (if 0 ≤ (Int.tmod a0 3) then (if (Int.tmod a0 3) < (y670.length : Int) then (some (rd y670 (Int.tmod a0 3))) else (none)) else (none))) = some r := h
 clear h
 obtain ⟨y670, hy670⟩ : ∃ y_ : List Int, y_ = (([0, 1, 2] : List Int)) := ⟨_, rfl⟩
 replace H : (if 0 ≤ (Int.tmod a0 3) then (if (Int.tmod a0 3) < (y670.length : Int) then (some (rd y670 (Int.tmod a0 3))) else (none)) else (none)) = some r := by first | (rw [hy670]; with_reducible exact H) | (have H2_ := (Option.bind_some _ _).symm.trans H; rw [hy670]; with_reducible exact H2_) | (have H2_ := (Option.bind_some _ _).symm.trans H; with_reducible exact H2_) | with_reducible exact H | (rw [hy670]; exact H) | exact H
 have Ny670 := Aside0.mk hy670
 clear hy670
 obtain ⟨ji2, hji2⟩ : ∃ j_ : Int, (Int.tmod a0 3) = j_ := ⟨_, rfl⟩
 replace H : (if 0 ≤ (ji2) then (if (ji2) < (y670.length : Int) then (some (rd y670 (ji2))) else (none)) else (none)) = some r := by first | (rw [hji2] at H; exact H) | (simp only [hji2] at H ⊢; exact H)
 by_cases c3 : 0 ≤ (ji2)
 ·rw [if_pos c3] at H
  have c3b0 : decide (0 ≤ (ji2)) = true := decide_eq_true c3
  clear c3
  by_cases c4 : (ji2) < (y670.length : Int)
  ·rw [if_pos c4] at H
   have c4b0 : decide ((ji2) < (y670.length : Int)) = true := decide_eq_true c4
   clear c4
   obtain rfl := Option.some.inj H
   go_enter Try.func34, Try.ntmps34
   go_wp2_with (first | ((with_reducible refine gate_dst (N := 3) rfl ?_); refine Kd.R_lit (Kd.int .i64) _ 3 ?hg (N := 3) ?hd (xs := ([0, 1, 2] : List Int)) (inner := [.int .i64 0, .int .i64 1, .int .i64 2]) (ok := fun _ => True) (okp := fun _ => True) ?hr ?hp (fun _ hk => hk) trivial (Below.refl _ _) (Nat.le_refl _) (by simp) ?_; (case hd => rfl); (case hg => rfl); (case hr => first | (go_simp; done) | (go_simp; rfl)); (case hp => exact (Reps.one (show Kd.M (Kd.int .i64) _ _ _ 0 [.int .i64 0] from rfl) (Reps.one (show Kd.M (Kd.int .i64) _ _ _ 1 [.int .i64 1] from rfl) (Reps.one (show Kd.M (Kd.int .i64) _ _ _ 2 [.int .i64 2] from rfl) (Reps.none _ _))))); intro v671 w5 ho6 hb hg_ hnew_; clear hg_ hnew_; (first | rw [← Ny670.out] at ho6 | (simp only [Int.reduceToNat] at ho6; rw [← Ny670.out] at ho6)); have n0_ := Aside0.mk (Kd.R_lower ho6 (below_size (bl0 HB.out))); have n1_ := Aside0.mk (below_step (bl0 HB.out) hb); clear HB; have HO672 := n0_; have HB := n1_; clear n0_ n1_; clear hb ho6; obtain ⟨Ao7, co7, eo7⟩ := Kd.R_slice HO672.out; subst eo7; have p673 : 0 ≤ ((ji2) : Int) := of_decide_eq_true (by first | (with_reducible assumption) | assumption); have q673 : (ji2) < (y670.length : Int) := of_decide_eq_true (by first | (with_reducible assumption) | assumption); obtain ⟨ad673, e673, hx673_0⟩ := Kd.at_int (Kd.R_reads' HO672.out).2.2 (ji2) p673 q673; cases e673; replace p673 := eq_true p673; replace q673 := eq_true q673))
   go_ret
   exact ⟨by first | rfl | (simp [errW_none, errW_some] <;> rfl) | (simp only [← hji2]; first | rfl | (simp [errW_none, errW_some] <;> rfl)) | (simp [*, errW_none, errW_some] <;> rfl), bl0 HB.out⟩
  ·rw [if_neg c4] at H
   exact absurd H (by simp)
 ·rw [if_neg c3] at H
  exact absurd H (by simp)

end Go.Proofs.Ytngkpekmgahjiaa.P

-- Printed by a program of this session's out of Lean's print of the translation; Lean checks it.
namespace Go.Proofs.Ytngkpekmgahjiaa.P
open Go.RowKit Go.Proofs.YtngkpekmgahjiaaW.PrintWords Go.Proofs.YtngkpekmgahjiaaW.PrintLast Go.Proofs.YtngkpekmgahjiaaW.PrintMore
attribute [local go_sem] max2_int min2_int max_two min_two max_three min_three max_four min_four   -- for this text's walks alone
set_option linter.unusedVariables false
set_option linter.unusedSimpArgs false

/-! ### annealseat_Num: function 35 -/
end Go.Proofs.Ytngkpekmgahjiaa.P

-- Printed by a program of this session's out of Lean's print of the translation; Lean checks it.
namespace Go.Proofs.Ytngkpekmgahjiaa.P
open Go.RowKit Go.Proofs.YtngkpekmgahjiaaW.PrintWords Go.Proofs.YtngkpekmgahjiaaW.PrintLast Go.Proofs.YtngkpekmgahjiaaW.PrintMore
attribute [local go_sem] max2_int min2_int max_two min_two max_three min_three max_four min_four   -- for this text's walks alone
set_option linter.unusedVariables false
set_option linter.unusedSimpArgs false

/-! ### annealref1_inf: function 73 -/
end Go.Proofs.Ytngkpekmgahjiaa.P

-- Printed by a program of this session's out of Lean's print of the translation; Lean checks it.
namespace Go.Proofs.Ytngkpekmgahjiaa.P
open Go.RowKit Go.Proofs.YtngkpekmgahjiaaW.PrintWords Go.Proofs.YtngkpekmgahjiaaW.PrintLast Go.Proofs.YtngkpekmgahjiaaW.PrintMore
attribute [local go_sem] max2_int min2_int max_two min_two max_three min_three max_four min_four   -- for this text's walks alone
set_option linter.unusedVariables false
set_option linter.unusedSimpArgs false

/-! ### annealref1_Div: function 37 -/
end Go.Proofs.Ytngkpekmgahjiaa.P

-- Printed by a program of this session's out of Lean's print of the translation; Lean checks it.
namespace Go.Proofs.Ytngkpekmgahjiaa.P
open Go.RowKit Go.Proofs.YtngkpekmgahjiaaW.PrintWords Go.Proofs.YtngkpekmgahjiaaW.PrintLast Go.Proofs.YtngkpekmgahjiaaW.PrintMore
attribute [local go_sem] max2_int min2_int max_two min_two max_three min_three max_four min_four   -- for this text's walks alone
set_option linter.unusedVariables false
set_option linter.unusedSimpArgs false

/-! ### annealref1_Root: function 77 -/
/-! ### annealref1_Sqrt: function 39 -/
end Go.Proofs.Ytngkpekmgahjiaa.P

-- Printed by a program of this session's out of Lean's print of the translation; Lean checks it.
namespace Go.Proofs.Ytngkpekmgahjiaa.P
open Go.RowKit Go.Proofs.YtngkpekmgahjiaaW.PrintWords Go.Proofs.YtngkpekmgahjiaaW.PrintLast Go.Proofs.YtngkpekmgahjiaaW.PrintMore
attribute [local go_sem] max2_int min2_int max_two min_two max_three min_three max_four min_four   -- for this text's walks alone
set_option linter.unusedVariables false
set_option linter.unusedSimpArgs false

attribute [local go_sem high] eqA41
/-! ### anneallaw6_QuotTells: function 9 -/
/-! ### annealref1_FromInt: function 40 -/
def annealref1_FromInt.f (k : Nat) (a0 : Int) (a1 : Int) (a2 : Int) : Option (Int × Bool × Bool × Bool × Bool × Bool) := if a2 < 0 then ((annealref1_Pack.f k a0 a1 true 0 (IntKind.u64.wrap (-(IntKind.u64.wrap (a2)))) false).bind fun bt796 => (some (bt796.1, bt796.2.1, bt796.2.2.1, bt796.2.2.2.1, bt796.2.2.2.2.1, bt796.2.2.2.2.2))) else ((annealref1_Pack.f k a0 a1 false 0 (IntKind.u64.wrap (a2)) false).bind fun bt802 => (some (bt802.1, bt802.2.1, bt802.2.2.1, bt802.2.2.2.1, bt802.2.2.2.2.1, bt802.2.2.2.2.2)))
set_option maxHeartbeats 8000000 in
set_option maxRecDepth 100000 in
theorem annealref1_FromInt.calls (k : Nat) (a0 : Int) (a1 : Int) (a2 : Int) (r1 : Int) (r2 : Bool) (r3 : Bool) (r4 : Bool) (r5 : Bool) (r6 : Bool) (w : World) (h : annealref1_FromInt.f k a0 a1 a2 = some (r1, r2, r3, r4, r5, r6)) :
  Calls Try.prog 40 #[.int .i64 a0, .int .i64 a1, .int .i64 a2] w fun e w' => e = .returned (.tuple #[.int .u32 r1, .agg #[.bool r2, .bool r3, .bool r4, .bool r5, .bool r6]]) ∧ Below w.heap.size w w' := by
 have hu41 := Try.underlying41
 have HB := Aside0.mk (Below.refl w.heap.size w)
 have H : (if a2 < 0 then ((annealref1_Pack.f k a0 a1 true 0 (IntKind.u64.wrap (-(IntKind.u64.wrap (a2)))) false).bind fun bt796 => (some (bt796.1, bt796.2.1, bt796.2.2.1, bt796.2.2.2.1, bt796.2.2.2.2.1, bt796.2.2.2.2.2))) else ((annealref1_Pack.f k a0 a1 false 0 (IntKind.u64.wrap (a2)) false).bind fun bt802 => (some (bt802.1, bt802.2.1, bt802.2.2.1, bt802.2.2.2.1, bt802.2.2.2.2.1, bt802.2.2.2.2.2)))) = some (r1, r2, r3, r4, r5, r6) := h
 clear h
 by_cases c4 : a2 < 0
 ·rw [if_pos c4] at H
  have c4b0 : decide (a2 < 0) = true := decide_eq_true c4
  clear c4
  replace H := Option.bind_eq_some_iff.mp H
  obtain ⟨⟨t796, t797, t798, t799, t800, t801⟩, A50, H⟩ := H
  replace H : (some (t796, t797, t798, t799, t800, t801)) = some (r1, r2, r3, r4, r5, r6) := H
  have A5 := Aside0.mk A50
  clear A50
  simp only [Option.some.injEq, Prod.mk.injEq] at H
  obtain ⟨rfl, rfl, rfl, rfl, rfl, rfl⟩ := H
  go_enter Try.func40, Try.ntmps40
  go_wp2_with (first | ((with_reducible refine gate_dst (N := 7) rfl ?_); refine box_event ?hg (N := 7) ?hd (cs := F5) (t := 41) ?hr ?_; (case hd => rfl); (case hg => rfl); (case hr => first | (go_simp; done) | (go_simp; rfl)); intro gb795 hg w6 hbox hb; have n0_ := Aside0.mk (below_step (bl0 HB.out) hb); have n1_ := Aside0.mk (hbox); have n2_ := Aside0.mk ((by rw [hg]; exact (below_size (bl0 HB.out)) : w.heap.size ≤ gb795)); have n3_ := Aside0.mk ((by rw [hg]; exact (below_size (bl0 HB.out)) : w.heap.size ≤ gb795)); clear HB; have HB := n0_; have BK795 := n1_; have GW795 := n2_; have GE795 := n3_; clear n0_ n1_ n2_ n3_; clear hb hbox hg) | ((with_reducible refine gate_callee (f := 52) rfl ?_); refine goesL_ (some 15) rfl rfl Try.func52 (by kernel_rfl) rfl #[.int .i64 a0, .int .i64 a1, .bool true, .int .i64 0, .int .u64 (IntKind.u64.wrap (-(IntKind.u64.wrap (a2)))), .bool false] rfl gl ?_; (with_reducible refine (annealref1_Pack.calls k a0 a1 true 0 (IntKind.u64.wrap (-(IntKind.u64.wrap (a2)))) false t796 t797 t798 t799 t800 t801 _ A5.out).mono ?_); rintro e w7 ⟨rfl, hb⟩; refine ⟨_, rfl, ?_⟩; have n0_ := Aside0.mk (blk_below (g := gb795) (o := .cells #[.bool false, .bool false, .bool false, .bool false, .bool false] 41 (0, 0)) (bv BK795.out) hb); have n1_ := Aside0.mk (below_step (bl1 HB.out GE795.out) hb); clear BK795; clear HB; have BK795 := n0_; have HB := n1_; clear n0_ n1_; obtain ⟨hcz8_0, hcz8_1, hcz8_2, hcz8_3, hcz8_4⟩ := bc5 BK795.out; obtain ⟨hfz8_0, hfz8_1, hfz8_2, hfz8_3, hfz8_4⟩ := bf5 BK795.out))
  refine bodyPost_ret (results_tc rfl _ _ gb795 41 #[.bool t797, .bool t798, .bool t799, .bool t800, .bool t801] (0, 0) _ rfl (by (with_reducible repeat (first | refine blk_drewN ?_ _ | refine blk_drew ?_ | refine blk_alloc ?_ _)); refine blk_put (cs := #[.bool t797, .bool t798, .bool t799, .bool t800, .bool false]) ?_ 4 _ rfl; (with_reducible repeat (first | refine blk_drewN ?_ _ | refine blk_drew ?_ | refine blk_alloc ?_ _)); refine blk_put (cs := #[.bool t797, .bool t798, .bool t799, .bool false, .bool false]) ?_ 3 _ rfl; (with_reducible repeat (first | refine blk_drewN ?_ _ | refine blk_drew ?_ | refine blk_alloc ?_ _)); refine blk_put (cs := #[.bool t797, .bool t798, .bool false, .bool false, .bool false]) ?_ 2 _ rfl; (with_reducible repeat (first | refine blk_drewN ?_ _ | refine blk_drew ?_ | refine blk_alloc ?_ _)); refine blk_put (cs := #[.bool t797, .bool false, .bool false, .bool false, .bool false]) ?_ 1 _ rfl; (with_reducible repeat (first | refine blk_drewN ?_ _ | refine blk_drew ?_ | refine blk_alloc ?_ _)); refine blk_put (cs := F5) ?_ 0 _ rfl; (with_reducible repeat (first | refine blk_drewN ?_ _ | refine blk_drew ?_ | refine blk_alloc ?_ _)); exact BK795.out) Try.underlying41 rfl (by kernel_rfl)) rfl ?_
  exact ⟨by first | rfl | (simp [errW_none, errW_some] <;> rfl) | (simp [*, errW_none, errW_some] <;> rfl), bl1 HB.out GE795.out⟩
 ·rw [if_neg c4] at H
  have c4b0 : decide (a2 < 0) = false := decide_eq_false c4
  clear c4
  replace H := Option.bind_eq_some_iff.mp H
  obtain ⟨⟨t802, t803, t804, t805, t806, t807⟩, A90, H⟩ := H
  replace H : (some (t802, t803, t804, t805, t806, t807)) = some (r1, r2, r3, r4, r5, r6) := H
  have A9 := Aside0.mk A90
  clear A90
  simp only [Option.some.injEq, Prod.mk.injEq] at H
  obtain ⟨rfl, rfl, rfl, rfl, rfl, rfl⟩ := H
  go_enter Try.func40, Try.ntmps40
  go_wp2_with (first | ((with_reducible refine gate_dst (N := 7) rfl ?_); refine box_event ?hg (N := 7) ?hd (cs := F5) (t := 41) ?hr ?_; (case hd => rfl); (case hg => rfl); (case hr => first | (go_simp; done) | (go_simp; rfl)); intro gb795 hg w10 hbox hb; have n0_ := Aside0.mk (below_step (bl0 HB.out) hb); have n1_ := Aside0.mk (hbox); have n2_ := Aside0.mk ((by rw [hg]; exact (below_size (bl0 HB.out)) : w.heap.size ≤ gb795)); have n3_ := Aside0.mk ((by rw [hg]; exact (below_size (bl0 HB.out)) : w.heap.size ≤ gb795)); clear HB; have HB := n0_; have BK795 := n1_; have GW795 := n2_; have GE795 := n3_; clear n0_ n1_ n2_ n3_; clear hb hbox hg) | ((with_reducible refine gate_callee (f := 52) rfl ?_); refine goesL_ (some 22) rfl rfl Try.func52 (by kernel_rfl) rfl #[.int .i64 a0, .int .i64 a1, .bool false, .int .i64 0, .int .u64 (IntKind.u64.wrap (a2)), .bool false] rfl gl ?_; (with_reducible refine (annealref1_Pack.calls k a0 a1 false 0 (IntKind.u64.wrap (a2)) false t802 t803 t804 t805 t806 t807 _ A9.out).mono ?_); rintro e w11 ⟨rfl, hb⟩; refine ⟨_, rfl, ?_⟩; have n0_ := Aside0.mk (blk_below (g := gb795) (o := .cells #[.bool false, .bool false, .bool false, .bool false, .bool false] 41 (0, 0)) (bv BK795.out) hb); have n1_ := Aside0.mk (below_step (bl1 HB.out GE795.out) hb); clear BK795; clear HB; have BK795 := n0_; have HB := n1_; clear n0_ n1_; obtain ⟨hcz12_0, hcz12_1, hcz12_2, hcz12_3, hcz12_4⟩ := bc5 BK795.out; obtain ⟨hfz12_0, hfz12_1, hfz12_2, hfz12_3, hfz12_4⟩ := bf5 BK795.out))
  refine bodyPost_ret (results_tc rfl _ _ gb795 41 #[.bool t803, .bool t804, .bool t805, .bool t806, .bool t807] (0, 0) _ rfl (by (with_reducible repeat (first | refine blk_drewN ?_ _ | refine blk_drew ?_ | refine blk_alloc ?_ _)); refine blk_put (cs := #[.bool t803, .bool t804, .bool t805, .bool t806, .bool false]) ?_ 4 _ rfl; (with_reducible repeat (first | refine blk_drewN ?_ _ | refine blk_drew ?_ | refine blk_alloc ?_ _)); refine blk_put (cs := #[.bool t803, .bool t804, .bool t805, .bool false, .bool false]) ?_ 3 _ rfl; (with_reducible repeat (first | refine blk_drewN ?_ _ | refine blk_drew ?_ | refine blk_alloc ?_ _)); refine blk_put (cs := #[.bool t803, .bool t804, .bool false, .bool false, .bool false]) ?_ 2 _ rfl; (with_reducible repeat (first | refine blk_drewN ?_ _ | refine blk_drew ?_ | refine blk_alloc ?_ _)); refine blk_put (cs := #[.bool t803, .bool false, .bool false, .bool false, .bool false]) ?_ 1 _ rfl; (with_reducible repeat (first | refine blk_drewN ?_ _ | refine blk_drew ?_ | refine blk_alloc ?_ _)); refine blk_put (cs := F5) ?_ 0 _ rfl; (with_reducible repeat (first | refine blk_drewN ?_ _ | refine blk_drew ?_ | refine blk_alloc ?_ _)); exact BK795.out) Try.underlying41 rfl (by kernel_rfl)) rfl ?_
  exact ⟨by first | rfl | (simp [errW_none, errW_some] <;> rfl) | (simp [*, errW_none, errW_some] <;> rfl), bl1 HB.out GE795.out⟩

end Go.Proofs.Ytngkpekmgahjiaa.P
