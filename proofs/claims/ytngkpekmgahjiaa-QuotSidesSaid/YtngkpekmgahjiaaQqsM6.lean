import Derived.Test.YtngkpekmgahjiaaQqsZ
import Derived.Test.YtngkpekmgahjiaaQqsM1
import Derived.Test.YtngkpekmgahjiaaQqsM5
import Derived.Test.YtngkpekmgahjiaaQqsPx36
import Derived.Test.YtngkpekmgahjiaaQqsPx37
import Derived.Test.YtngkpekmgahjiaaQqsM3
import Derived.Test.YtngkpekmgahjiaaQqsPx17
import Derived.Test.YtngkpekmgahjiaaQqsM4
-- Printed by a program of this session's out of Lean's print of the translation; Lean checks it.
namespace Go.Proofs.Ytngkpekmgahjiaa.P
open Go.RowKit Go.Proofs.YtngkpekmgahjiaaW.PrintWords Go.Proofs.YtngkpekmgahjiaaW.PrintLast Go.Proofs.YtngkpekmgahjiaaW.PrintMore
attribute [local go_sem] max2_int min2_int max_two min_two max_three min_three max_four min_four   -- for this text's walks alone
set_option linter.unusedVariables false
set_option linter.unusedSimpArgs false

attribute [local go_sem high] eqA41
/-! ### anneallaw6_known: function 33 -/
def anneallaw6_known.f (k : Nat)  : Option (Bool) := (quot_Sqrt.f k 2 0 1082130432).bind fun bt656 => ((quot_Div.f k 0 0 15360 0).bind fun bt663 => (if bt656.1 = 1073741824 then (if (!bt656.2.1 && (!bt656.2.2.1 && (!bt656.2.2.2.1 && (!bt656.2.2.2.2.1 && (!bt656.2.2.2.2.2))))) = true then (if bt663.1 = 31744 then (some (!bt663.2.1 && (bt663.2.2.1 && (!bt663.2.2.2.1 && (!bt663.2.2.2.2.1 && (!bt663.2.2.2.2.2)))))) else (some false)) else (some false)) else (some false)))
theorem anneallaw6_known.mono : ∀ k, LeO (anneallaw6_known.f k ) (anneallaw6_known.f (k + 1) ) := by
 intro  k
 unfold anneallaw6_known.f
 repeat' first
   |(with_reducible exact quot_Div.mono _ _ _ _ _)
   |(with_reducible exact quot_Sqrt.mono _ _ _ _)
   |(with_reducible exact LeO.refl _)
   |(with_reducible exact LeO.none _)
   |(with_reducible refine LeO.ite ?_ ?_)
   |(with_reducible refine LeO.bind ?_ (fun _ => ?_))
   |exact quot_Div.mono _ _ _ _ _
   |exact quot_Sqrt.mono _ _ _ _
   |exact LeO.none _
   |refine LeO.ite ?_ ?_
   |refine LeO.bind ?_ (fun _ => ?_)
set_option maxHeartbeats 8000000 in
set_option maxRecDepth 100000 in
theorem anneallaw6_known.calls (k : Nat)  (r : Bool) (w : World) (h : anneallaw6_known.f k  = some r) :
  Calls Try.prog 33 #[] w fun e w' => e = .returned (.bool r) ∧ Below w.heap.size w w' := by
 have hu41 := Try.underlying41
 have HB := Aside0.mk (Below.refl w.heap.size w)
 have H : ((quot_Sqrt.f k 2 0 1082130432).bind fun bt656 => ((quot_Div.f k 0 0 15360 0).bind fun bt663 => (if bt656.1 = 1073741824 then (if (!bt656.2.1 && (!bt656.2.2.1 && (!bt656.2.2.2.1 && (!bt656.2.2.2.2.1 && (!bt656.2.2.2.2.2))))) = true then (if bt663.1 = 31744 then (some (!bt663.2.1 && (bt663.2.2.1 && (!bt663.2.2.2.1 && (!bt663.2.2.2.2.1 && (!bt663.2.2.2.2.2)))))) else (some false)) else (some false)) else (some false)))) = some r := h
 clear h
 replace H := Option.bind_eq_some_iff.mp H
 obtain ⟨⟨t656, t657, t658, t659, t660, t661⟩, A10, H⟩ := H
 replace H : ((quot_Div.f k 0 0 15360 0).bind fun bt663 => (if t656 = 1073741824 then (if (!t657 && (!t658 && (!t659 && (!t660 && (!t661))))) = true then (if bt663.1 = 31744 then (some (!bt663.2.1 && (bt663.2.2.1 && (!bt663.2.2.2.1 && (!bt663.2.2.2.2.1 && (!bt663.2.2.2.2.2)))))) else (some false)) else (some false)) else (some false))) = some r := H
 have A1 := Aside0.mk A10
 clear A10
 replace H := Option.bind_eq_some_iff.mp H
 obtain ⟨⟨t663, t664, t665, t666, t667, t668⟩, A20, H⟩ := H
 replace H : (if t656 = 1073741824 then (if (!t657 && (!t658 && (!t659 && (!t660 && (!t661))))) = true then (if t663 = 31744 then (some (!t664 && (t665 && (!t666 && (!t667 && (!t668)))))) else (some false)) else (some false)) else (some false)) = some r := H
 have A2 := Aside0.mk A20
 clear A20
 by_cases c3 : t656 = 1073741824
 ·rw [if_pos c3] at H
  have c3b0 : (t656 == 1073741824) = true := beq_iff_eq.mpr c3
  have c3b1 : (t656 != 1073741824) = false := bne_eq_false_iff_eq.mpr c3
  clear c3
  by_cases c4 : (!t657 && (!t658 && (!t659 && (!t660 && (!t661))))) = true
  ·rw [if_pos c4] at H
   have c4b0 : (!t657 && (!t658 && (!t659 && (!t660 && (!t661))))) = true := c4
   clear c4
   by_cases c5 : t663 = 31744
   ·rw [if_pos c5] at H
    have c5b0 : (t663 == 31744) = true := beq_iff_eq.mpr c5
    have c5b1 : (t663 != 31744) = false := bne_eq_false_iff_eq.mpr c5
    clear c5
    obtain rfl := Option.some.inj H
    go_enter Try.func33, Try.ntmps33
    go_wp2_with (first | ((with_reducible refine gate_callee (f := 38) rfl ?_); refine goesL_ (some 6) rfl rfl Try.func38 (by kernel_rfl) rfl #[.int .i64 2, .int .i64 0, .int .u32 1082130432] rfl gl ?_; (with_reducible refine (quot_Sqrt.calls k 2 0 1082130432 t656 t657 t658 t659 t660 t661 _ A1.out).mono ?_); rintro e w6 ⟨rfl, hb⟩; refine ⟨_, rfl, ?_⟩; have n0_ := Aside0.mk (below_step (bl0 HB.out) hb); clear HB; have HB := n0_; clear n0_) | ((with_reducible refine gate_dst (N := 2) rfl ?_); refine box_event ?hg (N := 2) ?hd (cs := F5) (t := 41) ?hr ?_; (case hd => rfl); (case hg => rfl); (case hr => first | (go_simp; done) | (go_simp; rfl)); intro gb662 hg w7 hbox hb; have n0_ := Aside0.mk (below_step (bl0 HB.out) hb); have n1_ := Aside0.mk (hbox); have n2_ := Aside0.mk ((by rw [hg]; exact (below_size (bl0 HB.out)) : w.heap.size ≤ gb662)); have n3_ := Aside0.mk ((by rw [hg]; exact (below_size (bl0 HB.out)) : w.heap.size ≤ gb662)); clear HB; have HB := n0_; have BK662 := n1_; have GW662 := n2_; have GE662 := n3_; clear n0_ n1_ n2_ n3_; clear hb hbox hg; obtain ⟨hcz8_0, hcz8_1, hcz8_2, hcz8_3, hcz8_4⟩ := bc5 BK662.out; obtain ⟨hfz8_0, hfz8_1, hfz8_2, hfz8_3, hfz8_4⟩ := bf5 BK662.out) | ((with_reducible refine gate_callee (f := 36) rfl ?_); refine goesL_ (some 10) rfl rfl Try.func36 (by kernel_rfl) rfl #[.int .i64 0, .int .i64 0, .int .u32 15360, .int .u32 0] rfl gl ?_; (with_reducible refine (quot_Div.calls k 0 0 15360 0 t663 t664 t665 t666 t667 t668 _ A2.out).mono ?_); rintro e w9 ⟨rfl, hb⟩; refine ⟨_, rfl, ?_⟩; have n0_ := Aside0.mk (blk_below (g := gb662) (o := .cells #[.bool t657, .bool t658, .bool t659, .bool t660, .bool t661] 41 (0, 0)) (by (with_reducible repeat (first | refine blk_drewN ?_ _ | refine blk_drew ?_ | refine blk_alloc ?_ _)); refine blk_put (cs := #[.bool t657, .bool t658, .bool t659, .bool t660, .bool false]) ?_ 4 _ rfl; (with_reducible repeat (first | refine blk_drewN ?_ _ | refine blk_drew ?_ | refine blk_alloc ?_ _)); refine blk_put (cs := #[.bool t657, .bool t658, .bool t659, .bool false, .bool false]) ?_ 3 _ rfl; (with_reducible repeat (first | refine blk_drewN ?_ _ | refine blk_drew ?_ | refine blk_alloc ?_ _)); refine blk_put (cs := #[.bool t657, .bool t658, .bool false, .bool false, .bool false]) ?_ 2 _ rfl; (with_reducible repeat (first | refine blk_drewN ?_ _ | refine blk_drew ?_ | refine blk_alloc ?_ _)); refine blk_put (cs := #[.bool t657, .bool false, .bool false, .bool false, .bool false]) ?_ 1 _ rfl; (with_reducible repeat (first | refine blk_drewN ?_ _ | refine blk_drew ?_ | refine blk_alloc ?_ _)); refine blk_put (cs := F5) ?_ 0 _ rfl; (with_reducible repeat (first | refine blk_drewN ?_ _ | refine blk_drew ?_ | refine blk_alloc ?_ _)); exact BK662.out) hb); have n1_ := Aside0.mk (below_step (bl1 HB.out GE662.out) hb); clear BK662; clear HB; have BK662 := n0_; have HB := n1_; clear n0_ n1_) | ((with_reducible refine gate_dst (N := 4) rfl ?_); refine box_event ?hg (N := 4) ?hd (cs := F5) (t := 41) ?hr ?_; (case hd => rfl); (case hg => rfl); (case hr => first | (go_simp; done) | (go_simp; rfl)); intro gb669 hg w10 hbox hb; have n0_ := Aside0.mk (blk_below (g := gb662) (o := .cells #[.bool t657, .bool t658, .bool t659, .bool t660, .bool t661] 41 (0, 0)) (bv BK662.out) hb); have n1_ := Aside0.mk (below_step (bl1 HB.out GE662.out) hb); have n2_ := Aside0.mk (hbox); have n3_ := Aside0.mk ((by rw [hg]; exact (below_size (bl1 HB.out GE662.out)) : w.heap.size ≤ gb669)); have n4_ := Aside0.mk ((by rw [hg]; exact (below_size (bl1 HB.out GE662.out)) : w.heap.size ≤ gb669)); have n5_ := Aside0.mk ((by rw [hg]; exact Nat.ne_of_lt (blk_lt (g := gb662) (o := .cells #[.bool t657, .bool t658, .bool t659, .bool t660, .bool t661] 41 (0, 0)) (bv BK662.out)) : gb662 ≠ gb669)); have n6_ := Aside0.mk ((by rw [hg]; exact Nat.ne_of_gt (blk_lt (g := gb662) (o := .cells #[.bool t657, .bool t658, .bool t659, .bool t660, .bool t661] 41 (0, 0)) (bv BK662.out)) : gb669 ≠ gb662)); clear BK662; clear HB; have BK662 := n0_; have HB := n1_; have BK669 := n2_; have GW669 := n3_; have GE669 := n4_; have NB662_669 := n5_; have NB669_662 := n6_; clear n0_ n1_ n2_ n3_ n4_ n5_ n6_; clear hb hbox hg; have hnb11 := NB669_662.out; have hnc11 := NB662_669.out; obtain ⟨hcz12_0, hcz12_1, hcz12_2, hcz12_3, hcz12_4⟩ := bc5 BK669.out; obtain ⟨hfz12_0, hfz12_1, hfz12_2, hfz12_3, hfz12_4⟩ := bf5 BK669.out; obtain ⟨hcz13_0, hcz13_1, hcz13_2, hcz13_3, hcz13_4⟩ := bc5 BK662.out; obtain ⟨hfz13_0, hfz13_1, hfz13_2, hfz13_3, hfz13_4⟩ := bf5 BK662.out))
    go_ret
    exact ⟨by first | rfl | (simp [errW_none, errW_some] <;> rfl) | (simp [*, errW_none, errW_some] <;> rfl), bl2 HB.out GE662.out GE669.out⟩
   ·rw [if_neg c5] at H
    have c5b0 : (t663 == 31744) = false := beq_eq_false_iff_ne.mpr c5
    have c5b1 : (t663 != 31744) = true := bne_iff_ne.mpr c5
    obtain rfl := Option.some.inj H
    go_enter Try.func33, Try.ntmps33
    go_wp2_with (first | ((with_reducible refine gate_callee (f := 38) rfl ?_); refine goesL_ (some 6) rfl rfl Try.func38 (by kernel_rfl) rfl #[.int .i64 2, .int .i64 0, .int .u32 1082130432] rfl gl ?_; (with_reducible refine (quot_Sqrt.calls k 2 0 1082130432 t656 t657 t658 t659 t660 t661 _ A1.out).mono ?_); rintro e w14 ⟨rfl, hb⟩; refine ⟨_, rfl, ?_⟩; have n0_ := Aside0.mk (below_step (bl0 HB.out) hb); clear HB; have HB := n0_; clear n0_) | ((with_reducible refine gate_dst (N := 2) rfl ?_); refine box_event ?hg (N := 2) ?hd (cs := F5) (t := 41) ?hr ?_; (case hd => rfl); (case hg => rfl); (case hr => first | (go_simp; done) | (go_simp; rfl)); intro gb662 hg w15 hbox hb; have n0_ := Aside0.mk (below_step (bl0 HB.out) hb); have n1_ := Aside0.mk (hbox); have n2_ := Aside0.mk ((by rw [hg]; exact (below_size (bl0 HB.out)) : w.heap.size ≤ gb662)); have n3_ := Aside0.mk ((by rw [hg]; exact (below_size (bl0 HB.out)) : w.heap.size ≤ gb662)); clear HB; have HB := n0_; have BK662 := n1_; have GW662 := n2_; have GE662 := n3_; clear n0_ n1_ n2_ n3_; clear hb hbox hg; obtain ⟨hcz16_0, hcz16_1, hcz16_2, hcz16_3, hcz16_4⟩ := bc5 BK662.out; obtain ⟨hfz16_0, hfz16_1, hfz16_2, hfz16_3, hfz16_4⟩ := bf5 BK662.out) | ((with_reducible refine gate_callee (f := 36) rfl ?_); refine goesL_ (some 10) rfl rfl Try.func36 (by kernel_rfl) rfl #[.int .i64 0, .int .i64 0, .int .u32 15360, .int .u32 0] rfl gl ?_; (with_reducible refine (quot_Div.calls k 0 0 15360 0 t663 t664 t665 t666 t667 t668 _ A2.out).mono ?_); rintro e w17 ⟨rfl, hb⟩; refine ⟨_, rfl, ?_⟩; have n0_ := Aside0.mk (blk_below (g := gb662) (o := .cells #[.bool t657, .bool t658, .bool t659, .bool t660, .bool t661] 41 (0, 0)) (by (with_reducible repeat (first | refine blk_drewN ?_ _ | refine blk_drew ?_ | refine blk_alloc ?_ _)); refine blk_put (cs := #[.bool t657, .bool t658, .bool t659, .bool t660, .bool false]) ?_ 4 _ rfl; (with_reducible repeat (first | refine blk_drewN ?_ _ | refine blk_drew ?_ | refine blk_alloc ?_ _)); refine blk_put (cs := #[.bool t657, .bool t658, .bool t659, .bool false, .bool false]) ?_ 3 _ rfl; (with_reducible repeat (first | refine blk_drewN ?_ _ | refine blk_drew ?_ | refine blk_alloc ?_ _)); refine blk_put (cs := #[.bool t657, .bool t658, .bool false, .bool false, .bool false]) ?_ 2 _ rfl; (with_reducible repeat (first | refine blk_drewN ?_ _ | refine blk_drew ?_ | refine blk_alloc ?_ _)); refine blk_put (cs := #[.bool t657, .bool false, .bool false, .bool false, .bool false]) ?_ 1 _ rfl; (with_reducible repeat (first | refine blk_drewN ?_ _ | refine blk_drew ?_ | refine blk_alloc ?_ _)); refine blk_put (cs := F5) ?_ 0 _ rfl; (with_reducible repeat (first | refine blk_drewN ?_ _ | refine blk_drew ?_ | refine blk_alloc ?_ _)); exact BK662.out) hb); have n1_ := Aside0.mk (below_step (bl1 HB.out GE662.out) hb); clear BK662; clear HB; have BK662 := n0_; have HB := n1_; clear n0_ n1_) | ((with_reducible refine gate_dst (N := 4) rfl ?_); refine box_event ?hg (N := 4) ?hd (cs := F5) (t := 41) ?hr ?_; (case hd => rfl); (case hg => rfl); (case hr => first | (go_simp; done) | (go_simp; rfl)); intro gb669 hg w18 hbox hb; have n0_ := Aside0.mk (blk_below (g := gb662) (o := .cells #[.bool t657, .bool t658, .bool t659, .bool t660, .bool t661] 41 (0, 0)) (bv BK662.out) hb); have n1_ := Aside0.mk (below_step (bl1 HB.out GE662.out) hb); have n2_ := Aside0.mk (hbox); have n3_ := Aside0.mk ((by rw [hg]; exact (below_size (bl1 HB.out GE662.out)) : w.heap.size ≤ gb669)); have n4_ := Aside0.mk ((by rw [hg]; exact (below_size (bl1 HB.out GE662.out)) : w.heap.size ≤ gb669)); have n5_ := Aside0.mk ((by rw [hg]; exact Nat.ne_of_lt (blk_lt (g := gb662) (o := .cells #[.bool t657, .bool t658, .bool t659, .bool t660, .bool t661] 41 (0, 0)) (bv BK662.out)) : gb662 ≠ gb669)); have n6_ := Aside0.mk ((by rw [hg]; exact Nat.ne_of_gt (blk_lt (g := gb662) (o := .cells #[.bool t657, .bool t658, .bool t659, .bool t660, .bool t661] 41 (0, 0)) (bv BK662.out)) : gb669 ≠ gb662)); clear BK662; clear HB; have BK662 := n0_; have HB := n1_; have BK669 := n2_; have GW669 := n3_; have GE669 := n4_; have NB662_669 := n5_; have NB669_662 := n6_; clear n0_ n1_ n2_ n3_ n4_ n5_ n6_; clear hb hbox hg; have hnb19 := NB669_662.out; have hnc19 := NB662_669.out; obtain ⟨hcz20_0, hcz20_1, hcz20_2, hcz20_3, hcz20_4⟩ := bc5 BK669.out; obtain ⟨hfz20_0, hfz20_1, hfz20_2, hfz20_3, hfz20_4⟩ := bf5 BK669.out; obtain ⟨hcz21_0, hcz21_1, hcz21_2, hcz21_3, hcz21_4⟩ := bc5 BK662.out; obtain ⟨hfz21_0, hfz21_1, hfz21_2, hfz21_3, hfz21_4⟩ := bf5 BK662.out))
    go_ret
    exact ⟨by first | rfl | (simp [errW_none, errW_some] <;> rfl) | (simp [*, errW_none, errW_some] <;> rfl), bl2 HB.out GE662.out GE669.out⟩
  ·rw [if_neg c4] at H
   have c4b0 : (!t657 && (!t658 && (!t659 && (!t660 && (!t661))))) = false := by simpa using c4
   clear c4
   obtain rfl := Option.some.inj H
   go_enter Try.func33, Try.ntmps33
   go_wp2_with (first | ((with_reducible refine gate_callee (f := 38) rfl ?_); refine goesL_ (some 6) rfl rfl Try.func38 (by kernel_rfl) rfl #[.int .i64 2, .int .i64 0, .int .u32 1082130432] rfl gl ?_; (with_reducible refine (quot_Sqrt.calls k 2 0 1082130432 t656 t657 t658 t659 t660 t661 _ A1.out).mono ?_); rintro e w22 ⟨rfl, hb⟩; refine ⟨_, rfl, ?_⟩; have n0_ := Aside0.mk (below_step (bl0 HB.out) hb); clear HB; have HB := n0_; clear n0_) | ((with_reducible refine gate_dst (N := 2) rfl ?_); refine box_event ?hg (N := 2) ?hd (cs := F5) (t := 41) ?hr ?_; (case hd => rfl); (case hg => rfl); (case hr => first | (go_simp; done) | (go_simp; rfl)); intro gb662 hg w23 hbox hb; have n0_ := Aside0.mk (below_step (bl0 HB.out) hb); have n1_ := Aside0.mk (hbox); have n2_ := Aside0.mk ((by rw [hg]; exact (below_size (bl0 HB.out)) : w.heap.size ≤ gb662)); have n3_ := Aside0.mk ((by rw [hg]; exact (below_size (bl0 HB.out)) : w.heap.size ≤ gb662)); clear HB; have HB := n0_; have BK662 := n1_; have GW662 := n2_; have GE662 := n3_; clear n0_ n1_ n2_ n3_; clear hb hbox hg; obtain ⟨hcz24_0, hcz24_1, hcz24_2, hcz24_3, hcz24_4⟩ := bc5 BK662.out; obtain ⟨hfz24_0, hfz24_1, hfz24_2, hfz24_3, hfz24_4⟩ := bf5 BK662.out) | ((with_reducible refine gate_callee (f := 36) rfl ?_); refine goesL_ (some 10) rfl rfl Try.func36 (by kernel_rfl) rfl #[.int .i64 0, .int .i64 0, .int .u32 15360, .int .u32 0] rfl gl ?_; (with_reducible refine (quot_Div.calls k 0 0 15360 0 t663 t664 t665 t666 t667 t668 _ A2.out).mono ?_); rintro e w25 ⟨rfl, hb⟩; refine ⟨_, rfl, ?_⟩; have n0_ := Aside0.mk (blk_below (g := gb662) (o := .cells #[.bool t657, .bool t658, .bool t659, .bool t660, .bool t661] 41 (0, 0)) (by (with_reducible repeat (first | refine blk_drewN ?_ _ | refine blk_drew ?_ | refine blk_alloc ?_ _)); refine blk_put (cs := #[.bool t657, .bool t658, .bool t659, .bool t660, .bool false]) ?_ 4 _ rfl; (with_reducible repeat (first | refine blk_drewN ?_ _ | refine blk_drew ?_ | refine blk_alloc ?_ _)); refine blk_put (cs := #[.bool t657, .bool t658, .bool t659, .bool false, .bool false]) ?_ 3 _ rfl; (with_reducible repeat (first | refine blk_drewN ?_ _ | refine blk_drew ?_ | refine blk_alloc ?_ _)); refine blk_put (cs := #[.bool t657, .bool t658, .bool false, .bool false, .bool false]) ?_ 2 _ rfl; (with_reducible repeat (first | refine blk_drewN ?_ _ | refine blk_drew ?_ | refine blk_alloc ?_ _)); refine blk_put (cs := #[.bool t657, .bool false, .bool false, .bool false, .bool false]) ?_ 1 _ rfl; (with_reducible repeat (first | refine blk_drewN ?_ _ | refine blk_drew ?_ | refine blk_alloc ?_ _)); refine blk_put (cs := F5) ?_ 0 _ rfl; (with_reducible repeat (first | refine blk_drewN ?_ _ | refine blk_drew ?_ | refine blk_alloc ?_ _)); exact BK662.out) hb); have n1_ := Aside0.mk (below_step (bl1 HB.out GE662.out) hb); clear BK662; clear HB; have BK662 := n0_; have HB := n1_; clear n0_ n1_) | ((with_reducible refine gate_dst (N := 4) rfl ?_); refine box_event ?hg (N := 4) ?hd (cs := F5) (t := 41) ?hr ?_; (case hd => rfl); (case hg => rfl); (case hr => first | (go_simp; done) | (go_simp; rfl)); intro gb669 hg w26 hbox hb; have n0_ := Aside0.mk (blk_below (g := gb662) (o := .cells #[.bool t657, .bool t658, .bool t659, .bool t660, .bool t661] 41 (0, 0)) (bv BK662.out) hb); have n1_ := Aside0.mk (below_step (bl1 HB.out GE662.out) hb); have n2_ := Aside0.mk (hbox); have n3_ := Aside0.mk ((by rw [hg]; exact (below_size (bl1 HB.out GE662.out)) : w.heap.size ≤ gb669)); have n4_ := Aside0.mk ((by rw [hg]; exact (below_size (bl1 HB.out GE662.out)) : w.heap.size ≤ gb669)); have n5_ := Aside0.mk ((by rw [hg]; exact Nat.ne_of_lt (blk_lt (g := gb662) (o := .cells #[.bool t657, .bool t658, .bool t659, .bool t660, .bool t661] 41 (0, 0)) (bv BK662.out)) : gb662 ≠ gb669)); have n6_ := Aside0.mk ((by rw [hg]; exact Nat.ne_of_gt (blk_lt (g := gb662) (o := .cells #[.bool t657, .bool t658, .bool t659, .bool t660, .bool t661] 41 (0, 0)) (bv BK662.out)) : gb669 ≠ gb662)); clear BK662; clear HB; have BK662 := n0_; have HB := n1_; have BK669 := n2_; have GW669 := n3_; have GE669 := n4_; have NB662_669 := n5_; have NB669_662 := n6_; clear n0_ n1_ n2_ n3_ n4_ n5_ n6_; clear hb hbox hg; have hnb27 := NB669_662.out; have hnc27 := NB662_669.out; obtain ⟨hcz28_0, hcz28_1, hcz28_2, hcz28_3, hcz28_4⟩ := bc5 BK669.out; obtain ⟨hfz28_0, hfz28_1, hfz28_2, hfz28_3, hfz28_4⟩ := bf5 BK669.out; obtain ⟨hcz29_0, hcz29_1, hcz29_2, hcz29_3, hcz29_4⟩ := bc5 BK662.out; obtain ⟨hfz29_0, hfz29_1, hfz29_2, hfz29_3, hfz29_4⟩ := bf5 BK662.out))
   go_ret
   exact ⟨by first | rfl | (simp [errW_none, errW_some] <;> rfl) | (simp [*, errW_none, errW_some] <;> rfl), bl2 HB.out GE662.out GE669.out⟩
 ·rw [if_neg c3] at H
  have c3b0 : (t656 == 1073741824) = false := beq_eq_false_iff_ne.mpr c3
  have c3b1 : (t656 != 1073741824) = true := bne_iff_ne.mpr c3
  obtain rfl := Option.some.inj H
  go_enter Try.func33, Try.ntmps33
  go_wp2_with (first | ((with_reducible refine gate_callee (f := 38) rfl ?_); refine goesL_ (some 6) rfl rfl Try.func38 (by kernel_rfl) rfl #[.int .i64 2, .int .i64 0, .int .u32 1082130432] rfl gl ?_; (with_reducible refine (quot_Sqrt.calls k 2 0 1082130432 t656 t657 t658 t659 t660 t661 _ A1.out).mono ?_); rintro e w30 ⟨rfl, hb⟩; refine ⟨_, rfl, ?_⟩; have n0_ := Aside0.mk (below_step (bl0 HB.out) hb); clear HB; have HB := n0_; clear n0_) | ((with_reducible refine gate_dst (N := 2) rfl ?_); refine box_event ?hg (N := 2) ?hd (cs := F5) (t := 41) ?hr ?_; (case hd => rfl); (case hg => rfl); (case hr => first | (go_simp; done) | (go_simp; rfl)); intro gb662 hg w31 hbox hb; have n0_ := Aside0.mk (below_step (bl0 HB.out) hb); have n1_ := Aside0.mk (hbox); have n2_ := Aside0.mk ((by rw [hg]; exact (below_size (bl0 HB.out)) : w.heap.size ≤ gb662)); have n3_ := Aside0.mk ((by rw [hg]; exact (below_size (bl0 HB.out)) : w.heap.size ≤ gb662)); clear HB; have HB := n0_; have BK662 := n1_; have GW662 := n2_; have GE662 := n3_; clear n0_ n1_ n2_ n3_; clear hb hbox hg; obtain ⟨hcz32_0, hcz32_1, hcz32_2, hcz32_3, hcz32_4⟩ := bc5 BK662.out; obtain ⟨hfz32_0, hfz32_1, hfz32_2, hfz32_3, hfz32_4⟩ := bf5 BK662.out) | ((with_reducible refine gate_callee (f := 36) rfl ?_); refine goesL_ (some 10) rfl rfl Try.func36 (by kernel_rfl) rfl #[.int .i64 0, .int .i64 0, .int .u32 15360, .int .u32 0] rfl gl ?_; (with_reducible refine (quot_Div.calls k 0 0 15360 0 t663 t664 t665 t666 t667 t668 _ A2.out).mono ?_); rintro e w33 ⟨rfl, hb⟩; refine ⟨_, rfl, ?_⟩; have n0_ := Aside0.mk (blk_below (g := gb662) (o := .cells #[.bool t657, .bool t658, .bool t659, .bool t660, .bool t661] 41 (0, 0)) (by (with_reducible repeat (first | refine blk_drewN ?_ _ | refine blk_drew ?_ | refine blk_alloc ?_ _)); refine blk_put (cs := #[.bool t657, .bool t658, .bool t659, .bool t660, .bool false]) ?_ 4 _ rfl; (with_reducible repeat (first | refine blk_drewN ?_ _ | refine blk_drew ?_ | refine blk_alloc ?_ _)); refine blk_put (cs := #[.bool t657, .bool t658, .bool t659, .bool false, .bool false]) ?_ 3 _ rfl; (with_reducible repeat (first | refine blk_drewN ?_ _ | refine blk_drew ?_ | refine blk_alloc ?_ _)); refine blk_put (cs := #[.bool t657, .bool t658, .bool false, .bool false, .bool false]) ?_ 2 _ rfl; (with_reducible repeat (first | refine blk_drewN ?_ _ | refine blk_drew ?_ | refine blk_alloc ?_ _)); refine blk_put (cs := #[.bool t657, .bool false, .bool false, .bool false, .bool false]) ?_ 1 _ rfl; (with_reducible repeat (first | refine blk_drewN ?_ _ | refine blk_drew ?_ | refine blk_alloc ?_ _)); refine blk_put (cs := F5) ?_ 0 _ rfl; (with_reducible repeat (first | refine blk_drewN ?_ _ | refine blk_drew ?_ | refine blk_alloc ?_ _)); exact BK662.out) hb); have n1_ := Aside0.mk (below_step (bl1 HB.out GE662.out) hb); clear BK662; clear HB; have BK662 := n0_; have HB := n1_; clear n0_ n1_) | ((with_reducible refine gate_dst (N := 4) rfl ?_); refine box_event ?hg (N := 4) ?hd (cs := F5) (t := 41) ?hr ?_; (case hd => rfl); (case hg => rfl); (case hr => first | (go_simp; done) | (go_simp; rfl)); intro gb669 hg w34 hbox hb; have n0_ := Aside0.mk (blk_below (g := gb662) (o := .cells #[.bool t657, .bool t658, .bool t659, .bool t660, .bool t661] 41 (0, 0)) (bv BK662.out) hb); have n1_ := Aside0.mk (below_step (bl1 HB.out GE662.out) hb); have n2_ := Aside0.mk (hbox); have n3_ := Aside0.mk ((by rw [hg]; exact (below_size (bl1 HB.out GE662.out)) : w.heap.size ≤ gb669)); have n4_ := Aside0.mk ((by rw [hg]; exact (below_size (bl1 HB.out GE662.out)) : w.heap.size ≤ gb669)); have n5_ := Aside0.mk ((by rw [hg]; exact Nat.ne_of_lt (blk_lt (g := gb662) (o := .cells #[.bool t657, .bool t658, .bool t659, .bool t660, .bool t661] 41 (0, 0)) (bv BK662.out)) : gb662 ≠ gb669)); have n6_ := Aside0.mk ((by rw [hg]; exact Nat.ne_of_gt (blk_lt (g := gb662) (o := .cells #[.bool t657, .bool t658, .bool t659, .bool t660, .bool t661] 41 (0, 0)) (bv BK662.out)) : gb669 ≠ gb662)); clear BK662; clear HB; have BK662 := n0_; have HB := n1_; have BK669 := n2_; have GW669 := n3_; have GE669 := n4_; have NB662_669 := n5_; have NB669_662 := n6_; clear n0_ n1_ n2_ n3_ n4_ n5_ n6_; clear hb hbox hg; have hnb35 := NB669_662.out; have hnc35 := NB662_669.out; obtain ⟨hcz36_0, hcz36_1, hcz36_2, hcz36_3, hcz36_4⟩ := bc5 BK669.out; obtain ⟨hfz36_0, hfz36_1, hfz36_2, hfz36_3, hfz36_4⟩ := bf5 BK669.out))
  go_ret
  exact ⟨by first | rfl | (simp [errW_none, errW_some] <;> rfl) | (simp [*, errW_none, errW_some] <;> rfl), bl2 HB.out GE662.out GE669.out⟩

/-! ### anneallaw6_form: function 34 -/
def anneallaw6_form.f (a0 : Int) : Option (Int) := (some (([0, 1, 2] : List Int) : List Int)).bind fun y670 => (if 0 ≤ (Int.tmod a0 3) then (if (Int.tmod a0 3) < (y670.length : Int) then (some (rd y670 (Int.tmod a0 3))) else (none)) else (none))
set_option maxHeartbeats 8000000 in
set_option maxRecDepth 100000 in
theorem anneallaw6_form.calls (a0 : Int) (r : Int) (w : World) (h : anneallaw6_form.f a0 = some r) :
  Calls Try.prog 34 #[.int .u8 a0] w fun e w' => e = .returned (.int .i64 r) ∧ Below w.heap.size w w' := by
 have HB := Aside0.mk (Below.refl w.heap.size w)
 have H : ((some (([0, 1, 2] : List Int) : List Int)).bind fun y670 => (if 0 ≤ (Int.tmod a0 3) then (if (Int.tmod a0 3) < (y670.length : Int) then (some (rd y670 (Int.tmod a0 3))) else (none)) else (none))) = some r := h
 clear h
 obtain ⟨y670, hy670⟩ : ∃ y_ : List Int, y_ = (([0, 1, 2] : List Int)) := ⟨_, rfl⟩
 replace H : (if 0 ≤ (Int.tmod a0 3) then (if (Int.tmod a0 3) < (y670.length : Int) then (some (rd y670 (Int.tmod a0 3))) else (none)) else (none)) = some r := by first | (rw [hy670]; with_reducible exact H) | (have H2_ := (Option.bind_some _ _).symm.trans H; rw [hy670]; with_reducible exact H2_) | (have H2_ := (Option.bind_some _ _).symm.trans H; with_reducible exact H2_) | with_reducible exact H | (rw [hy670]; exact H) | exact H
 have Ny670 := Aside0.mk hy670
 clear hy670
 obtain ⟨ji2, hji2⟩ : ∃ j_ : Int, (Int.tmod a0 3) = j_ := ⟨_, rfl⟩
 replace H : (if 0 ≤ (ji2) then (if (ji2) < (y670.length : Int) then (some (rd y670 (ji2))) else (none)) else (none)) = some r := by first | (rw [hji2] at H; exact H) | (simp only [hji2] at H ⊢; exact H)
 by_cases c3 : 0 ≤ (ji2)
 ·rw [if_pos c3] at H
  have c3b0 : decide (0 ≤ (ji2)) = true := decide_eq_true c3
  clear c3
  by_cases c4 : (ji2) < (y670.length : Int)
  ·rw [if_pos c4] at H
   have c4b0 : decide ((ji2) < (y670.length : Int)) = true := decide_eq_true c4
   clear c4
   obtain rfl := Option.some.inj H
   go_enter Try.func34, Try.ntmps34
   go_wp2_with (first | ((with_reducible refine gate_dst (N := 3) rfl ?_); refine Kd.R_lit (Kd.int .i64) _ 3 ?hg (N := 3) ?hd (xs := ([0, 1, 2] : List Int)) (inner := [.int .i64 0, .int .i64 1, .int .i64 2]) (ok := fun _ => True) (okp := fun _ => True) ?hr ?hp (fun _ hk => hk) trivial (Below.refl _ _) (Nat.le_refl _) (by simp) ?_; (case hd => rfl); (case hg => rfl); (case hr => first | (go_simp; done) | (go_simp; rfl)); (case hp => exact (Reps.one (show Kd.M (Kd.int .i64) _ _ _ 0 [.int .i64 0] from rfl) (Reps.one (show Kd.M (Kd.int .i64) _ _ _ 1 [.int .i64 1] from rfl) (Reps.one (show Kd.M (Kd.int .i64) _ _ _ 2 [.int .i64 2] from rfl) (Reps.none _ _))))); intro v671 w5 ho6 hb hg_ hnew_; clear hg_ hnew_; (first | rw [← Ny670.out] at ho6 | (simp only [Int.reduceToNat] at ho6; rw [← Ny670.out] at ho6)); have n0_ := Aside0.mk (Kd.R_lower ho6 (below_size (bl0 HB.out))); have n1_ := Aside0.mk (below_step (bl0 HB.out) hb); clear HB; have HO672 := n0_; have HB := n1_; clear n0_ n1_; clear hb ho6; obtain ⟨Ao7, co7, eo7⟩ := Kd.R_slice HO672.out; subst eo7; have p673 : 0 ≤ ((ji2) : Int) := of_decide_eq_true (by first | (with_reducible assumption) | assumption); have q673 : (ji2) < (y670.length : Int) := of_decide_eq_true (by first | (with_reducible assumption) | assumption); obtain ⟨ad673, e673, hx673_0⟩ := Kd.at_int (Kd.R_reads' HO672.out).2.2 (ji2) p673 q673; cases e673; replace p673 := eq_true p673; replace q673 := eq_true q673))
   go_ret
   exact ⟨by first | rfl | (simp [errW_none, errW_some] <;> rfl) | (simp only [← hji2]; first | rfl | (simp [errW_none, errW_some] <;> rfl)) | (simp [*, errW_none, errW_some] <;> rfl), bl0 HB.out⟩
  ·rw [if_neg c4] at H
   exact absurd H (by simp)
 ·rw [if_neg c3] at H
  exact absurd H (by simp)

end Go.Proofs.Ytngkpekmgahjiaa.P

-- Printed by a program of this session's out of Lean's print of the translation; Lean checks it.
namespace Go.Proofs.Ytngkpekmgahjiaa.P
open Go.RowKit Go.Proofs.YtngkpekmgahjiaaW.PrintWords Go.Proofs.YtngkpekmgahjiaaW.PrintLast Go.Proofs.YtngkpekmgahjiaaW.PrintMore
attribute [local go_sem] max2_int min2_int max_two min_two max_three min_three max_four min_four   -- for this text's walks alone
set_option linter.unusedVariables false
set_option linter.unusedSimpArgs false

/-! ### annealref1_inf: function 73 -/
def annealref1_inf.f (k : Nat) (a0 : Int) (a1 : Int) : Option (Bool) := (annealref1_Class.f k a0 a1).bind fun t682 => (some (t682 == 3))
set_option maxHeartbeats 8000000 in
set_option maxRecDepth 100000 in
theorem annealref1_inf.calls (k : Nat) (a0 : Int) (a1 : Int) (r : Bool) (w : World) (h : annealref1_inf.f k a0 a1 = some r) :
  Calls Try.prog 73 #[.int .i64 a0, .int .u32 a1] w fun e w' => e = .returned (.bool r) ∧ Drawn0 w w' := by
 have H : ((annealref1_Class.f k a0 a1).bind fun t682 => (some (t682 == 3))) = some r := h
 clear h
 replace H := Option.bind_eq_some_iff.mp H
 obtain ⟨t682, A30, H⟩ := H
 replace H : (some (t682 == 3)) = some r := H
 have A3 := Aside0.mk A30
 clear A30
 obtain rfl := Option.some.inj H
 go_enter Try.func73, Try.ntmps73
 go_wp2_with (first | ((with_reducible refine gate_callee (f := 96) rfl ?_); refine goesL_ (some 7) rfl rfl Try.func96 (by kernel_rfl) rfl #[.int .i64 a0, .int .u32 a1] rfl gl ?_; (with_reducible refine (annealref1_Class.calls k a0 a1 t682 _ A3.out).mono ?_); rintro e w' ⟨rfl, ⟨nd, rfl⟩⟩; refine ⟨_, rfl, ?_⟩))
 go_ret
 exact ⟨by first | rfl | (simp; done) | (simp [*]; done) | (congr 1; (try unfold wrap64); omega) | (congr 1; rw [IntKind.wrap_u64]; omega), by repeat (first | exact Drawn0.refl _ | apply Drawn0.step)⟩

end Go.Proofs.Ytngkpekmgahjiaa.P

-- Printed by a program of this session's out of Lean's print of the translation; Lean checks it.
namespace Go.Proofs.Ytngkpekmgahjiaa.P
open Go.RowKit Go.Proofs.YtngkpekmgahjiaaW.PrintWords Go.Proofs.YtngkpekmgahjiaaW.PrintLast Go.Proofs.YtngkpekmgahjiaaW.PrintMore
attribute [local go_sem] max2_int min2_int max_two min_two max_three min_three max_four min_four   -- for this text's walks alone
set_option linter.unusedVariables false
set_option linter.unusedSimpArgs false

/-! ### annealref1_Mul: function 41 -/
mutual
def annealref1_Mul.j0 : Nat → Int → Int → Int → Int → Bool → Bool → Option (Int × Bool × Bool × Bool × Bool × Bool)
 |0, _, _, _, _, _, _ => none
 |k + 1, x0, x1, x2, x3, x12, x56 => if x56 = true then ((annealref1_Nan.f x0).bind fun t823 => (some (t823, true, false, false, false, false))) else ((annealref1_inf.f k x0 x2).bind fun t824 => (if t824 = true then (annealref1_Mul.j1 k x0 x1 x2 x3 x12 true) else ((annealref1_inf.f k x0 x3).bind fun t825 => (annealref1_Mul.j1 k x0 x1 x2 x3 x12 t825))))
def annealref1_Mul.j1 : Nat → Int → Int → Int → Int → Bool → Bool → Option (Int × Bool × Bool × Bool × Bool × Bool)
 |0, _, _, _, _, _, _ => none
 |k + 1, x0, x1, x2, x3, x12, x67 => if x67 = true then ((annealref1_Inf.f x0 x12).bind fun t826 => (some (t826, false, false, false, false, false))) else ((annealref1_Unpack.f k x0 x2).bind fun bt827 => ((annealref1_Unpack.f k x0 x3).bind fun bt830 => ((annealref1_Pack.f k x0 x1 x12 (wrap64 (bt827.2.1 + bt830.2.1)) (IntKind.u64.wrap (bt827.2.2 * bt830.2.2)) false).bind fun bt833 => (some (bt833.1, bt833.2.1, bt833.2.2.1, bt833.2.2.2.1, bt833.2.2.2.2.1, bt833.2.2.2.2.2)))))
end
def annealref1_Mul.f (k : Nat) (a0 : Int) (a1 : Int) (a2 : Int) (a3 : Int) : Option (Int × Bool × Bool × Bool × Bool × Bool) := (annealref1_nans.f k a0 (([a2, a3] : List Int))).bind fun bt812 => (if bt812.1 = true then ((annealref1_Nan.f a0).bind fun t814 => (some (t814, bt812.2, false, false, false, false))) else ((annealref1_neg.f a0 a2).bind fun t815 => ((annealref1_neg.f a0 a3).bind fun t816 => ((annealref1_zero.f k a0 a2).bind fun t817 => (if t817 = true then ((annealref1_inf.f k a0 a3).bind fun t818 => (if t818 = true then (annealref1_Mul.j0 k a0 a1 a2 a3 (t815 != t816) true) else ((annealref1_inf.f k a0 a2).bind fun t819 => (if t819 = true then ((annealref1_zero.f k a0 a3).bind fun t820 => (annealref1_Mul.j0 k a0 a1 a2 a3 (t815 != t816) t820)) else (annealref1_Mul.j0 k a0 a1 a2 a3 (t815 != t816) false))))) else ((annealref1_inf.f k a0 a2).bind fun t821 => (if t821 = true then ((annealref1_zero.f k a0 a3).bind fun t822 => (annealref1_Mul.j0 k a0 a1 a2 a3 (t815 != t816) t822)) else (annealref1_Mul.j0 k a0 a1 a2 a3 (t815 != t816) false))))))))
set_option maxHeartbeats 8000000 in
set_option maxRecDepth 100000 in
theorem annealref1_Mul.calls (k : Nat) (a0 : Int) (a1 : Int) (a2 : Int) (a3 : Int) (r1 : Int) (r2 : Bool) (r3 : Bool) (r4 : Bool) (r5 : Bool) (r6 : Bool) (w : World) (h : annealref1_Mul.f k a0 a1 a2 a3 = some (r1, r2, r3, r4, r5, r6)) :
  Calls Try.prog 41 #[.int .i64 a0, .int .i64 a1, .int .u32 a2, .int .u32 a3] w fun e w' => e = .returned (.tuple #[.int .u32 r1, .agg #[.bool r2, .bool r3, .bool r4, .bool r5, .bool r6]]) ∧ Below w.heap.size w w' := by
 have hu41 := Try.underlying41
 have HB := Aside0.mk (Below.refl w.heap.size w)
 have H : ((annealref1_nans.f k a0 (([a2, a3] : List Int))).bind fun bt812 => (if bt812.1 = true then ((annealref1_Nan.f a0).bind fun t814 => (some (t814, bt812.2, false, false, false, false))) else ((annealref1_neg.f a0 a2).bind fun t815 => ((annealref1_neg.f a0 a3).bind fun t816 => ((annealref1_zero.f k a0 a2).bind fun t817 => (if t817 = true then ((annealref1_inf.f k a0 a3).bind fun t818 => (if t818 = true then (annealref1_Mul.j0 k a0 a1 a2 a3 (t815 != t816) true) else ((annealref1_inf.f k a0 a2).bind fun t819 => (if t819 = true then ((annealref1_zero.f k a0 a3).bind fun t820 => (annealref1_Mul.j0 k a0 a1 a2 a3 (t815 != t816) t820)) else (annealref1_Mul.j0 k a0 a1 a2 a3 (t815 != t816) false))))) else ((annealref1_inf.f k a0 a2).bind fun t821 => (if t821 = true then ((annealref1_zero.f k a0 a3).bind fun t822 => (annealref1_Mul.j0 k a0 a1 a2 a3 (t815 != t816) t822)) else (annealref1_Mul.j0 k a0 a1 a2 a3 (t815 != t816) false))))))))) = some (r1, r2, r3, r4, r5, r6) := h
 clear h
 obtain ⟨y809, hy809⟩ : ∃ y_ : List Int, y_ = (([a2, a3] : List Int)) := ⟨_, rfl⟩
 replace H : ((annealref1_nans.f k a0 y809).bind fun bt812 => (if bt812.1 = true then ((annealref1_Nan.f a0).bind fun t814 => (some (t814, bt812.2, false, false, false, false))) else ((annealref1_neg.f a0 a2).bind fun t815 => ((annealref1_neg.f a0 a3).bind fun t816 => ((annealref1_zero.f k a0 a2).bind fun t817 => (if t817 = true then ((annealref1_inf.f k a0 a3).bind fun t818 => (if t818 = true then (annealref1_Mul.j0 k a0 a1 a2 a3 (t815 != t816) true) else ((annealref1_inf.f k a0 a2).bind fun t819 => (if t819 = true then ((annealref1_zero.f k a0 a3).bind fun t820 => (annealref1_Mul.j0 k a0 a1 a2 a3 (t815 != t816) t820)) else (annealref1_Mul.j0 k a0 a1 a2 a3 (t815 != t816) false))))) else ((annealref1_inf.f k a0 a2).bind fun t821 => (if t821 = true then ((annealref1_zero.f k a0 a3).bind fun t822 => (annealref1_Mul.j0 k a0 a1 a2 a3 (t815 != t816) t822)) else (annealref1_Mul.j0 k a0 a1 a2 a3 (t815 != t816) false))))))))) = some (r1, r2, r3, r4, r5, r6) := by first | (rw [hy809]; with_reducible exact H) | (have H2_ := (Option.bind_some _ _).symm.trans H; rw [hy809]; with_reducible exact H2_) | (have H2_ := (Option.bind_some _ _).symm.trans H; with_reducible exact H2_) | with_reducible exact H | (rw [hy809]; exact H) | exact H
 have Ny809 := Aside0.mk hy809
 clear hy809
 replace H := Option.bind_eq_some_iff.mp H
 obtain ⟨⟨t812, t813⟩, A50, H⟩ := H
 replace H : (if t812 = true then ((annealref1_Nan.f a0).bind fun t814 => (some (t814, t813, false, false, false, false))) else ((annealref1_neg.f a0 a2).bind fun t815 => ((annealref1_neg.f a0 a3).bind fun t816 => ((annealref1_zero.f k a0 a2).bind fun t817 => (if t817 = true then ((annealref1_inf.f k a0 a3).bind fun t818 => (if t818 = true then (annealref1_Mul.j0 k a0 a1 a2 a3 (t815 != t816) true) else ((annealref1_inf.f k a0 a2).bind fun t819 => (if t819 = true then ((annealref1_zero.f k a0 a3).bind fun t820 => (annealref1_Mul.j0 k a0 a1 a2 a3 (t815 != t816) t820)) else (annealref1_Mul.j0 k a0 a1 a2 a3 (t815 != t816) false))))) else ((annealref1_inf.f k a0 a2).bind fun t821 => (if t821 = true then ((annealref1_zero.f k a0 a3).bind fun t822 => (annealref1_Mul.j0 k a0 a1 a2 a3 (t815 != t816) t822)) else (annealref1_Mul.j0 k a0 a1 a2 a3 (t815 != t816) false)))))))) = some (r1, r2, r3, r4, r5, r6) := H
 have A5 := Aside0.mk A50
 clear A50
 by_cases c6 : t812 = true
 ·subst c6
  have H1 : ((annealref1_Nan.f a0).bind fun t814 => (some (t814, t813, false, false, false, false))) = some (r1, r2, r3, r4, r5, r6) := by rw [if_pos rfl] at H; exact H
  clear H
  have H := H1
  clear H1
  replace H := Option.bind_eq_some_iff.mp H
  obtain ⟨t814, A70, H⟩ := H
  replace H : (some (t814, t813, false, false, false, false)) = some (r1, r2, r3, r4, r5, r6) := H
  have A7 := Aside0.mk A70
  clear A70
  simp only [Option.some.injEq, Prod.mk.injEq] at H
  obtain ⟨rfl, rfl, rfl, rfl, rfl, rfl⟩ := H
  go_enter Try.func41, Try.ntmps41
  go_wp2_with (first | ((with_reducible refine gate_dst (N := 9) rfl ?_); refine box_event ?hg (N := 9) ?hd (cs := F5) (t := 41) ?hr ?_; (case hd => rfl); (case hg => rfl); (case hr => first | (go_simp; done) | (go_simp; rfl)); intro gb808 hg w8 hbox hb; have n0_ := Aside0.mk (below_step (bl0 HB.out) hb); have n1_ := Aside0.mk (hbox); have n2_ := Aside0.mk ((by rw [hg]; exact (below_size (bl0 HB.out)) : w.heap.size ≤ gb808)); have n3_ := Aside0.mk ((by rw [hg]; exact (below_size (bl0 HB.out)) : w.heap.size ≤ gb808)); clear HB; have HB := n0_; have BK808 := n1_; have GW808 := n2_; have GE808 := n3_; clear n0_ n1_ n2_ n3_; clear hb hbox hg) | ((with_reducible refine gate_dst (N := 23) rfl ?_); refine Kd.R_lit (Kd.int .u32) _ 22 ?hg (N := 23) ?hd (xs := ([a2, a3] : List Int)) (inner := [.int .u32 a2, .int .u32 a3]) (ok := fun _ => True) (okp := fun _ => True) ?hr ?hp (fun _ hk => hk) trivial (Below.refl _ _) (Nat.le_refl _) (by simp) ?_; (case hd => rfl); (case hg => rfl); (case hr => first | (go_simp; done) | (go_simp; rfl)); (case hp => exact (Reps.one (show Kd.M (Kd.int .u32) _ _ _ a2 [.int .u32 a2] from rfl) (Reps.one (show Kd.M (Kd.int .u32) _ _ _ a3 [.int .u32 a3] from rfl) (Reps.none _ _)))); intro v810 w9 ho10 hb hg_ hnew_; clear hg_ hnew_; (first | rw [← Ny809.out] at ho10 | (simp only [Int.reduceToNat] at ho10; rw [← Ny809.out] at ho10)); have n0_ := Aside0.mk (Kd.R_lower ho10 (below_size (bl1 HB.out GE808.out))); have n1_ := Aside0.mk (blk_below (g := gb808) (o := .cells #[.bool false, .bool false, .bool false, .bool false, .bool false] 41 (0, 0)) (bv BK808.out) hb); have n2_ := Aside0.mk (below_step (bl1 HB.out GE808.out) hb); clear BK808; clear HB; have HO811 := n0_; have BK808 := n1_; have HB := n2_; clear n0_ n1_ n2_; clear hb ho10; obtain ⟨Ao11, co11, eo11⟩ := Kd.R_slice HO811.out; subst eo11) | ((with_reducible refine gate_callee (f := 57) rfl ?_); refine goesL_ (some 24) rfl rfl Try.func57 (by kernel_rfl) rfl #[.int .i64 a0, .slice Ao11 y809.length co11] rfl gl ?_; (with_reducible refine (annealref1_nans.calls k a0 _ _ y809 true t813 _ ?side1 ?side2 A5.out).mono ?_); (case side1 => repeat (first | exact (Kd.R_reads' HO811.out).2.2 | (with_reducible refine Kd.C_alloc ?_ _) | (with_reducible refine Kd.C_drewN ?_ _) | (with_reducible refine Kd.C_drew ?_))); (case side2 => exact (Kd.R_reads' HO811.out).2.1); rintro e w' ⟨rfl, ⟨nd, rfl⟩⟩; refine ⟨_, rfl, ?_⟩; (try (rw [drewN_self w9]; generalize hq_ : World.drewN w9 _ = w9; have n0_ : Aside0 (Kd.R (Kd.int .u32) 22 w9 w.heap.size (fun _ => True) (.slice Ao11 y809.length co11) y809) := ⟨by rw [← hq_]; exact (by (with_reducible repeat (first | apply Kd.R_alloc | apply Kd.R_drewN | apply Kd.R_drew)); exact HO811.out)⟩; have n1_ : Aside0 (w9.heap[gb808]? = some (.cells #[.bool false, .bool false, .bool false, .bool false, .bool false] 41 (0, 0))) := ⟨by rw [← hq_]; exact (bv BK808.out)⟩; have n2_ : Aside0 (Below w.heap.size w w9) := ⟨by rw [← hq_]; exact (bl1 HB.out GE808.out)⟩; clear HO811 BK808 HB hq_; have HO811 := n0_; have BK808 := n1_; have HB := n2_; clear n0_ n1_ n2_))) | ((with_reducible refine gate_callee (f := 43) rfl ?_); refine goesL_ (some 29) rfl rfl Try.func43 (by kernel_rfl) rfl #[.int .i64 a0] rfl gl ?_; (with_reducible refine (annealref1_Nan.calls a0 t814 _ A7.out).mono ?_); rintro e w' ⟨rfl, ⟨nd, rfl⟩⟩; refine ⟨_, rfl, ?_⟩; (try (rw [drewN_self w9]; generalize hq_ : World.drewN w9 _ = w9; have n0_ : Aside0 (Kd.R (Kd.int .u32) 22 w9 w.heap.size (fun _ => True) (.slice Ao11 y809.length co11) y809) := ⟨by rw [← hq_]; exact (by (with_reducible repeat (first | apply Kd.R_alloc | apply Kd.R_drewN | apply Kd.R_drew)); exact HO811.out)⟩; have n1_ : Aside0 (w9.heap[gb808]? = some (.cells #[.bool false, .bool false, .bool false, .bool false, .bool false] 41 (0, 0))) := ⟨by rw [← hq_]; exact (bv BK808.out)⟩; have n2_ : Aside0 (Below w.heap.size w w9) := ⟨by rw [← hq_]; exact (bl1 HB.out GE808.out)⟩; clear HO811 BK808 HB hq_; have HO811 := n0_; have BK808 := n1_; have HB := n2_; clear n0_ n1_ n2_)); obtain ⟨hcz12_0, hcz12_1, hcz12_2, hcz12_3, hcz12_4⟩ := bc5 BK808.out; obtain ⟨hfz12_0, hfz12_1, hfz12_2, hfz12_3, hfz12_4⟩ := bf5 BK808.out))
  refine bodyPost_ret (results_tc rfl _ _ gb808 41 #[.bool t813, .bool false, .bool false, .bool false, .bool false] (0, 0) _ rfl (by (with_reducible repeat (first | refine blk_drewN ?_ _ | refine blk_drew ?_ | refine blk_alloc ?_ _)); refine blk_put (cs := #[.bool t813, .bool false, .bool false, .bool false, .bool false]) ?_ 4 _ rfl; (with_reducible repeat (first | refine blk_drewN ?_ _ | refine blk_drew ?_ | refine blk_alloc ?_ _)); refine blk_put (cs := #[.bool t813, .bool false, .bool false, .bool false, .bool false]) ?_ 3 _ rfl; (with_reducible repeat (first | refine blk_drewN ?_ _ | refine blk_drew ?_ | refine blk_alloc ?_ _)); refine blk_put (cs := #[.bool t813, .bool false, .bool false, .bool false, .bool false]) ?_ 2 _ rfl; (with_reducible repeat (first | refine blk_drewN ?_ _ | refine blk_drew ?_ | refine blk_alloc ?_ _)); refine blk_put (cs := #[.bool t813, .bool false, .bool false, .bool false, .bool false]) ?_ 1 _ rfl; (with_reducible repeat (first | refine blk_drewN ?_ _ | refine blk_drew ?_ | refine blk_alloc ?_ _)); refine blk_put (cs := F5) ?_ 0 _ rfl; (with_reducible repeat (first | refine blk_drewN ?_ _ | refine blk_drew ?_ | refine blk_alloc ?_ _)); exact BK808.out) Try.underlying41 rfl (by kernel_rfl)) rfl ?_
  exact ⟨by first | rfl | (simp [errW_none, errW_some] <;> rfl) | (simp [*, errW_none, errW_some] <;> rfl), bl1 HB.out GE808.out⟩
 ·replace c6 := Bool.eq_false_iff.mpr c6
  subst c6
  have H1 : ((annealref1_neg.f a0 a2).bind fun t815 => ((annealref1_neg.f a0 a3).bind fun t816 => ((annealref1_zero.f k a0 a2).bind fun t817 => (if t817 = true then ((annealref1_inf.f k a0 a3).bind fun t818 => (if t818 = true then (annealref1_Mul.j0 k a0 a1 a2 a3 (t815 != t816) true) else ((annealref1_inf.f k a0 a2).bind fun t819 => (if t819 = true then ((annealref1_zero.f k a0 a3).bind fun t820 => (annealref1_Mul.j0 k a0 a1 a2 a3 (t815 != t816) t820)) else (annealref1_Mul.j0 k a0 a1 a2 a3 (t815 != t816) false))))) else ((annealref1_inf.f k a0 a2).bind fun t821 => (if t821 = true then ((annealref1_zero.f k a0 a3).bind fun t822 => (annealref1_Mul.j0 k a0 a1 a2 a3 (t815 != t816) t822)) else (annealref1_Mul.j0 k a0 a1 a2 a3 (t815 != t816) false))))))) = some (r1, r2, r3, r4, r5, r6) := by rw [if_neg (show ¬ (false = true) by decide)] at H; exact H
  clear H
  have H := H1
  clear H1
  replace H := Option.bind_eq_some_iff.mp H
  obtain ⟨t815, A130, H⟩ := H
  replace H : ((annealref1_neg.f a0 a3).bind fun t816 => ((annealref1_zero.f k a0 a2).bind fun t817 => (if t817 = true then ((annealref1_inf.f k a0 a3).bind fun t818 => (if t818 = true then (annealref1_Mul.j0 k a0 a1 a2 a3 (t815 != t816) true) else ((annealref1_inf.f k a0 a2).bind fun t819 => (if t819 = true then ((annealref1_zero.f k a0 a3).bind fun t820 => (annealref1_Mul.j0 k a0 a1 a2 a3 (t815 != t816) t820)) else (annealref1_Mul.j0 k a0 a1 a2 a3 (t815 != t816) false))))) else ((annealref1_inf.f k a0 a2).bind fun t821 => (if t821 = true then ((annealref1_zero.f k a0 a3).bind fun t822 => (annealref1_Mul.j0 k a0 a1 a2 a3 (t815 != t816) t822)) else (annealref1_Mul.j0 k a0 a1 a2 a3 (t815 != t816) false)))))) = some (r1, r2, r3, r4, r5, r6) := H
  have A13 := Aside0.mk A130
  clear A130
  replace H := Option.bind_eq_some_iff.mp H
  obtain ⟨t816, A140, H⟩ := H
  replace H : ((annealref1_zero.f k a0 a2).bind fun t817 => (if t817 = true then ((annealref1_inf.f k a0 a3).bind fun t818 => (if t818 = true then (annealref1_Mul.j0 k a0 a1 a2 a3 (t815 != t816) true) else ((annealref1_inf.f k a0 a2).bind fun t819 => (if t819 = true then ((annealref1_zero.f k a0 a3).bind fun t820 => (annealref1_Mul.j0 k a0 a1 a2 a3 (t815 != t816) t820)) else (annealref1_Mul.j0 k a0 a1 a2 a3 (t815 != t816) false))))) else ((annealref1_inf.f k a0 a2).bind fun t821 => (if t821 = true then ((annealref1_zero.f k a0 a3).bind fun t822 => (annealref1_Mul.j0 k a0 a1 a2 a3 (t815 != t816) t822)) else (annealref1_Mul.j0 k a0 a1 a2 a3 (t815 != t816) false))))) = some (r1, r2, r3, r4, r5, r6) := H
  have A14 := Aside0.mk A140
  clear A140
  have HC15 := Aside0.mk H
  clear H
  go_enter Try.func41, Try.ntmps41
  go_upto_region 5 with (first | ((with_reducible refine gate_dst (N := 9) rfl ?_); refine box_event ?hg (N := 9) ?hd (cs := F5) (t := 41) ?hr ?_; (case hd => rfl); (case hg => rfl); (case hr => first | (go_simp; done) | (go_simp; rfl)); intro gb808 hg w16 hbox hb; have n0_ := Aside0.mk (below_step (bl0 HB.out) hb); have n1_ := Aside0.mk (hbox); have n2_ := Aside0.mk ((by rw [hg]; exact (below_size (bl0 HB.out)) : w.heap.size ≤ gb808)); have n3_ := Aside0.mk ((by rw [hg]; exact (below_size (bl0 HB.out)) : w.heap.size ≤ gb808)); clear HB; have HB := n0_; have BK808 := n1_; have GW808 := n2_; have GE808 := n3_; clear n0_ n1_ n2_ n3_; clear hb hbox hg) | ((with_reducible refine gate_dst (N := 23) rfl ?_); refine Kd.R_lit (Kd.int .u32) _ 22 ?hg (N := 23) ?hd (xs := ([a2, a3] : List Int)) (inner := [.int .u32 a2, .int .u32 a3]) (ok := fun _ => True) (okp := fun _ => True) ?hr ?hp (fun _ hk => hk) trivial (Below.refl _ _) (Nat.le_refl _) (by simp) ?_; (case hd => rfl); (case hg => rfl); (case hr => first | (go_simp; done) | (go_simp; rfl)); (case hp => exact (Reps.one (show Kd.M (Kd.int .u32) _ _ _ a2 [.int .u32 a2] from rfl) (Reps.one (show Kd.M (Kd.int .u32) _ _ _ a3 [.int .u32 a3] from rfl) (Reps.none _ _)))); intro v810 w17 ho18 hb hg_ hnew_; clear hg_ hnew_; (first | rw [← Ny809.out] at ho18 | (simp only [Int.reduceToNat] at ho18; rw [← Ny809.out] at ho18)); have n0_ := Aside0.mk (Kd.R_lower ho18 (below_size (bl1 HB.out GE808.out))); have n1_ := Aside0.mk (blk_below (g := gb808) (o := .cells #[.bool false, .bool false, .bool false, .bool false, .bool false] 41 (0, 0)) (bv BK808.out) hb); have n2_ := Aside0.mk (below_step (bl1 HB.out GE808.out) hb); clear BK808; clear HB; have HO811 := n0_; have BK808 := n1_; have HB := n2_; clear n0_ n1_ n2_; clear hb ho18; obtain ⟨Ao19, co19, eo19⟩ := Kd.R_slice HO811.out; subst eo19) | ((with_reducible refine gate_callee (f := 57) rfl ?_); refine goesL_ (some 24) rfl rfl Try.func57 (by kernel_rfl) rfl #[.int .i64 a0, .slice Ao19 y809.length co19] rfl gl ?_; (with_reducible refine (annealref1_nans.calls k a0 _ _ y809 false t813 _ ?side1 ?side2 A5.out).mono ?_); (case side1 => repeat (first | exact (Kd.R_reads' HO811.out).2.2 | (with_reducible refine Kd.C_alloc ?_ _) | (with_reducible refine Kd.C_drewN ?_ _) | (with_reducible refine Kd.C_drew ?_))); (case side2 => exact (Kd.R_reads' HO811.out).2.1); rintro e w' ⟨rfl, ⟨nd, rfl⟩⟩; refine ⟨_, rfl, ?_⟩) | ((with_reducible refine gate_callee (f := 71) rfl ?_); refine goesL_ (some 34) rfl rfl Try.func71 (by kernel_rfl) rfl #[.int .i64 a0, .int .u32 a2] rfl gl ?_; (with_reducible refine (annealref1_neg.calls a0 a2 t815 _ A13.out).mono ?_); rintro e w' ⟨rfl, ⟨nd, rfl⟩⟩; refine ⟨_, rfl, ?_⟩) | ((with_reducible refine gate_callee (f := 71) rfl ?_); refine goesL_ (some 37) rfl rfl Try.func71 (by kernel_rfl) rfl #[.int .i64 a0, .int .u32 a3] rfl gl ?_; (with_reducible refine (annealref1_neg.calls a0 a3 t816 _ A14.out).mono ?_); rintro e w' ⟨rfl, ⟨nd, rfl⟩⟩; refine ⟨_, rfl, ?_⟩))
  (try simp only [Act.put, List.setIfInBounds_toArray, List.set_cons_zero, List.set_cons_succ])
  go_cut [56] (fun v56 wc => ∃ (kq : Nat) (x56_14 : Bool), v56 = .bool x56_14 ∧ Aside0 (annealref1_Mul.j0 kq a0 a1 a2 a3 (t815 != t816) x56_14 = some (r1, r2, r3, r4, r5, r6)) ∧ Aside0 (kq ≤ k) ∧ Aside0 (wc.heap[gb808]? = some (.cells #[.bool false, .bool false, .bool false, .bool false, .bool false] 41 (0, 0))) ∧ Aside0 (Below w.heap.size w wc))
  case first =>
   have H := HC15.out
   clear HC15
   replace H := Option.bind_eq_some_iff.mp H
   obtain ⟨t817, A200, H⟩ := H
   replace H : (if t817 = true then ((annealref1_inf.f k a0 a3).bind fun t818 => (if t818 = true then (annealref1_Mul.j0 k a0 a1 a2 a3 (t815 != t816) true) else ((annealref1_inf.f k a0 a2).bind fun t819 => (if t819 = true then ((annealref1_zero.f k a0 a3).bind fun t820 => (annealref1_Mul.j0 k a0 a1 a2 a3 (t815 != t816) t820)) else (annealref1_Mul.j0 k a0 a1 a2 a3 (t815 != t816) false))))) else ((annealref1_inf.f k a0 a2).bind fun t821 => (if t821 = true then ((annealref1_zero.f k a0 a3).bind fun t822 => (annealref1_Mul.j0 k a0 a1 a2 a3 (t815 != t816) t822)) else (annealref1_Mul.j0 k a0 a1 a2 a3 (t815 != t816) false)))) = some (r1, r2, r3, r4, r5, r6) := H
   have A20 := Aside0.mk A200
   clear A200
   by_cases c21 : t817 = true
   ·subst c21
    have H1 : ((annealref1_inf.f k a0 a3).bind fun t818 => (if t818 = true then (annealref1_Mul.j0 k a0 a1 a2 a3 (t815 != t816) true) else ((annealref1_inf.f k a0 a2).bind fun t819 => (if t819 = true then ((annealref1_zero.f k a0 a3).bind fun t820 => (annealref1_Mul.j0 k a0 a1 a2 a3 (t815 != t816) t820)) else (annealref1_Mul.j0 k a0 a1 a2 a3 (t815 != t816) false))))) = some (r1, r2, r3, r4, r5, r6) := by rw [if_pos rfl] at H; exact H
    clear H
    have H := H1
    clear H1
    replace H := Option.bind_eq_some_iff.mp H
    obtain ⟨t818, A220, H⟩ := H
    replace H : (if t818 = true then (annealref1_Mul.j0 k a0 a1 a2 a3 (t815 != t816) true) else ((annealref1_inf.f k a0 a2).bind fun t819 => (if t819 = true then ((annealref1_zero.f k a0 a3).bind fun t820 => (annealref1_Mul.j0 k a0 a1 a2 a3 (t815 != t816) t820)) else (annealref1_Mul.j0 k a0 a1 a2 a3 (t815 != t816) false)))) = some (r1, r2, r3, r4, r5, r6) := H
    have A22 := Aside0.mk A220
    clear A220
    by_cases c23 : t818 = true
    ·subst c23
     have H1 : (annealref1_Mul.j0 k a0 a1 a2 a3 (t815 != t816) true) = some (r1, r2, r3, r4, r5, r6) := by rw [if_pos rfl] at H; exact H
     clear H
     have H := H1
     clear H1
     have H' := Aside0.mk H
     clear H
     go_wp2_with (first | ((with_reducible refine gate_callee (f := 72) rfl ?_); refine goesL_ (some 41) rfl rfl Try.func72 (by kernel_rfl) rfl #[.int .i64 a0, .int .u32 a2] rfl gl ?_; (with_reducible refine (annealref1_zero.calls k a0 a2 true _ A20.out).mono ?_); rintro e w' ⟨rfl, ⟨nd, rfl⟩⟩; refine ⟨_, rfl, ?_⟩) | (go_at_call 73; (with_reducible refine (annealref1_inf.calls k a0 a3 true _ A22.out).mono ?_); rintro e w' ⟨rfl, ⟨nd, rfl⟩⟩))
     go_meet
     case rel => exact ⟨_, (true), (by first | rfl | (simp; done) | (simp [*]; done) | (congr 1; (try unfold wrap64); omega) | (congr 1; rw [IntKind.wrap_u64]; omega)), H', ⟨by first | omega | exact Nat.le_refl _⟩, ⟨by (with_reducible repeat (first | refine blk_drewN ?_ _ | refine blk_drew ?_ | refine blk_alloc ?_ _)); exact BK808.out⟩, ⟨bl1 HB.out GE808.out⟩⟩
    ·replace c23 := Bool.eq_false_iff.mpr c23
     subst c23
     have H1 : ((annealref1_inf.f k a0 a2).bind fun t819 => (if t819 = true then ((annealref1_zero.f k a0 a3).bind fun t820 => (annealref1_Mul.j0 k a0 a1 a2 a3 (t815 != t816) t820)) else (annealref1_Mul.j0 k a0 a1 a2 a3 (t815 != t816) false))) = some (r1, r2, r3, r4, r5, r6) := by rw [if_neg (show ¬ (false = true) by decide)] at H; exact H
     clear H
     have H := H1
     clear H1
     replace H := Option.bind_eq_some_iff.mp H
     obtain ⟨t819, A240, H⟩ := H
     replace H : (if t819 = true then ((annealref1_zero.f k a0 a3).bind fun t820 => (annealref1_Mul.j0 k a0 a1 a2 a3 (t815 != t816) t820)) else (annealref1_Mul.j0 k a0 a1 a2 a3 (t815 != t816) false)) = some (r1, r2, r3, r4, r5, r6) := H
     have A24 := Aside0.mk A240
     clear A240
     by_cases c25 : t819 = true
     ·subst c25
      have H1 : ((annealref1_zero.f k a0 a3).bind fun t820 => (annealref1_Mul.j0 k a0 a1 a2 a3 (t815 != t816) t820)) = some (r1, r2, r3, r4, r5, r6) := by rw [if_pos rfl] at H; exact H
      clear H
      have H := H1
      clear H1
      replace H := Option.bind_eq_some_iff.mp H
      obtain ⟨t820, A260, H⟩ := H
      replace H : (annealref1_Mul.j0 k a0 a1 a2 a3 (t815 != t816) t820) = some (r1, r2, r3, r4, r5, r6) := H
      have A26 := Aside0.mk A260
      clear A260
      have H' := Aside0.mk H
      clear H
      go_wp2_with (first | ((with_reducible refine gate_callee (f := 72) rfl ?_); refine goesL_ (some 41) rfl rfl Try.func72 (by kernel_rfl) rfl #[.int .i64 a0, .int .u32 a2] rfl gl ?_; (with_reducible refine (annealref1_zero.calls k a0 a2 true _ A20.out).mono ?_); rintro e w' ⟨rfl, ⟨nd, rfl⟩⟩; refine ⟨_, rfl, ?_⟩) | (go_at_call 73; (with_reducible refine (annealref1_inf.calls k a0 a3 false _ A22.out).mono ?_); rintro e w' ⟨rfl, ⟨nd, rfl⟩⟩) | (go_at_call 73; (with_reducible refine (annealref1_inf.calls k a0 a2 true _ A24.out).mono ?_); rintro e w' ⟨rfl, ⟨nd, rfl⟩⟩) | (go_at_call 72; (with_reducible refine (annealref1_zero.calls k a0 a3 t820 _ A26.out).mono ?_); rintro e w' ⟨rfl, ⟨nd, rfl⟩⟩))
      go_meet
      case rel => exact ⟨_, (t820), (by first | rfl | (simp; done) | (simp [*]; done) | (congr 1; (try unfold wrap64); omega) | (congr 1; rw [IntKind.wrap_u64]; omega)), H', ⟨by first | omega | exact Nat.le_refl _⟩, ⟨by (with_reducible repeat (first | refine blk_drewN ?_ _ | refine blk_drew ?_ | refine blk_alloc ?_ _)); exact BK808.out⟩, ⟨bl1 HB.out GE808.out⟩⟩
     ·replace c25 := Bool.eq_false_iff.mpr c25
      subst c25
      have H1 : (annealref1_Mul.j0 k a0 a1 a2 a3 (t815 != t816) false) = some (r1, r2, r3, r4, r5, r6) := by rw [if_neg (show ¬ (false = true) by decide)] at H; exact H
      clear H
      have H := H1
      clear H1
      have H' := Aside0.mk H
      clear H
      go_wp2_with (first | ((with_reducible refine gate_callee (f := 72) rfl ?_); refine goesL_ (some 41) rfl rfl Try.func72 (by kernel_rfl) rfl #[.int .i64 a0, .int .u32 a2] rfl gl ?_; (with_reducible refine (annealref1_zero.calls k a0 a2 true _ A20.out).mono ?_); rintro e w' ⟨rfl, ⟨nd, rfl⟩⟩; refine ⟨_, rfl, ?_⟩) | (go_at_call 73; (with_reducible refine (annealref1_inf.calls k a0 a3 false _ A22.out).mono ?_); rintro e w' ⟨rfl, ⟨nd, rfl⟩⟩) | (go_at_call 73; (with_reducible refine (annealref1_inf.calls k a0 a2 false _ A24.out).mono ?_); rintro e w' ⟨rfl, ⟨nd, rfl⟩⟩))
      go_meet
      case rel => exact ⟨_, (false), (by first | rfl | (simp; done) | (simp [*]; done) | (congr 1; (try unfold wrap64); omega) | (congr 1; rw [IntKind.wrap_u64]; omega)), H', ⟨by first | omega | exact Nat.le_refl _⟩, ⟨by (with_reducible repeat (first | refine blk_drewN ?_ _ | refine blk_drew ?_ | refine blk_alloc ?_ _)); exact BK808.out⟩, ⟨bl1 HB.out GE808.out⟩⟩
   ·replace c21 := Bool.eq_false_iff.mpr c21
    subst c21
    have H1 : ((annealref1_inf.f k a0 a2).bind fun t821 => (if t821 = true then ((annealref1_zero.f k a0 a3).bind fun t822 => (annealref1_Mul.j0 k a0 a1 a2 a3 (t815 != t816) t822)) else (annealref1_Mul.j0 k a0 a1 a2 a3 (t815 != t816) false))) = some (r1, r2, r3, r4, r5, r6) := by rw [if_neg (show ¬ (false = true) by decide)] at H; exact H
    clear H
    have H := H1
    clear H1
    replace H := Option.bind_eq_some_iff.mp H
    obtain ⟨t821, A270, H⟩ := H
    replace H : (if t821 = true then ((annealref1_zero.f k a0 a3).bind fun t822 => (annealref1_Mul.j0 k a0 a1 a2 a3 (t815 != t816) t822)) else (annealref1_Mul.j0 k a0 a1 a2 a3 (t815 != t816) false)) = some (r1, r2, r3, r4, r5, r6) := H
    have A27 := Aside0.mk A270
    clear A270
    by_cases c28 : t821 = true
    ·subst c28
     have H1 : ((annealref1_zero.f k a0 a3).bind fun t822 => (annealref1_Mul.j0 k a0 a1 a2 a3 (t815 != t816) t822)) = some (r1, r2, r3, r4, r5, r6) := by rw [if_pos rfl] at H; exact H
     clear H
     have H := H1
     clear H1
     replace H := Option.bind_eq_some_iff.mp H
     obtain ⟨t822, A290, H⟩ := H
     replace H : (annealref1_Mul.j0 k a0 a1 a2 a3 (t815 != t816) t822) = some (r1, r2, r3, r4, r5, r6) := H
     have A29 := Aside0.mk A290
     clear A290
     have H' := Aside0.mk H
     clear H
     go_wp2_with (first | ((with_reducible refine gate_callee (f := 72) rfl ?_); refine goesL_ (some 41) rfl rfl Try.func72 (by kernel_rfl) rfl #[.int .i64 a0, .int .u32 a2] rfl gl ?_; (with_reducible refine (annealref1_zero.calls k a0 a2 false _ A20.out).mono ?_); rintro e w' ⟨rfl, ⟨nd, rfl⟩⟩; refine ⟨_, rfl, ?_⟩) | (go_at_call 73; (with_reducible refine (annealref1_inf.calls k a0 a2 true _ A27.out).mono ?_); rintro e w' ⟨rfl, ⟨nd, rfl⟩⟩) | (go_at_call 72; (with_reducible refine (annealref1_zero.calls k a0 a3 t822 _ A29.out).mono ?_); rintro e w' ⟨rfl, ⟨nd, rfl⟩⟩))
     go_meet
     case rel => exact ⟨_, (t822), (by first | rfl | (simp; done) | (simp [*]; done) | (congr 1; (try unfold wrap64); omega) | (congr 1; rw [IntKind.wrap_u64]; omega)), H', ⟨by first | omega | exact Nat.le_refl _⟩, ⟨by (with_reducible repeat (first | refine blk_drewN ?_ _ | refine blk_drew ?_ | refine blk_alloc ?_ _)); exact BK808.out⟩, ⟨bl1 HB.out GE808.out⟩⟩
    ·replace c28 := Bool.eq_false_iff.mpr c28
     subst c28
     have H1 : (annealref1_Mul.j0 k a0 a1 a2 a3 (t815 != t816) false) = some (r1, r2, r3, r4, r5, r6) := by rw [if_neg (show ¬ (false = true) by decide)] at H; exact H
     clear H
     have H := H1
     clear H1
     have H' := Aside0.mk H
     clear H
     go_wp2_with (first | ((with_reducible refine gate_callee (f := 72) rfl ?_); refine goesL_ (some 41) rfl rfl Try.func72 (by kernel_rfl) rfl #[.int .i64 a0, .int .u32 a2] rfl gl ?_; (with_reducible refine (annealref1_zero.calls k a0 a2 false _ A20.out).mono ?_); rintro e w' ⟨rfl, ⟨nd, rfl⟩⟩; refine ⟨_, rfl, ?_⟩) | (go_at_call 73; (with_reducible refine (annealref1_inf.calls k a0 a2 false _ A27.out).mono ?_); rintro e w' ⟨rfl, ⟨nd, rfl⟩⟩))
     go_meet
     case rel => exact ⟨_, (false), (by first | rfl | (simp; done) | (simp [*]; done) | (congr 1; (try unfold wrap64); omega) | (congr 1; rw [IntKind.wrap_u64]; omega)), H', ⟨by first | omega | exact Nat.le_refl _⟩, ⟨by (with_reducible repeat (first | refine blk_drewN ?_ _ | refine blk_drew ?_ | refine blk_alloc ?_ _)); exact BK808.out⟩, ⟨bl1 HB.out GE808.out⟩⟩
  case rest =>
   clear HC15
   try clear c2
   try clear p2
   try clear c4
   try clear c5
   try clear c6
   try clear p6
   try clear c7
   try clear c21
   try clear c23
   try clear c25
   try clear c28
   try clear hcz12_0
   try clear hcz12_1
   try clear hcz12_2
   try clear hcz12_3
   try clear hcz12_4
   try clear hfz12_0
   try clear hfz12_1
   try clear hfz12_2
   try clear hfz12_3
   try clear hfz12_4
   obtain ⟨kq, x56_14, rfl, HA, HJ14, BK808, HB⟩ := hcut
   cases kq with
   |zero => exact absurd HA.out (by simp [annealref1_Mul.j0])
   |succ kj14 =>
    have H := HA.out
    clear HA
    simp only [annealref1_Mul.j0] at H
    by_cases c30 : x56_14 = true
    ·subst c30
     have H1 : ((annealref1_Nan.f a0).bind fun t823 => (some (t823, true, false, false, false, false))) = some (r1, r2, r3, r4, r5, r6) := by rw [if_pos rfl] at H; exact H
     clear H
     have H := H1
     clear H1
     replace H := Option.bind_eq_some_iff.mp H
     obtain ⟨t823, A310, H⟩ := H
     replace H : (some (t823, true, false, false, false, false)) = some (r1, r2, r3, r4, r5, r6) := H
     have A31 := Aside0.mk A310
     clear A310
     simp only [Option.some.injEq, Prod.mk.injEq] at H
     obtain ⟨rfl, rfl, rfl, rfl, rfl, rfl⟩ := H
     go_wp2_with (first | ((with_reducible refine gate_callee (f := 43) rfl ?_); refine goesL_ (some 58) rfl rfl Try.func43 (by kernel_rfl) rfl #[.int .i64 a0] rfl gl ?_; (with_reducible refine (annealref1_Nan.calls a0 t823 _ A31.out).mono ?_); rintro e w' ⟨rfl, ⟨nd, rfl⟩⟩; refine ⟨_, rfl, ?_⟩; (try (rw [drewN_self wc]; generalize hq_ : World.drewN wc _ = wc; have n0_ : Aside0 (wc.heap[gb808]? = some (.cells #[.bool false, .bool false, .bool false, .bool false, .bool false] 41 (0, 0))) := ⟨by rw [← hq_]; exact (bv BK808.out)⟩; have n1_ : Aside0 (Below w.heap.size w wc) := ⟨by rw [← hq_]; exact (bl1 HB.out GE808.out)⟩; clear BK808 HB hq_; have BK808 := n0_; have HB := n1_; clear n0_ n1_)); obtain ⟨hcz32_0, hcz32_1, hcz32_2, hcz32_3, hcz32_4⟩ := bc5 BK808.out; obtain ⟨hfz32_0, hfz32_1, hfz32_2, hfz32_3, hfz32_4⟩ := bf5 BK808.out))
     refine bodyPost_ret (results_tc rfl _ _ gb808 41 #[.bool true, .bool false, .bool false, .bool false, .bool false] (0, 0) _ rfl (by (with_reducible repeat (first | refine blk_drewN ?_ _ | refine blk_drew ?_ | refine blk_alloc ?_ _)); refine blk_put (cs := #[.bool true, .bool false, .bool false, .bool false, .bool false]) ?_ 4 _ rfl; (with_reducible repeat (first | refine blk_drewN ?_ _ | refine blk_drew ?_ | refine blk_alloc ?_ _)); refine blk_put (cs := #[.bool true, .bool false, .bool false, .bool false, .bool false]) ?_ 3 _ rfl; (with_reducible repeat (first | refine blk_drewN ?_ _ | refine blk_drew ?_ | refine blk_alloc ?_ _)); refine blk_put (cs := #[.bool true, .bool false, .bool false, .bool false, .bool false]) ?_ 2 _ rfl; (with_reducible repeat (first | refine blk_drewN ?_ _ | refine blk_drew ?_ | refine blk_alloc ?_ _)); refine blk_put (cs := #[.bool true, .bool false, .bool false, .bool false, .bool false]) ?_ 1 _ rfl; (with_reducible repeat (first | refine blk_drewN ?_ _ | refine blk_drew ?_ | refine blk_alloc ?_ _)); refine blk_put (cs := F5) ?_ 0 _ rfl; (with_reducible repeat (first | refine blk_drewN ?_ _ | refine blk_drew ?_ | refine blk_alloc ?_ _)); exact BK808.out) Try.underlying41 rfl (by kernel_rfl)) rfl ?_
     exact ⟨by first | rfl | (simp [errW_none, errW_some] <;> rfl) | (simp [*, errW_none, errW_some] <;> rfl), bl1 HB.out GE808.out⟩
    ·replace c30 := Bool.eq_false_iff.mpr c30
     subst c30
     have H1 : ((annealref1_inf.f kj14 a0 a2).bind fun t824 => (if t824 = true then (annealref1_Mul.j1 kj14 a0 a1 a2 a3 (t815 != t816) true) else ((annealref1_inf.f kj14 a0 a3).bind fun t825 => (annealref1_Mul.j1 kj14 a0 a1 a2 a3 (t815 != t816) t825)))) = some (r1, r2, r3, r4, r5, r6) := by rw [if_neg (show ¬ (false = true) by decide)] at H; exact H
     clear H
     have H := H1
     clear H1
     have HC33 := Aside0.mk H
     clear H
     go_upto_region 7 with (fail)
     go_cut [67] (fun v67 wc => ∃ (kq : Nat) (x67_32 : Bool), v67 = .bool x67_32 ∧ Aside0 (annealref1_Mul.j1 kq a0 a1 a2 a3 (t815 != t816) x67_32 = some (r1, r2, r3, r4, r5, r6)) ∧ Aside0 (kq ≤ kj14) ∧ Aside0 (wc.heap[gb808]? = some (.cells #[.bool false, .bool false, .bool false, .bool false, .bool false] 41 (0, 0))) ∧ Aside0 (Below w.heap.size w wc))
     case first =>
      have H := HC33.out
      clear HC33
      replace H := Option.bind_eq_some_iff.mp H
      obtain ⟨t824, A340, H⟩ := H
      replace H : (if t824 = true then (annealref1_Mul.j1 kj14 a0 a1 a2 a3 (t815 != t816) true) else ((annealref1_inf.f kj14 a0 a3).bind fun t825 => (annealref1_Mul.j1 kj14 a0 a1 a2 a3 (t815 != t816) t825))) = some (r1, r2, r3, r4, r5, r6) := H
      have A34 := Aside0.mk A340
      clear A340
      by_cases c35 : t824 = true
      ·subst c35
       have H1 : (annealref1_Mul.j1 kj14 a0 a1 a2 a3 (t815 != t816) true) = some (r1, r2, r3, r4, r5, r6) := by rw [if_pos rfl] at H; exact H
       clear H
       have H := H1
       clear H1
       have H' := Aside0.mk H
       clear H
       go_wp2_with (first | ((with_reducible refine gate_callee (f := 73) rfl ?_); refine goesL_ (some 62) rfl rfl Try.func73 (by kernel_rfl) rfl #[.int .i64 a0, .int .u32 a2] rfl gl ?_; (with_reducible refine (annealref1_inf.calls kj14 a0 a2 true _ A34.out).mono ?_); rintro e w' ⟨rfl, ⟨nd, rfl⟩⟩; refine ⟨_, rfl, ?_⟩))
       go_meet
       case rel => exact ⟨_, (true), (by first | rfl | (simp; done) | (simp [*]; done) | (congr 1; (try unfold wrap64); omega) | (congr 1; rw [IntKind.wrap_u64]; omega)), H', ⟨by have := HJ14.out; first | omega | exact Nat.le_refl _⟩, ⟨by (with_reducible repeat (first | refine blk_drewN ?_ _ | refine blk_drew ?_ | refine blk_alloc ?_ _)); exact BK808.out⟩, ⟨bl1 HB.out GE808.out⟩⟩
      ·replace c35 := Bool.eq_false_iff.mpr c35
       subst c35
       have H1 : ((annealref1_inf.f kj14 a0 a3).bind fun t825 => (annealref1_Mul.j1 kj14 a0 a1 a2 a3 (t815 != t816) t825)) = some (r1, r2, r3, r4, r5, r6) := by rw [if_neg (show ¬ (false = true) by decide)] at H; exact H
       clear H
       have H := H1
       clear H1
       replace H := Option.bind_eq_some_iff.mp H
       obtain ⟨t825, A360, H⟩ := H
       replace H : (annealref1_Mul.j1 kj14 a0 a1 a2 a3 (t815 != t816) t825) = some (r1, r2, r3, r4, r5, r6) := H
       have A36 := Aside0.mk A360
       clear A360
       have H' := Aside0.mk H
       clear H
       go_wp2_with (first | ((with_reducible refine gate_callee (f := 73) rfl ?_); refine goesL_ (some 62) rfl rfl Try.func73 (by kernel_rfl) rfl #[.int .i64 a0, .int .u32 a2] rfl gl ?_; (with_reducible refine (annealref1_inf.calls kj14 a0 a2 false _ A34.out).mono ?_); rintro e w' ⟨rfl, ⟨nd, rfl⟩⟩; refine ⟨_, rfl, ?_⟩) | (go_at_call 73; (with_reducible refine (annealref1_inf.calls kj14 a0 a3 t825 _ A36.out).mono ?_); rintro e w' ⟨rfl, ⟨nd, rfl⟩⟩))
       go_meet
       case rel => exact ⟨_, (t825), (by first | rfl | (simp; done) | (simp [*]; done) | (congr 1; (try unfold wrap64); omega) | (congr 1; rw [IntKind.wrap_u64]; omega)), H', ⟨by have := HJ14.out; first | omega | exact Nat.le_refl _⟩, ⟨by (with_reducible repeat (first | refine blk_drewN ?_ _ | refine blk_drew ?_ | refine blk_alloc ?_ _)); exact BK808.out⟩, ⟨bl1 HB.out GE808.out⟩⟩
     case rest =>
      clear HC33
      try clear c2
      try clear p2
      try clear c3
      try clear c4
      try clear c5
      try clear c6
      try clear p6
      try clear c7
      try clear c21
      try clear c23
      try clear c25
      try clear c28
      try clear c30
      try clear c35
      try clear hcz12_0
      try clear hcz12_1
      try clear hcz12_2
      try clear hcz12_3
      try clear hcz12_4
      try clear hcz32_0
      try clear hcz32_1
      try clear hcz32_2
      try clear hcz32_3
      try clear hcz32_4
      try clear hfz12_0
      try clear hfz12_1
      try clear hfz12_2
      try clear hfz12_3
      try clear hfz12_4
      try clear hfz32_0
      try clear hfz32_1
      try clear hfz32_2
      try clear hfz32_3
      try clear hfz32_4
      try clear p2
      try clear p6
      obtain ⟨kq, x67_32, rfl, HA, HJ32, BK808, HB⟩ := hcut
      cases kq with
      |zero => exact absurd HA.out (by simp [annealref1_Mul.j1])
      |succ kj32 =>
       have H := HA.out
       clear HA
       simp only [annealref1_Mul.j1] at H
       by_cases c37 : x67_32 = true
       ·subst c37
        have H1 : ((annealref1_Inf.f a0 (t815 != t816)).bind fun t826 => (some (t826, false, false, false, false, false))) = some (r1, r2, r3, r4, r5, r6) := by rw [if_pos rfl] at H; exact H
        clear H
        have H := H1
        clear H1
        replace H := Option.bind_eq_some_iff.mp H
        obtain ⟨t826, A380, H⟩ := H
        replace H : (some (t826, false, false, false, false, false)) = some (r1, r2, r3, r4, r5, r6) := H
        have A38 := Aside0.mk A380
        clear A380
        simp only [Option.some.injEq, Prod.mk.injEq] at H
        obtain ⟨rfl, rfl, rfl, rfl, rfl, rfl⟩ := H
        go_wp2_with (first | ((with_reducible refine gate_callee (f := 30) rfl ?_); refine goesL_ (some 70) rfl rfl Try.func30 (by kernel_rfl) rfl #[.int .i64 a0, .bool (t815 != t816)] rfl gl ?_; (with_reducible refine (annealref1_Inf.calls a0 (t815 != t816) t826 _ A38.out).mono ?_); rintro e w' ⟨rfl, ⟨nd, rfl⟩⟩; refine ⟨_, rfl, ?_⟩; (try (rw [drewN_self wc]; generalize hq_ : World.drewN wc _ = wc; have n0_ : Aside0 (wc.heap[gb808]? = some (.cells #[.bool false, .bool false, .bool false, .bool false, .bool false] 41 (0, 0))) := ⟨by rw [← hq_]; exact (bv BK808.out)⟩; have n1_ : Aside0 (Below w.heap.size w wc) := ⟨by rw [← hq_]; exact (bl1 HB.out GE808.out)⟩; clear BK808 HB hq_; have BK808 := n0_; have HB := n1_; clear n0_ n1_)); obtain ⟨hcz39_0, hcz39_1, hcz39_2, hcz39_3, hcz39_4⟩ := bc5 BK808.out; obtain ⟨hfz39_0, hfz39_1, hfz39_2, hfz39_3, hfz39_4⟩ := bf5 BK808.out))
        refine bodyPost_ret (results_tc rfl _ _ gb808 41 #[.bool false, .bool false, .bool false, .bool false, .bool false] (0, 0) _ rfl (by (with_reducible repeat (first | refine blk_drewN ?_ _ | refine blk_drew ?_ | refine blk_alloc ?_ _)); refine blk_put (cs := F5) ?_ 4 _ rfl; (with_reducible repeat (first | refine blk_drewN ?_ _ | refine blk_drew ?_ | refine blk_alloc ?_ _)); refine blk_put (cs := F5) ?_ 3 _ rfl; (with_reducible repeat (first | refine blk_drewN ?_ _ | refine blk_drew ?_ | refine blk_alloc ?_ _)); refine blk_put (cs := F5) ?_ 2 _ rfl; (with_reducible repeat (first | refine blk_drewN ?_ _ | refine blk_drew ?_ | refine blk_alloc ?_ _)); refine blk_put (cs := F5) ?_ 1 _ rfl; (with_reducible repeat (first | refine blk_drewN ?_ _ | refine blk_drew ?_ | refine blk_alloc ?_ _)); refine blk_put (cs := F5) ?_ 0 _ rfl; (with_reducible repeat (first | refine blk_drewN ?_ _ | refine blk_drew ?_ | refine blk_alloc ?_ _)); exact BK808.out) Try.underlying41 rfl (by kernel_rfl)) rfl ?_
        exact ⟨by first | rfl | (simp [errW_none, errW_some] <;> rfl) | (simp [*, errW_none, errW_some] <;> rfl), bl1 HB.out GE808.out⟩
       ·replace c37 := Bool.eq_false_iff.mpr c37
        subst c37
        have H1 : ((annealref1_Unpack.f kj32 a0 a2).bind fun bt827 => ((annealref1_Unpack.f kj32 a0 a3).bind fun bt830 => ((annealref1_Pack.f kj32 a0 a1 (t815 != t816) (wrap64 (bt827.2.1 + bt830.2.1)) (IntKind.u64.wrap (bt827.2.2 * bt830.2.2)) false).bind fun bt833 => (some (bt833.1, bt833.2.1, bt833.2.2.1, bt833.2.2.2.1, bt833.2.2.2.2.1, bt833.2.2.2.2.2))))) = some (r1, r2, r3, r4, r5, r6) := by rw [if_neg (show ¬ (false = true) by decide)] at H; exact H
        clear H
        have H := H1
        clear H1
        replace H := Option.bind_eq_some_iff.mp H
        obtain ⟨⟨t827, t828, t829⟩, A400, H⟩ := H
        replace H : ((annealref1_Unpack.f kj32 a0 a3).bind fun bt830 => ((annealref1_Pack.f kj32 a0 a1 (t815 != t816) (wrap64 (t828 + bt830.2.1)) (IntKind.u64.wrap (t829 * bt830.2.2)) false).bind fun bt833 => (some (bt833.1, bt833.2.1, bt833.2.2.1, bt833.2.2.2.1, bt833.2.2.2.2.1, bt833.2.2.2.2.2)))) = some (r1, r2, r3, r4, r5, r6) := H
        have A40 := Aside0.mk A400
        clear A400
        replace H := Option.bind_eq_some_iff.mp H
        obtain ⟨⟨t830, t831, t832⟩, A410, H⟩ := H
        replace H : ((annealref1_Pack.f kj32 a0 a1 (t815 != t816) (wrap64 (t828 + t831)) (IntKind.u64.wrap (t829 * t832)) false).bind fun bt833 => (some (bt833.1, bt833.2.1, bt833.2.2.1, bt833.2.2.2.1, bt833.2.2.2.2.1, bt833.2.2.2.2.2))) = some (r1, r2, r3, r4, r5, r6) := H
        have A41 := Aside0.mk A410
        clear A410
        replace H := Option.bind_eq_some_iff.mp H
        obtain ⟨⟨t833, t834, t835, t836, t837, t838⟩, A420, H⟩ := H
        replace H : (some (t833, t834, t835, t836, t837, t838)) = some (r1, r2, r3, r4, r5, r6) := H
        have A42 := Aside0.mk A420
        clear A420
        simp only [Option.some.injEq, Prod.mk.injEq] at H
        obtain ⟨rfl, rfl, rfl, rfl, rfl, rfl⟩ := H
        go_wp2_with (first | ((with_reducible refine gate_callee (f := 60) rfl ?_); refine goesL_ (some 75) rfl rfl Try.func60 (by kernel_rfl) rfl #[.int .i64 a0, .int .u32 a2] rfl gl ?_; (with_reducible refine (annealref1_Unpack.calls kj32 a0 a2 t827 t828 t829 _ A40.out).mono ?_); rintro e w' ⟨rfl, ⟨nd, rfl⟩⟩; refine ⟨_, rfl, ?_⟩; (try (rw [drewN_self wc]; generalize hq_ : World.drewN wc _ = wc; have n0_ : Aside0 (wc.heap[gb808]? = some (.cells #[.bool false, .bool false, .bool false, .bool false, .bool false] 41 (0, 0))) := ⟨by rw [← hq_]; exact (bv BK808.out)⟩; have n1_ : Aside0 (Below w.heap.size w wc) := ⟨by rw [← hq_]; exact (bl1 HB.out GE808.out)⟩; clear BK808 HB hq_; have BK808 := n0_; have HB := n1_; clear n0_ n1_))) | ((with_reducible refine gate_callee (f := 60) rfl ?_); refine goesL_ (some 82) rfl rfl Try.func60 (by kernel_rfl) rfl #[.int .i64 a0, .int .u32 a3] rfl gl ?_; (with_reducible refine (annealref1_Unpack.calls kj32 a0 a3 t830 t831 t832 _ A41.out).mono ?_); rintro e w' ⟨rfl, ⟨nd, rfl⟩⟩; refine ⟨_, rfl, ?_⟩; (try (rw [drewN_self wc]; generalize hq_ : World.drewN wc _ = wc; have n0_ : Aside0 (wc.heap[gb808]? = some (.cells #[.bool false, .bool false, .bool false, .bool false, .bool false] 41 (0, 0))) := ⟨by rw [← hq_]; exact (bv BK808.out)⟩; have n1_ : Aside0 (Below w.heap.size w wc) := ⟨by rw [← hq_]; exact (bl1 HB.out GE808.out)⟩; clear BK808 HB hq_; have BK808 := n0_; have HB := n1_; clear n0_ n1_))) | ((with_reducible refine gate_callee (f := 52) rfl ?_); refine goesL_ (some 95) rfl rfl Try.func52 (by kernel_rfl) rfl #[.int .i64 a0, .int .i64 a1, .bool (t815 != t816), .int .i64 (wrap64 (t828 + t831)), .int .u64 (IntKind.u64.wrap (t829 * t832)), .bool false] rfl gl ?_; (with_reducible refine (annealref1_Pack.calls kj32 a0 a1 (t815 != t816) (wrap64 (t828 + t831)) (IntKind.u64.wrap (t829 * t832)) false t833 t834 t835 t836 t837 t838 _ A42.out).mono ?_); rintro e w43 ⟨rfl, hb⟩; refine ⟨_, rfl, ?_⟩; have n0_ := Aside0.mk (blk_below (g := gb808) (o := .cells #[.bool false, .bool false, .bool false, .bool false, .bool false] 41 (0, 0)) (bv BK808.out) hb); have n1_ := Aside0.mk (below_step (bl1 HB.out GE808.out) hb); clear BK808; clear HB; have BK808 := n0_; have HB := n1_; clear n0_ n1_; obtain ⟨hcz44_0, hcz44_1, hcz44_2, hcz44_3, hcz44_4⟩ := bc5 BK808.out; obtain ⟨hfz44_0, hfz44_1, hfz44_2, hfz44_3, hfz44_4⟩ := bf5 BK808.out))
        refine bodyPost_ret (results_tc rfl _ _ gb808 41 #[.bool t834, .bool t835, .bool t836, .bool t837, .bool t838] (0, 0) _ rfl (by (with_reducible repeat (first | refine blk_drewN ?_ _ | refine blk_drew ?_ | refine blk_alloc ?_ _)); refine blk_put (cs := #[.bool t834, .bool t835, .bool t836, .bool t837, .bool false]) ?_ 4 _ rfl; (with_reducible repeat (first | refine blk_drewN ?_ _ | refine blk_drew ?_ | refine blk_alloc ?_ _)); refine blk_put (cs := #[.bool t834, .bool t835, .bool t836, .bool false, .bool false]) ?_ 3 _ rfl; (with_reducible repeat (first | refine blk_drewN ?_ _ | refine blk_drew ?_ | refine blk_alloc ?_ _)); refine blk_put (cs := #[.bool t834, .bool t835, .bool false, .bool false, .bool false]) ?_ 2 _ rfl; (with_reducible repeat (first | refine blk_drewN ?_ _ | refine blk_drew ?_ | refine blk_alloc ?_ _)); refine blk_put (cs := #[.bool t834, .bool false, .bool false, .bool false, .bool false]) ?_ 1 _ rfl; (with_reducible repeat (first | refine blk_drewN ?_ _ | refine blk_drew ?_ | refine blk_alloc ?_ _)); refine blk_put (cs := F5) ?_ 0 _ rfl; (with_reducible repeat (first | refine blk_drewN ?_ _ | refine blk_drew ?_ | refine blk_alloc ?_ _)); exact BK808.out) Try.underlying41 rfl (by kernel_rfl)) rfl ?_
        exact ⟨by first | rfl | (simp [errW_none, errW_some] <;> rfl) | (simp [*, errW_none, errW_some] <;> rfl), bl1 HB.out GE808.out⟩

end Go.Proofs.Ytngkpekmgahjiaa.P
