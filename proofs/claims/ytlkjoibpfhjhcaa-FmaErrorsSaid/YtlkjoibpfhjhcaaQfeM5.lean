import Derived.Test.YtlkjoibpfhjhcaaQfeZ
import Derived.Test.YtlkjoibpfhjhcaaQfeM1
import Derived.Test.YtlkjoibpfhjhcaaQfeM4
import Derived.Test.YtlkjoibpfhjhcaaQfePx27
import Derived.Test.YtlkjoibpfhjhcaaQfePx28
import Derived.Test.YtlkjoibpfhjhcaaQfeWMore
import Derived.Test.YtlkjoibpfhjhcaaQfeM3
import Derived.Test.YtlkjoibpfhjhcaaQfeM2
import Derived.Test.YtlkjoibpfhjhcaaQfePx10
import Derived.Test.YtlkjoibpfhjhcaaQfePx12
-- Printed by a program of this session's out of Lean's print of the translation; Lean checks it.
namespace Go.Proofs.Ytlkjoibpfhjhcaa.P
open Go.RowKit Go.Proofs.YtlkjoibpfhjhcaaW.PrintWords Go.Proofs.YtlkjoibpfhjhcaaW.PrintLast Go.Proofs.YtlkjoibpfhjhcaaW.PrintMore
attribute [local go_sem] max2_int min2_int max_two min_two max_three min_three max_four min_four   -- for this text's walks alone
set_option linter.unusedVariables false
set_option linter.unusedSimpArgs false

attribute [local go_sem high] eqA27
/-! ### anneallaw5_known: function 21 -/
def anneallaw5_known.f (k : Nat)  : Option (Bool) := (prod_Fma.f k 2 0 1073741824 1077936128 1065353216).bind fun bt614 => ((prod_Mul.f k 0 0 31744 0).bind fun bt621 => (if bt614.1 = 1088421888 then (if (!bt614.2.1 && (!bt614.2.2.1 && (!bt614.2.2.2.1 && (!bt614.2.2.2.2.1 && (!bt614.2.2.2.2.2))))) = true then (if bt621.1 = 32256 then (some (bt621.2.1 && (!bt621.2.2.1 && (!bt621.2.2.2.1 && (!bt621.2.2.2.2.1 && (!bt621.2.2.2.2.2)))))) else (some false)) else (some false)) else (some false)))
theorem anneallaw5_known.mono : ∀ k, LeO (anneallaw5_known.f k ) (anneallaw5_known.f (k + 1) ) := by
 intro  k
 unfold anneallaw5_known.f
 repeat' first
   |(with_reducible exact prod_Fma.mono _ _ _ _ _ _)
   |(with_reducible exact prod_Mul.mono _ _ _ _ _)
   |(with_reducible exact LeO.refl _)
   |(with_reducible exact LeO.none _)
   |(with_reducible refine LeO.ite ?_ ?_)
   |(with_reducible refine LeO.bind ?_ (fun _ => ?_))
   |exact prod_Fma.mono _ _ _ _ _ _
   |exact prod_Mul.mono _ _ _ _ _
   |exact LeO.none _
   |refine LeO.ite ?_ ?_
   |refine LeO.bind ?_ (fun _ => ?_)
set_option maxHeartbeats 8000000 in
set_option maxRecDepth 100000 in
theorem anneallaw5_known.calls (k : Nat)  (r : Bool) (w : World) (h : anneallaw5_known.f k  = some r) :
  Calls Try.prog 21 #[] w fun e w' => e = .returned (.bool r) ∧ Below w.heap.size w w' := by
 have hu27 := Try.underlying27
 have HB := Aside0.mk (Below.refl w.heap.size w)
 have H : ((prod_Fma.f k 2 0 1073741824 1077936128 1065353216).bind fun bt614 => ((prod_Mul.f k 0 0 31744 0).bind fun bt621 => (if bt614.1 = 1088421888 then (if (!bt614.2.1 && (!bt614.2.2.1 && (!bt614.2.2.2.1 && (!bt614.2.2.2.2.1 && (!bt614.2.2.2.2.2))))) = true then (if bt621.1 = 32256 then (some (bt621.2.1 && (!bt621.2.2.1 && (!bt621.2.2.2.1 && (!bt621.2.2.2.2.1 && (!bt621.2.2.2.2.2)))))) else (some false)) else (some false)) else (some false)))) = some r := h
 clear h
 replace H := Option.bind_eq_some_iff.mp H
 obtain ⟨⟨t614, t615, t616, t617, t618, t619⟩, A10, H⟩ := H
 replace H : ((prod_Mul.f k 0 0 31744 0).bind fun bt621 => (if t614 = 1088421888 then (if (!t615 && (!t616 && (!t617 && (!t618 && (!t619))))) = true then (if bt621.1 = 32256 then (some (bt621.2.1 && (!bt621.2.2.1 && (!bt621.2.2.2.1 && (!bt621.2.2.2.2.1 && (!bt621.2.2.2.2.2)))))) else (some false)) else (some false)) else (some false))) = some r := H
 have A1 := Aside0.mk A10
 clear A10
 replace H := Option.bind_eq_some_iff.mp H
 obtain ⟨⟨t621, t622, t623, t624, t625, t626⟩, A20, H⟩ := H
 replace H : (if t614 = 1088421888 then (if (!t615 && (!t616 && (!t617 && (!t618 && (!t619))))) = true then (if t621 = 32256 then (some (t622 && (!t623 && (!t624 && (!t625 && (!t626)))))) else (some false)) else (some false)) else (some false)) = some r := H
 have A2 := Aside0.mk A20
 clear A20
 by_cases c3 : t614 = 1088421888
 ·rw [if_pos c3] at H
  have c3b0 : (t614 == 1088421888) = true := beq_iff_eq.mpr c3
  have c3b1 : (t614 != 1088421888) = false := bne_eq_false_iff_eq.mpr c3
  clear c3
  by_cases c4 : (!t615 && (!t616 && (!t617 && (!t618 && (!t619))))) = true
  ·rw [if_pos c4] at H
   have c4b0 : (!t615 && (!t616 && (!t617 && (!t618 && (!t619))))) = true := c4
   clear c4
   by_cases c5 : t621 = 32256
   ·rw [if_pos c5] at H
    have c5b0 : (t621 == 32256) = true := beq_iff_eq.mpr c5
    have c5b1 : (t621 != 32256) = false := bne_eq_false_iff_eq.mpr c5
    clear c5
    obtain rfl := Option.some.inj H
    go_enter Try.func21, Try.ntmps21
    go_wp2_with (first | ((with_reducible refine gate_callee (f := 27) rfl ?_); refine goesL_ (some 6) rfl rfl Try.func27 (by kernel_rfl) rfl #[.int .i64 2, .int .i64 0, .int .u32 1073741824, .int .u32 1077936128, .int .u32 1065353216] rfl gl ?_; (with_reducible refine (prod_Fma.calls k 2 0 1073741824 1077936128 1065353216 t614 t615 t616 t617 t618 t619 _ A1.out).mono ?_); rintro e w6 ⟨rfl, hb⟩; refine ⟨_, rfl, ?_⟩; have n0_ := Aside0.mk (below_step (bl0 HB.out) hb); clear HB; have HB := n0_; clear n0_) | ((with_reducible refine gate_dst (N := 2) rfl ?_); refine box_event ?hg (N := 2) ?hd (cs := F5) (t := 27) ?hr ?_; (case hd => rfl); (case hg => rfl); (case hr => first | (go_simp; done) | (go_simp; rfl)); intro gb620 hg w7 hbox hb; have n0_ := Aside0.mk (below_step (bl0 HB.out) hb); have n1_ := Aside0.mk (hbox); have n2_ := Aside0.mk ((by rw [hg]; exact (below_size (bl0 HB.out)) : w.heap.size ≤ gb620)); have n3_ := n2_; clear HB; have HB := n0_; have BK620 := n1_; have GW620 := n2_; have GE620 := n3_; clear n0_ n1_ n2_ n3_; clear hb hbox hg; obtain ⟨hcz8_0, hcz8_1, hcz8_2, hcz8_3, hcz8_4⟩ := bc5 BK620.out; obtain ⟨hfz8_0, hfz8_1, hfz8_2, hfz8_3, hfz8_4⟩ := bf5 BK620.out) | ((with_reducible refine gate_callee (f := 23) rfl ?_); refine goesL_ (some 10) rfl rfl Try.func23 (by kernel_rfl) rfl #[.int .i64 0, .int .i64 0, .int .u32 31744, .int .u32 0] rfl gl ?_; (with_reducible refine (prod_Mul.calls k 0 0 31744 0 t621 t622 t623 t624 t625 t626 _ A2.out).mono ?_); rintro e w9 ⟨rfl, hb⟩; refine ⟨_, rfl, ?_⟩; have n0_ := Aside0.mk (blk_below (g := gb620) (o := .cells #[.bool t615, .bool t616, .bool t617, .bool t618, .bool t619] 27 (0, 0)) (by (with_reducible repeat first | apply bd | apply be | apply ba); refine blk_put (cs := #[.bool t615, .bool t616, .bool t617, .bool t618, .bool false]) ?_ 4 _ rfl; (with_reducible repeat first | apply bd | apply be | apply ba); refine blk_put (cs := #[.bool t615, .bool t616, .bool t617, .bool false, .bool false]) ?_ 3 _ rfl; (with_reducible repeat first | apply bd | apply be | apply ba); refine blk_put (cs := #[.bool t615, .bool t616, .bool false, .bool false, .bool false]) ?_ 2 _ rfl; (with_reducible repeat first | apply bd | apply be | apply ba); refine blk_put (cs := #[.bool t615, .bool false, .bool false, .bool false, .bool false]) ?_ 1 _ rfl; (with_reducible repeat first | apply bd | apply be | apply ba); refine blk_put (cs := F5) ?_ 0 _ rfl; (with_reducible repeat first | apply bd | apply be | apply ba); exact BK620.out) hb); have n1_ := Aside0.mk (below_step (bl1 HB.out GE620.out) hb); clear BK620; clear HB; have BK620 := n0_; have HB := n1_; clear n0_ n1_) | ((with_reducible refine gate_dst (N := 4) rfl ?_); refine box_event ?hg (N := 4) ?hd (cs := F5) (t := 27) ?hr ?_; (case hd => rfl); (case hg => rfl); (case hr => first | (go_simp; done) | (go_simp; rfl)); intro gb627 hg w10 hbox hb; have n0_ := Aside0.mk (blk_below (g := gb620) (o := .cells #[.bool t615, .bool t616, .bool t617, .bool t618, .bool t619] 27 (0, 0)) (bv BK620.out) hb); have n1_ := Aside0.mk (below_step (bl1 HB.out GE620.out) hb); have n2_ := Aside0.mk (hbox); have n3_ := Aside0.mk ((by rw [hg]; exact (below_size (bl1 HB.out GE620.out)) : w.heap.size ≤ gb627)); have n4_ := n3_; have n5_ := Aside0.mk ((by rw [hg]; exact Nat.ne_of_lt (blk_lt (g := gb620) (o := .cells #[.bool t615, .bool t616, .bool t617, .bool t618, .bool t619] 27 (0, 0)) (bv BK620.out)) : gb620 ≠ gb627)); have n6_ := Aside0.mk (Ne.symm n5_.out); clear BK620; clear HB; have BK620 := n0_; have HB := n1_; have BK627 := n2_; have GW627 := n3_; have GE627 := n4_; have NB620_627 := n5_; have NB627_620 := n6_; clear n0_ n1_ n2_ n3_ n4_ n5_ n6_; clear hb hbox hg; have hnb11 := NB627_620.out; have hnc11 := NB620_627.out; obtain ⟨hcz12_0, hcz12_1, hcz12_2, hcz12_3, hcz12_4⟩ := bc5 BK627.out; obtain ⟨hfz12_0, hfz12_1, hfz12_2, hfz12_3, hfz12_4⟩ := bf5 BK627.out; obtain ⟨hcz13_0, hcz13_1, hcz13_2, hcz13_3, hcz13_4⟩ := bc5 BK620.out; obtain ⟨hfz13_0, hfz13_1, hfz13_2, hfz13_3, hfz13_4⟩ := bf5 BK620.out))
    go_ret
    exact ⟨by first | rfl | (simp [errW_none, errW_some] <;> rfl) | (simp [*, errW_none, errW_some] <;> rfl), bl2 HB.out GE620.out GE627.out⟩
   ·rw [if_neg c5] at H
    have c5b0 : (t621 == 32256) = false := beq_eq_false_iff_ne.mpr c5
    have c5b1 : (t621 != 32256) = true := bne_iff_ne.mpr c5
    obtain rfl := Option.some.inj H
    go_enter Try.func21, Try.ntmps21
    go_wp2_with (first | ((with_reducible refine gate_callee (f := 27) rfl ?_); refine goesL_ (some 6) rfl rfl Try.func27 (by kernel_rfl) rfl #[.int .i64 2, .int .i64 0, .int .u32 1073741824, .int .u32 1077936128, .int .u32 1065353216] rfl gl ?_; (with_reducible refine (prod_Fma.calls k 2 0 1073741824 1077936128 1065353216 t614 t615 t616 t617 t618 t619 _ A1.out).mono ?_); rintro e w14 ⟨rfl, hb⟩; refine ⟨_, rfl, ?_⟩; have n0_ := Aside0.mk (below_step (bl0 HB.out) hb); clear HB; have HB := n0_; clear n0_) | ((with_reducible refine gate_dst (N := 2) rfl ?_); refine box_event ?hg (N := 2) ?hd (cs := F5) (t := 27) ?hr ?_; (case hd => rfl); (case hg => rfl); (case hr => first | (go_simp; done) | (go_simp; rfl)); intro gb620 hg w15 hbox hb; have n0_ := Aside0.mk (below_step (bl0 HB.out) hb); have n1_ := Aside0.mk (hbox); have n2_ := Aside0.mk ((by rw [hg]; exact (below_size (bl0 HB.out)) : w.heap.size ≤ gb620)); have n3_ := n2_; clear HB; have HB := n0_; have BK620 := n1_; have GW620 := n2_; have GE620 := n3_; clear n0_ n1_ n2_ n3_; clear hb hbox hg; obtain ⟨hcz16_0, hcz16_1, hcz16_2, hcz16_3, hcz16_4⟩ := bc5 BK620.out; obtain ⟨hfz16_0, hfz16_1, hfz16_2, hfz16_3, hfz16_4⟩ := bf5 BK620.out) | ((with_reducible refine gate_callee (f := 23) rfl ?_); refine goesL_ (some 10) rfl rfl Try.func23 (by kernel_rfl) rfl #[.int .i64 0, .int .i64 0, .int .u32 31744, .int .u32 0] rfl gl ?_; (with_reducible refine (prod_Mul.calls k 0 0 31744 0 t621 t622 t623 t624 t625 t626 _ A2.out).mono ?_); rintro e w17 ⟨rfl, hb⟩; refine ⟨_, rfl, ?_⟩; have n0_ := Aside0.mk (blk_below (g := gb620) (o := .cells #[.bool t615, .bool t616, .bool t617, .bool t618, .bool t619] 27 (0, 0)) (by (with_reducible repeat first | apply bd | apply be | apply ba); refine blk_put (cs := #[.bool t615, .bool t616, .bool t617, .bool t618, .bool false]) ?_ 4 _ rfl; (with_reducible repeat first | apply bd | apply be | apply ba); refine blk_put (cs := #[.bool t615, .bool t616, .bool t617, .bool false, .bool false]) ?_ 3 _ rfl; (with_reducible repeat first | apply bd | apply be | apply ba); refine blk_put (cs := #[.bool t615, .bool t616, .bool false, .bool false, .bool false]) ?_ 2 _ rfl; (with_reducible repeat first | apply bd | apply be | apply ba); refine blk_put (cs := #[.bool t615, .bool false, .bool false, .bool false, .bool false]) ?_ 1 _ rfl; (with_reducible repeat first | apply bd | apply be | apply ba); refine blk_put (cs := F5) ?_ 0 _ rfl; (with_reducible repeat first | apply bd | apply be | apply ba); exact BK620.out) hb); have n1_ := Aside0.mk (below_step (bl1 HB.out GE620.out) hb); clear BK620; clear HB; have BK620 := n0_; have HB := n1_; clear n0_ n1_) | ((with_reducible refine gate_dst (N := 4) rfl ?_); refine box_event ?hg (N := 4) ?hd (cs := F5) (t := 27) ?hr ?_; (case hd => rfl); (case hg => rfl); (case hr => first | (go_simp; done) | (go_simp; rfl)); intro gb627 hg w18 hbox hb; have n0_ := Aside0.mk (blk_below (g := gb620) (o := .cells #[.bool t615, .bool t616, .bool t617, .bool t618, .bool t619] 27 (0, 0)) (bv BK620.out) hb); have n1_ := Aside0.mk (below_step (bl1 HB.out GE620.out) hb); have n2_ := Aside0.mk (hbox); have n3_ := Aside0.mk ((by rw [hg]; exact (below_size (bl1 HB.out GE620.out)) : w.heap.size ≤ gb627)); have n4_ := n3_; have n5_ := Aside0.mk ((by rw [hg]; exact Nat.ne_of_lt (blk_lt (g := gb620) (o := .cells #[.bool t615, .bool t616, .bool t617, .bool t618, .bool t619] 27 (0, 0)) (bv BK620.out)) : gb620 ≠ gb627)); have n6_ := Aside0.mk (Ne.symm n5_.out); clear BK620; clear HB; have BK620 := n0_; have HB := n1_; have BK627 := n2_; have GW627 := n3_; have GE627 := n4_; have NB620_627 := n5_; have NB627_620 := n6_; clear n0_ n1_ n2_ n3_ n4_ n5_ n6_; clear hb hbox hg; have hnb19 := NB627_620.out; have hnc19 := NB620_627.out; obtain ⟨hcz20_0, hcz20_1, hcz20_2, hcz20_3, hcz20_4⟩ := bc5 BK627.out; obtain ⟨hfz20_0, hfz20_1, hfz20_2, hfz20_3, hfz20_4⟩ := bf5 BK627.out; obtain ⟨hcz21_0, hcz21_1, hcz21_2, hcz21_3, hcz21_4⟩ := bc5 BK620.out; obtain ⟨hfz21_0, hfz21_1, hfz21_2, hfz21_3, hfz21_4⟩ := bf5 BK620.out))
    go_ret
    exact ⟨by first | rfl | (simp [errW_none, errW_some] <;> rfl) | (simp [*, errW_none, errW_some] <;> rfl), bl2 HB.out GE620.out GE627.out⟩
  ·rw [if_neg c4] at H
   have c4b0 : (!t615 && (!t616 && (!t617 && (!t618 && (!t619))))) = false := by simpa using c4
   clear c4
   obtain rfl := Option.some.inj H
   go_enter Try.func21, Try.ntmps21
   go_wp2_with (first | ((with_reducible refine gate_callee (f := 27) rfl ?_); refine goesL_ (some 6) rfl rfl Try.func27 (by kernel_rfl) rfl #[.int .i64 2, .int .i64 0, .int .u32 1073741824, .int .u32 1077936128, .int .u32 1065353216] rfl gl ?_; (with_reducible refine (prod_Fma.calls k 2 0 1073741824 1077936128 1065353216 t614 t615 t616 t617 t618 t619 _ A1.out).mono ?_); rintro e w22 ⟨rfl, hb⟩; refine ⟨_, rfl, ?_⟩; have n0_ := Aside0.mk (below_step (bl0 HB.out) hb); clear HB; have HB := n0_; clear n0_) | ((with_reducible refine gate_dst (N := 2) rfl ?_); refine box_event ?hg (N := 2) ?hd (cs := F5) (t := 27) ?hr ?_; (case hd => rfl); (case hg => rfl); (case hr => first | (go_simp; done) | (go_simp; rfl)); intro gb620 hg w23 hbox hb; have n0_ := Aside0.mk (below_step (bl0 HB.out) hb); have n1_ := Aside0.mk (hbox); have n2_ := Aside0.mk ((by rw [hg]; exact (below_size (bl0 HB.out)) : w.heap.size ≤ gb620)); have n3_ := n2_; clear HB; have HB := n0_; have BK620 := n1_; have GW620 := n2_; have GE620 := n3_; clear n0_ n1_ n2_ n3_; clear hb hbox hg; obtain ⟨hcz24_0, hcz24_1, hcz24_2, hcz24_3, hcz24_4⟩ := bc5 BK620.out; obtain ⟨hfz24_0, hfz24_1, hfz24_2, hfz24_3, hfz24_4⟩ := bf5 BK620.out) | ((with_reducible refine gate_callee (f := 23) rfl ?_); refine goesL_ (some 10) rfl rfl Try.func23 (by kernel_rfl) rfl #[.int .i64 0, .int .i64 0, .int .u32 31744, .int .u32 0] rfl gl ?_; (with_reducible refine (prod_Mul.calls k 0 0 31744 0 t621 t622 t623 t624 t625 t626 _ A2.out).mono ?_); rintro e w25 ⟨rfl, hb⟩; refine ⟨_, rfl, ?_⟩; have n0_ := Aside0.mk (blk_below (g := gb620) (o := .cells #[.bool t615, .bool t616, .bool t617, .bool t618, .bool t619] 27 (0, 0)) (by (with_reducible repeat first | apply bd | apply be | apply ba); refine blk_put (cs := #[.bool t615, .bool t616, .bool t617, .bool t618, .bool false]) ?_ 4 _ rfl; (with_reducible repeat first | apply bd | apply be | apply ba); refine blk_put (cs := #[.bool t615, .bool t616, .bool t617, .bool false, .bool false]) ?_ 3 _ rfl; (with_reducible repeat first | apply bd | apply be | apply ba); refine blk_put (cs := #[.bool t615, .bool t616, .bool false, .bool false, .bool false]) ?_ 2 _ rfl; (with_reducible repeat first | apply bd | apply be | apply ba); refine blk_put (cs := #[.bool t615, .bool false, .bool false, .bool false, .bool false]) ?_ 1 _ rfl; (with_reducible repeat first | apply bd | apply be | apply ba); refine blk_put (cs := F5) ?_ 0 _ rfl; (with_reducible repeat first | apply bd | apply be | apply ba); exact BK620.out) hb); have n1_ := Aside0.mk (below_step (bl1 HB.out GE620.out) hb); clear BK620; clear HB; have BK620 := n0_; have HB := n1_; clear n0_ n1_) | ((with_reducible refine gate_dst (N := 4) rfl ?_); refine box_event ?hg (N := 4) ?hd (cs := F5) (t := 27) ?hr ?_; (case hd => rfl); (case hg => rfl); (case hr => first | (go_simp; done) | (go_simp; rfl)); intro gb627 hg w26 hbox hb; have n0_ := Aside0.mk (blk_below (g := gb620) (o := .cells #[.bool t615, .bool t616, .bool t617, .bool t618, .bool t619] 27 (0, 0)) (bv BK620.out) hb); have n1_ := Aside0.mk (below_step (bl1 HB.out GE620.out) hb); have n2_ := Aside0.mk (hbox); have n3_ := Aside0.mk ((by rw [hg]; exact (below_size (bl1 HB.out GE620.out)) : w.heap.size ≤ gb627)); have n4_ := n3_; have n5_ := Aside0.mk ((by rw [hg]; exact Nat.ne_of_lt (blk_lt (g := gb620) (o := .cells #[.bool t615, .bool t616, .bool t617, .bool t618, .bool t619] 27 (0, 0)) (bv BK620.out)) : gb620 ≠ gb627)); have n6_ := Aside0.mk (Ne.symm n5_.out); clear BK620; clear HB; have BK620 := n0_; have HB := n1_; have BK627 := n2_; have GW627 := n3_; have GE627 := n4_; have NB620_627 := n5_; have NB627_620 := n6_; clear n0_ n1_ n2_ n3_ n4_ n5_ n6_; clear hb hbox hg; have hnb27 := NB627_620.out; have hnc27 := NB620_627.out; obtain ⟨hcz28_0, hcz28_1, hcz28_2, hcz28_3, hcz28_4⟩ := bc5 BK627.out; obtain ⟨hfz28_0, hfz28_1, hfz28_2, hfz28_3, hfz28_4⟩ := bf5 BK627.out; obtain ⟨hcz29_0, hcz29_1, hcz29_2, hcz29_3, hcz29_4⟩ := bc5 BK620.out; obtain ⟨hfz29_0, hfz29_1, hfz29_2, hfz29_3, hfz29_4⟩ := bf5 BK620.out))
   go_ret
   exact ⟨by first | rfl | (simp [errW_none, errW_some] <;> rfl) | (simp [*, errW_none, errW_some] <;> rfl), bl2 HB.out GE620.out GE627.out⟩
 ·rw [if_neg c3] at H
  have c3b0 : (t614 == 1088421888) = false := beq_eq_false_iff_ne.mpr c3
  have c3b1 : (t614 != 1088421888) = true := bne_iff_ne.mpr c3
  obtain rfl := Option.some.inj H
  go_enter Try.func21, Try.ntmps21
  go_wp2_with (first | ((with_reducible refine gate_callee (f := 27) rfl ?_); refine goesL_ (some 6) rfl rfl Try.func27 (by kernel_rfl) rfl #[.int .i64 2, .int .i64 0, .int .u32 1073741824, .int .u32 1077936128, .int .u32 1065353216] rfl gl ?_; (with_reducible refine (prod_Fma.calls k 2 0 1073741824 1077936128 1065353216 t614 t615 t616 t617 t618 t619 _ A1.out).mono ?_); rintro e w30 ⟨rfl, hb⟩; refine ⟨_, rfl, ?_⟩; have n0_ := Aside0.mk (below_step (bl0 HB.out) hb); clear HB; have HB := n0_; clear n0_) | ((with_reducible refine gate_dst (N := 2) rfl ?_); refine box_event ?hg (N := 2) ?hd (cs := F5) (t := 27) ?hr ?_; (case hd => rfl); (case hg => rfl); (case hr => first | (go_simp; done) | (go_simp; rfl)); intro gb620 hg w31 hbox hb; have n0_ := Aside0.mk (below_step (bl0 HB.out) hb); have n1_ := Aside0.mk (hbox); have n2_ := Aside0.mk ((by rw [hg]; exact (below_size (bl0 HB.out)) : w.heap.size ≤ gb620)); have n3_ := n2_; clear HB; have HB := n0_; have BK620 := n1_; have GW620 := n2_; have GE620 := n3_; clear n0_ n1_ n2_ n3_; clear hb hbox hg; obtain ⟨hcz32_0, hcz32_1, hcz32_2, hcz32_3, hcz32_4⟩ := bc5 BK620.out; obtain ⟨hfz32_0, hfz32_1, hfz32_2, hfz32_3, hfz32_4⟩ := bf5 BK620.out) | ((with_reducible refine gate_callee (f := 23) rfl ?_); refine goesL_ (some 10) rfl rfl Try.func23 (by kernel_rfl) rfl #[.int .i64 0, .int .i64 0, .int .u32 31744, .int .u32 0] rfl gl ?_; (with_reducible refine (prod_Mul.calls k 0 0 31744 0 t621 t622 t623 t624 t625 t626 _ A2.out).mono ?_); rintro e w33 ⟨rfl, hb⟩; refine ⟨_, rfl, ?_⟩; have n0_ := Aside0.mk (blk_below (g := gb620) (o := .cells #[.bool t615, .bool t616, .bool t617, .bool t618, .bool t619] 27 (0, 0)) (by (with_reducible repeat first | apply bd | apply be | apply ba); refine blk_put (cs := #[.bool t615, .bool t616, .bool t617, .bool t618, .bool false]) ?_ 4 _ rfl; (with_reducible repeat first | apply bd | apply be | apply ba); refine blk_put (cs := #[.bool t615, .bool t616, .bool t617, .bool false, .bool false]) ?_ 3 _ rfl; (with_reducible repeat first | apply bd | apply be | apply ba); refine blk_put (cs := #[.bool t615, .bool t616, .bool false, .bool false, .bool false]) ?_ 2 _ rfl; (with_reducible repeat first | apply bd | apply be | apply ba); refine blk_put (cs := #[.bool t615, .bool false, .bool false, .bool false, .bool false]) ?_ 1 _ rfl; (with_reducible repeat first | apply bd | apply be | apply ba); refine blk_put (cs := F5) ?_ 0 _ rfl; (with_reducible repeat first | apply bd | apply be | apply ba); exact BK620.out) hb); have n1_ := Aside0.mk (below_step (bl1 HB.out GE620.out) hb); clear BK620; clear HB; have BK620 := n0_; have HB := n1_; clear n0_ n1_) | ((with_reducible refine gate_dst (N := 4) rfl ?_); refine box_event ?hg (N := 4) ?hd (cs := F5) (t := 27) ?hr ?_; (case hd => rfl); (case hg => rfl); (case hr => first | (go_simp; done) | (go_simp; rfl)); intro gb627 hg w34 hbox hb; have n0_ := Aside0.mk (blk_below (g := gb620) (o := .cells #[.bool t615, .bool t616, .bool t617, .bool t618, .bool t619] 27 (0, 0)) (bv BK620.out) hb); have n1_ := Aside0.mk (below_step (bl1 HB.out GE620.out) hb); have n2_ := Aside0.mk (hbox); have n3_ := Aside0.mk ((by rw [hg]; exact (below_size (bl1 HB.out GE620.out)) : w.heap.size ≤ gb627)); have n4_ := n3_; have n5_ := Aside0.mk ((by rw [hg]; exact Nat.ne_of_lt (blk_lt (g := gb620) (o := .cells #[.bool t615, .bool t616, .bool t617, .bool t618, .bool t619] 27 (0, 0)) (bv BK620.out)) : gb620 ≠ gb627)); have n6_ := Aside0.mk (Ne.symm n5_.out); clear BK620; clear HB; have BK620 := n0_; have HB := n1_; have BK627 := n2_; have GW627 := n3_; have GE627 := n4_; have NB620_627 := n5_; have NB627_620 := n6_; clear n0_ n1_ n2_ n3_ n4_ n5_ n6_; clear hb hbox hg; have hnb35 := NB627_620.out; have hnc35 := NB620_627.out; obtain ⟨hcz36_0, hcz36_1, hcz36_2, hcz36_3, hcz36_4⟩ := bc5 BK627.out; obtain ⟨hfz36_0, hfz36_1, hfz36_2, hfz36_3, hfz36_4⟩ := bf5 BK627.out))
  go_ret
  exact ⟨by first | rfl | (simp [errW_none, errW_some] <;> rfl) | (simp [*, errW_none, errW_some] <;> rfl), bl2 HB.out GE620.out GE627.out⟩

/-! ### anneallaw5_form: function 22 -/
/-! ### annealref1_inf: function 52 -/
end Go.Proofs.Ytlkjoibpfhjhcaa.P

-- Printed by a program of this session's out of Lean's print of the translation; Lean checks it.
namespace Go.Proofs.Ytlkjoibpfhjhcaa.P
open Go.RowKit Go.Proofs.YtlkjoibpfhjhcaaW.PrintWords Go.Proofs.YtlkjoibpfhjhcaaW.PrintLast Go.Proofs.YtlkjoibpfhjhcaaW.PrintMore
attribute [local go_sem] max2_int min2_int max_two min_two max_three min_three max_four min_four   -- for this text's walks alone
set_option linter.unusedVariables false
set_option linter.unusedSimpArgs false

attribute [local go_sem high] eqA27
/-! ### annealref1_Minus: function 28 -/
def annealref1_Minus.f (k : Nat) (a0 : Int) (a1 : Int) : Option (Int) := (annealref1_nans.f k a0 (([a1] : List Int))).bind fun bt762 => (if bt762.1 = true then ((annealref1_Mask.f a0).bind fun t764 => (some (Go.bits .and .u32 a1 t764))) else ((annealref1_sign.f a0 true).bind fun t765 => ((annealref1_Mask.f a0).bind fun t766 => (some (Go.bits .and .u32 (Go.bits .xor .u32 a1 t765) t766)))))
set_option maxHeartbeats 8000000 in
set_option maxRecDepth 100000 in
theorem annealref1_Minus.calls (k : Nat) (a0 : Int) (a1 : Int) (r : Int) (w : World) (h : annealref1_Minus.f k a0 a1 = some r) :
  Calls Try.prog 28 #[.int .i64 a0, .int .u32 a1] w fun e w' => e = .returned (.int .u32 r) ∧ Below w.heap.size w w' := by
 have HB := Aside0.mk (Below.refl w.heap.size w)
 have H : ((annealref1_nans.f k a0 (([a1] : List Int))).bind fun bt762 => (if bt762.1 = true then ((annealref1_Mask.f a0).bind fun t764 => (some (Go.bits .and .u32 a1 t764))) else ((annealref1_sign.f a0 true).bind fun t765 => ((annealref1_Mask.f a0).bind fun t766 => (some (Go.bits .and .u32 (Go.bits .xor .u32 a1 t765) t766)))))) = some r := h
 clear h
 obtain ⟨y759, hy759⟩ : ∃ y_ : List Int, y_ = (([a1] : List Int)) := ⟨_, rfl⟩
 replace H : ((annealref1_nans.f k a0 y759).bind fun bt762 => (if bt762.1 = true then ((annealref1_Mask.f a0).bind fun t764 => (some (Go.bits .and .u32 a1 t764))) else ((annealref1_sign.f a0 true).bind fun t765 => ((annealref1_Mask.f a0).bind fun t766 => (some (Go.bits .and .u32 (Go.bits .xor .u32 a1 t765) t766)))))) = some r := by first | (rw [hy759]; with_reducible exact H) | (have H2_ := (Option.bind_some _ _).symm.trans H; rw [hy759]; with_reducible exact H2_) | (have H2_ := (Option.bind_some _ _).symm.trans H; with_reducible exact H2_) | with_reducible exact H | (rw [hy759]; exact H) | exact H
 have Ny759 := Aside0.mk hy759
 clear hy759
 replace H := Option.bind_eq_some_iff.mp H
 obtain ⟨⟨t762, t763⟩, A30, H⟩ := H
 replace H : (if t762 = true then ((annealref1_Mask.f a0).bind fun t764 => (some (Go.bits .and .u32 a1 t764))) else ((annealref1_sign.f a0 true).bind fun t765 => ((annealref1_Mask.f a0).bind fun t766 => (some (Go.bits .and .u32 (Go.bits .xor .u32 a1 t765) t766))))) = some r := H
 have A3 := Aside0.mk A30
 clear A30
 by_cases c4 : t762 = true
 ·subst c4
  have H1 : ((annealref1_Mask.f a0).bind fun t764 => (some (Go.bits .and .u32 a1 t764))) = some r := by rw [if_pos rfl] at H; exact H
  clear H
  have H := H1
  clear H1
  replace H := Option.bind_eq_some_iff.mp H
  obtain ⟨t764, A50, H⟩ := H
  replace H : (some (Go.bits .and .u32 a1 t764)) = some r := H
  have A5 := Aside0.mk A50
  clear A50
  obtain rfl := Option.some.inj H
  go_enter Try.func28, Try.ntmps28
  go_wp2_with (first | ((with_reducible refine gate_dst (N := 10) rfl ?_); refine Kd.R_lit (Kd.int .u32) _ 22 ?hg (N := 10) ?hd (xs := ([a1] : List Int)) (inner := [.int .u32 a1]) (ok := fun _ => True) (okp := fun _ => True) ?hr ?hp (fun _ hk => hk) trivial (Below.refl _ _) (Nat.le_refl _) (by simp) ?_; (case hd => rfl); (case hg => rfl); (case hr => first | (go_simp; done) | (go_simp; rfl)); (case hp => exact (Reps.one (show Kd.M (Kd.int .u32) _ _ _ a1 [.int .u32 a1] from rfl) (Reps.none _ _))); intro v760 w6 ho7 hb hg_ hnew_; clear hg_ hnew_; (first | rw [← Ny759.out] at ho7 | (simp only [Int.reduceToNat] at ho7; rw [← Ny759.out] at ho7)); have n0_ := Aside0.mk (Kd.R_lower ho7 (below_size (bl0 HB.out))); have n1_ := Aside0.mk (below_step (bl0 HB.out) hb); clear HB; have HO761 := n0_; have HB := n1_; clear n0_ n1_; clear hb ho7; obtain ⟨Ao8, co8, eo8⟩ := Kd.R_slice HO761.out; subst eo8) | ((with_reducible refine gate_callee (f := 42) rfl ?_); refine goesL_ (some 11) rfl rfl Try.func42 (by kernel_rfl) rfl #[.int .i64 a0, .slice Ao8 y759.length co8] rfl gl ?_; (with_reducible refine (annealref1_nans.calls k a0 _ _ y759 true t763 _ ?side1 ?side2 A3.out).mono ?_); (case side1 => repeat (first | exact (Kd.R_reads' HO761.out).2.2 | (with_reducible refine Kd.C_alloc ?_ _) | (with_reducible refine Kd.C_drewN ?_ _) | (with_reducible refine Kd.C_drew ?_))); (case side2 => exact (Kd.R_reads' HO761.out).2.1); rintro e w' ⟨rfl, ⟨nd, rfl⟩⟩; refine ⟨_, rfl, ?_⟩) | ((with_reducible refine gate_callee (f := 30) rfl ?_); refine goesL_ (some 17) rfl rfl Try.func30 (by kernel_rfl) rfl #[.int .i64 a0] rfl gl ?_; (with_reducible refine (annealref1_Mask.calls a0 t764 _ A5.out).mono ?_); rintro e w' ⟨rfl, ⟨nd, rfl⟩⟩; refine ⟨_, rfl, ?_⟩))
  go_ret
  exact ⟨by first | rfl | (simp [errW_none, errW_some] <;> rfl) | (simp [*, errW_none, errW_some] <;> rfl), bl0 HB.out⟩
 ·replace c4 := Bool.eq_false_iff.mpr c4
  subst c4
  have H1 : ((annealref1_sign.f a0 true).bind fun t765 => ((annealref1_Mask.f a0).bind fun t766 => (some (Go.bits .and .u32 (Go.bits .xor .u32 a1 t765) t766)))) = some r := by rw [if_neg (show ¬ (false = true) by decide)] at H; exact H
  clear H
  have H := H1
  clear H1
  replace H := Option.bind_eq_some_iff.mp H
  obtain ⟨t765, A90, H⟩ := H
  replace H : ((annealref1_Mask.f a0).bind fun t766 => (some (Go.bits .and .u32 (Go.bits .xor .u32 a1 t765) t766))) = some r := H
  have A9 := Aside0.mk A90
  clear A90
  replace H := Option.bind_eq_some_iff.mp H
  obtain ⟨t766, A100, H⟩ := H
  replace H : (some (Go.bits .and .u32 (Go.bits .xor .u32 a1 t765) t766)) = some r := H
  have A10 := Aside0.mk A100
  clear A100
  obtain rfl := Option.some.inj H
  go_enter Try.func28, Try.ntmps28
  go_wp2_with (first | ((with_reducible refine gate_dst (N := 10) rfl ?_); refine Kd.R_lit (Kd.int .u32) _ 22 ?hg (N := 10) ?hd (xs := ([a1] : List Int)) (inner := [.int .u32 a1]) (ok := fun _ => True) (okp := fun _ => True) ?hr ?hp (fun _ hk => hk) trivial (Below.refl _ _) (Nat.le_refl _) (by simp) ?_; (case hd => rfl); (case hg => rfl); (case hr => first | (go_simp; done) | (go_simp; rfl)); (case hp => exact (Reps.one (show Kd.M (Kd.int .u32) _ _ _ a1 [.int .u32 a1] from rfl) (Reps.none _ _))); intro v760 w11 ho12 hb hg_ hnew_; clear hg_ hnew_; (first | rw [← Ny759.out] at ho12 | (simp only [Int.reduceToNat] at ho12; rw [← Ny759.out] at ho12)); have n0_ := Aside0.mk (Kd.R_lower ho12 (below_size (bl0 HB.out))); have n1_ := Aside0.mk (below_step (bl0 HB.out) hb); clear HB; have HO761 := n0_; have HB := n1_; clear n0_ n1_; clear hb ho12; obtain ⟨Ao13, co13, eo13⟩ := Kd.R_slice HO761.out; subst eo13) | ((with_reducible refine gate_callee (f := 42) rfl ?_); refine goesL_ (some 11) rfl rfl Try.func42 (by kernel_rfl) rfl #[.int .i64 a0, .slice Ao13 y759.length co13] rfl gl ?_; (with_reducible refine (annealref1_nans.calls k a0 _ _ y759 false t763 _ ?side1 ?side2 A3.out).mono ?_); (case side1 => repeat (first | exact (Kd.R_reads' HO761.out).2.2 | (with_reducible refine Kd.C_alloc ?_ _) | (with_reducible refine Kd.C_drewN ?_ _) | (with_reducible refine Kd.C_drew ?_))); (case side2 => exact (Kd.R_reads' HO761.out).2.1); rintro e w' ⟨rfl, ⟨nd, rfl⟩⟩; refine ⟨_, rfl, ?_⟩) | ((with_reducible refine gate_callee (f := 41) rfl ?_); refine goesL_ (some 21) rfl rfl Try.func41 (by kernel_rfl) rfl #[.int .i64 a0, .bool true] rfl gl ?_; (with_reducible refine (annealref1_sign.calls a0 true t765 _ A9.out).mono ?_); rintro e w' ⟨rfl, ⟨nd, rfl⟩⟩; refine ⟨_, rfl, ?_⟩) | ((with_reducible refine gate_callee (f := 30) rfl ?_); refine goesL_ (some 24) rfl rfl Try.func30 (by kernel_rfl) rfl #[.int .i64 a0] rfl gl ?_; (with_reducible refine (annealref1_Mask.calls a0 t766 _ A10.out).mono ?_); rintro e w' ⟨rfl, ⟨nd, rfl⟩⟩; refine ⟨_, rfl, ?_⟩))
  go_ret
  exact ⟨by first | rfl | (simp [errW_none, errW_some] <;> rfl) | (simp [*, errW_none, errW_some] <;> rfl), bl0 HB.out⟩

/-! ### anneallaw5_FmaErrors: function 8 -/
def anneallaw5_FmaErrors.f (k : Nat) (a0 : Int) (a1 : Int) : Option (Bool) := (anneallaw5_known.f k).bind fun t767 => (if t767 = true then ((annealseat_Mild.f 2 a0).bind fun t768 => ((annealseat_Mild.f 2 a1).bind fun t769 => ((prod_Mul.f k 2 0 t768 t769).bind fun bt770 => ((annealref1_Minus.f k 2 bt770.1).bind fun t777 => ((prod_Fma.f k 2 0 t768 t769 t777).bind fun bt778 => (if (!bt778.2.1 && (!bt778.2.2.1 && (!bt778.2.2.2.1 && (!bt778.2.2.2.2.1 && (!bt778.2.2.2.2.2))))) = true then ((annealref1_Class.f k 2 bt778.1).bind fun t785 => (some ((t785 == 0) == (!bt770.2.2.2.2.2)))) else (some false))))))) else (some false))
set_option maxHeartbeats 8000000 in
set_option maxRecDepth 100000 in
theorem anneallaw5_FmaErrors.calls (k : Nat) (a0 : Int) (a1 : Int) (r : Bool) (w : World) (h : anneallaw5_FmaErrors.f k a0 a1 = some r) :
  Calls Try.prog 8 #[.int .u32 a0, .int .u32 a1] w fun e w' => e = .returned (.bool r) ∧ Below w.heap.size w w' := by
 have hu27 := Try.underlying27
 have HB := Aside0.mk (Below.refl w.heap.size w)
 have H : ((anneallaw5_known.f k).bind fun t767 => (if t767 = true then ((annealseat_Mild.f 2 a0).bind fun t768 => ((annealseat_Mild.f 2 a1).bind fun t769 => ((prod_Mul.f k 2 0 t768 t769).bind fun bt770 => ((annealref1_Minus.f k 2 bt770.1).bind fun t777 => ((prod_Fma.f k 2 0 t768 t769 t777).bind fun bt778 => (if (!bt778.2.1 && (!bt778.2.2.1 && (!bt778.2.2.2.1 && (!bt778.2.2.2.2.1 && (!bt778.2.2.2.2.2))))) = true then ((annealref1_Class.f k 2 bt778.1).bind fun t785 => (some ((t785 == 0) == (!bt770.2.2.2.2.2)))) else (some false))))))) else (some false))) = some r := h
 clear h
 replace H := Option.bind_eq_some_iff.mp H
 obtain ⟨t767, A30, H⟩ := H
 replace H : (if t767 = true then ((annealseat_Mild.f 2 a0).bind fun t768 => ((annealseat_Mild.f 2 a1).bind fun t769 => ((prod_Mul.f k 2 0 t768 t769).bind fun bt770 => ((annealref1_Minus.f k 2 bt770.1).bind fun t777 => ((prod_Fma.f k 2 0 t768 t769 t777).bind fun bt778 => (if (!bt778.2.1 && (!bt778.2.2.1 && (!bt778.2.2.2.1 && (!bt778.2.2.2.2.1 && (!bt778.2.2.2.2.2))))) = true then ((annealref1_Class.f k 2 bt778.1).bind fun t785 => (some ((t785 == 0) == (!bt770.2.2.2.2.2)))) else (some false))))))) else (some false)) = some r := H
 have A3 := Aside0.mk A30
 clear A30
 by_cases c4 : t767 = true
 ·subst c4
  have H1 : ((annealseat_Mild.f 2 a0).bind fun t768 => ((annealseat_Mild.f 2 a1).bind fun t769 => ((prod_Mul.f k 2 0 t768 t769).bind fun bt770 => ((annealref1_Minus.f k 2 bt770.1).bind fun t777 => ((prod_Fma.f k 2 0 t768 t769 t777).bind fun bt778 => (if (!bt778.2.1 && (!bt778.2.2.1 && (!bt778.2.2.2.1 && (!bt778.2.2.2.2.1 && (!bt778.2.2.2.2.2))))) = true then ((annealref1_Class.f k 2 bt778.1).bind fun t785 => (some ((t785 == 0) == (!bt770.2.2.2.2.2)))) else (some false))))))) = some r := by rw [if_pos rfl] at H; exact H
  clear H
  have H := H1
  clear H1
  replace H := Option.bind_eq_some_iff.mp H
  obtain ⟨t768, A50, H⟩ := H
  replace H : ((annealseat_Mild.f 2 a1).bind fun t769 => ((prod_Mul.f k 2 0 t768 t769).bind fun bt770 => ((annealref1_Minus.f k 2 bt770.1).bind fun t777 => ((prod_Fma.f k 2 0 t768 t769 t777).bind fun bt778 => (if (!bt778.2.1 && (!bt778.2.2.1 && (!bt778.2.2.2.1 && (!bt778.2.2.2.2.1 && (!bt778.2.2.2.2.2))))) = true then ((annealref1_Class.f k 2 bt778.1).bind fun t785 => (some ((t785 == 0) == (!bt770.2.2.2.2.2)))) else (some false)))))) = some r := H
  have A5 := Aside0.mk A50
  clear A50
  replace H := Option.bind_eq_some_iff.mp H
  obtain ⟨t769, A60, H⟩ := H
  replace H : ((prod_Mul.f k 2 0 t768 t769).bind fun bt770 => ((annealref1_Minus.f k 2 bt770.1).bind fun t777 => ((prod_Fma.f k 2 0 t768 t769 t777).bind fun bt778 => (if (!bt778.2.1 && (!bt778.2.2.1 && (!bt778.2.2.2.1 && (!bt778.2.2.2.2.1 && (!bt778.2.2.2.2.2))))) = true then ((annealref1_Class.f k 2 bt778.1).bind fun t785 => (some ((t785 == 0) == (!bt770.2.2.2.2.2)))) else (some false))))) = some r := H
  have A6 := Aside0.mk A60
  clear A60
  replace H := Option.bind_eq_some_iff.mp H
  obtain ⟨⟨t770, t771, t772, t773, t774, t775⟩, A70, H⟩ := H
  replace H : ((annealref1_Minus.f k 2 t770).bind fun t777 => ((prod_Fma.f k 2 0 t768 t769 t777).bind fun bt778 => (if (!bt778.2.1 && (!bt778.2.2.1 && (!bt778.2.2.2.1 && (!bt778.2.2.2.2.1 && (!bt778.2.2.2.2.2))))) = true then ((annealref1_Class.f k 2 bt778.1).bind fun t785 => (some ((t785 == 0) == (!t775)))) else (some false)))) = some r := H
  have A7 := Aside0.mk A70
  clear A70
  replace H := Option.bind_eq_some_iff.mp H
  obtain ⟨t777, A80, H⟩ := H
  replace H : ((prod_Fma.f k 2 0 t768 t769 t777).bind fun bt778 => (if (!bt778.2.1 && (!bt778.2.2.1 && (!bt778.2.2.2.1 && (!bt778.2.2.2.2.1 && (!bt778.2.2.2.2.2))))) = true then ((annealref1_Class.f k 2 bt778.1).bind fun t785 => (some ((t785 == 0) == (!t775)))) else (some false))) = some r := H
  have A8 := Aside0.mk A80
  clear A80
  replace H := Option.bind_eq_some_iff.mp H
  obtain ⟨⟨t778, t779, t780, t781, t782, t783⟩, A90, H⟩ := H
  replace H : (if (!t779 && (!t780 && (!t781 && (!t782 && (!t783))))) = true then ((annealref1_Class.f k 2 t778).bind fun t785 => (some ((t785 == 0) == (!t775)))) else (some false)) = some r := H
  have A9 := Aside0.mk A90
  clear A90
  by_cases c10 : (!t779 && (!t780 && (!t781 && (!t782 && (!t783))))) = true
  ·rw [if_pos c10] at H
   have c10b0 : (!t779 && (!t780 && (!t781 && (!t782 && (!t783))))) = true := c10
   clear c10
   replace H := Option.bind_eq_some_iff.mp H
   obtain ⟨t785, A110, H⟩ := H
   replace H : (some ((t785 == 0) == (!t775))) = some r := H
   have A11 := Aside0.mk A110
   clear A110
   obtain rfl := Option.some.inj H
   go_enter Try.func8, Try.ntmps8
   go_wp2_with (first | (go_at_call 21; (with_reducible refine (anneallaw5_known.calls k  true _ A3.out).mono ?_); rintro e w12 ⟨rfl, hb⟩; have n0_ := Aside0.mk (below_step (bl0 HB.out) hb); clear HB; have HB := n0_; clear n0_) | (go_at_call 17; (with_reducible refine (annealseat_Mild.calls 2 a0 t768 _ A5.out).mono ?_); rintro e w' ⟨rfl, ⟨nd, rfl⟩⟩; (try first | exact ⟨rfl, _, World.drewN_drewN _ _ _⟩ | exact ⟨rfl, _, Eq.trans (World.drewN_drewN _ _ _) (congrArg (World.drewN _) (Nat.add_assoc _ _ _))⟩)) | (go_at_call 17; (with_reducible refine (annealseat_Mild.calls 2 a1 t769 _ A6.out).mono ?_); rintro e w' ⟨rfl, ⟨nd, rfl⟩⟩; (try first | exact ⟨rfl, _, World.drewN_drewN _ _ _⟩ | exact ⟨rfl, _, Eq.trans (World.drewN_drewN _ _ _) (congrArg (World.drewN _) (Nat.add_assoc _ _ _))⟩)) | (go_at_call 23; (with_reducible refine (prod_Mul.calls k 2 0 t768 t769 t770 t771 t772 t773 t774 t775 _ A7.out).mono ?_); rintro e w13 ⟨rfl, hb⟩; have n0_ := Aside0.mk (below_step (bl0 HB.out) hb); clear HB; have HB := n0_; clear n0_) | ((with_reducible refine gate_dst (N := 8) rfl ?_); refine box_event ?hg (N := 8) ?hd (cs := F5) (t := 27) ?hr ?_; (case hd => rfl); (case hg => rfl); (case hr => first | (go_simp; done) | (go_simp; rfl)); intro gb776 hg w14 hbox hb; have n0_ := Aside0.mk (below_step (bl0 HB.out) hb); have n1_ := Aside0.mk (hbox); have n2_ := Aside0.mk ((by rw [hg]; exact (below_size (bl0 HB.out)) : w.heap.size ≤ gb776)); have n3_ := n2_; clear HB; have HB := n0_; have BK776 := n1_; have GW776 := n2_; have GE776 := n3_; clear n0_ n1_ n2_ n3_; clear hb hbox hg; obtain ⟨hcz15_0, hcz15_1, hcz15_2, hcz15_3, hcz15_4⟩ := bc5 BK776.out; obtain ⟨hfz15_0, hfz15_1, hfz15_2, hfz15_3, hfz15_4⟩ := bf5 BK776.out) | (go_at_call 28; (with_reducible refine (annealref1_Minus.calls k 2 t770 t777 _ A8.out).mono ?_); rintro e w16 ⟨rfl, hb⟩; have n0_ := Aside0.mk (blk_below (g := gb776) (o := .cells #[.bool t771, .bool t772, .bool t773, .bool t774, .bool t775] 27 (0, 0)) (by (with_reducible repeat first | apply bd | apply be | apply ba); refine blk_put (cs := #[.bool t771, .bool t772, .bool t773, .bool t774, .bool false]) ?_ 4 _ rfl; (with_reducible repeat first | apply bd | apply be | apply ba); refine blk_put (cs := #[.bool t771, .bool t772, .bool t773, .bool false, .bool false]) ?_ 3 _ rfl; (with_reducible repeat first | apply bd | apply be | apply ba); refine blk_put (cs := #[.bool t771, .bool t772, .bool false, .bool false, .bool false]) ?_ 2 _ rfl; (with_reducible repeat first | apply bd | apply be | apply ba); refine blk_put (cs := #[.bool t771, .bool false, .bool false, .bool false, .bool false]) ?_ 1 _ rfl; (with_reducible repeat first | apply bd | apply be | apply ba); refine blk_put (cs := F5) ?_ 0 _ rfl; (with_reducible repeat first | apply bd | apply be | apply ba); exact BK776.out) hb); have n1_ := Aside0.mk (below_step (bl1 HB.out GE776.out) hb); clear BK776; clear HB; have BK776 := n0_; have HB := n1_; clear n0_ n1_) | (go_at_call 27; (with_reducible refine (prod_Fma.calls k 2 0 t768 t769 t777 t778 t779 t780 t781 t782 t783 _ A9.out).mono ?_); rintro e w17 ⟨rfl, hb⟩; have n0_ := Aside0.mk (blk_below (g := gb776) (o := .cells #[.bool t771, .bool t772, .bool t773, .bool t774, .bool t775] 27 (0, 0)) (bv BK776.out) hb); have n1_ := Aside0.mk (below_step (bl1 HB.out GE776.out) hb); clear BK776; clear HB; have BK776 := n0_; have HB := n1_; clear n0_ n1_) | ((with_reducible refine gate_dst (N := 10) rfl ?_); refine box_event ?hg (N := 10) ?hd (cs := F5) (t := 27) ?hr ?_; (case hd => rfl); (case hg => rfl); (case hr => first | (go_simp; done) | (go_simp; rfl)); intro gb784 hg w18 hbox hb; have n0_ := Aside0.mk (blk_below (g := gb776) (o := .cells #[.bool t771, .bool t772, .bool t773, .bool t774, .bool t775] 27 (0, 0)) (bv BK776.out) hb); have n1_ := Aside0.mk (below_step (bl1 HB.out GE776.out) hb); have n2_ := Aside0.mk (hbox); have n3_ := Aside0.mk ((by rw [hg]; exact (below_size (bl1 HB.out GE776.out)) : w.heap.size ≤ gb784)); have n4_ := n3_; have n5_ := Aside0.mk ((by rw [hg]; exact Nat.ne_of_lt (blk_lt (g := gb776) (o := .cells #[.bool t771, .bool t772, .bool t773, .bool t774, .bool t775] 27 (0, 0)) (bv BK776.out)) : gb776 ≠ gb784)); have n6_ := Aside0.mk (Ne.symm n5_.out); clear BK776; clear HB; have BK776 := n0_; have HB := n1_; have BK784 := n2_; have GW784 := n3_; have GE784 := n4_; have NB776_784 := n5_; have NB784_776 := n6_; clear n0_ n1_ n2_ n3_ n4_ n5_ n6_; clear hb hbox hg; have hnb19 := NB784_776.out; have hnc19 := NB776_784.out; obtain ⟨hcz20_0, hcz20_1, hcz20_2, hcz20_3, hcz20_4⟩ := bc5 BK784.out; obtain ⟨hfz20_0, hfz20_1, hfz20_2, hfz20_3, hfz20_4⟩ := bf5 BK784.out) | (go_at_call 26; (with_reducible refine (annealref1_Class.calls k 2 t778 t785 _ A11.out).mono ?_); rintro e w' ⟨rfl, ⟨nd, rfl⟩⟩; (try first | exact ⟨rfl, _, World.drewN_drewN _ _ _⟩ | exact ⟨rfl, _, Eq.trans (World.drewN_drewN _ _ _) (congrArg (World.drewN _) (Nat.add_assoc _ _ _))⟩); obtain ⟨hcz21_0, hcz21_1, hcz21_2, hcz21_3, hcz21_4⟩ := bc5 BK776.out; obtain ⟨hfz21_0, hfz21_1, hfz21_2, hfz21_3, hfz21_4⟩ := bf5 BK776.out))
   repeat (go_quiet (first | (go_at_call 21; (with_reducible refine (anneallaw5_known.calls k  true _ A3.out).mono ?_); rintro e w12 ⟨rfl, hb⟩; have n0_ := Aside0.mk (below_step (bl0 HB.out) hb); clear HB; have HB := n0_; clear n0_) | (go_at_call 17; (with_reducible refine (annealseat_Mild.calls 2 a0 t768 _ A5.out).mono ?_); rintro e w' ⟨rfl, ⟨nd, rfl⟩⟩; (try first | exact ⟨rfl, _, World.drewN_drewN _ _ _⟩ | exact ⟨rfl, _, Eq.trans (World.drewN_drewN _ _ _) (congrArg (World.drewN _) (Nat.add_assoc _ _ _))⟩)) | (go_at_call 17; (with_reducible refine (annealseat_Mild.calls 2 a1 t769 _ A6.out).mono ?_); rintro e w' ⟨rfl, ⟨nd, rfl⟩⟩; (try first | exact ⟨rfl, _, World.drewN_drewN _ _ _⟩ | exact ⟨rfl, _, Eq.trans (World.drewN_drewN _ _ _) (congrArg (World.drewN _) (Nat.add_assoc _ _ _))⟩)) | (go_at_call 23; (with_reducible refine (prod_Mul.calls k 2 0 t768 t769 t770 t771 t772 t773 t774 t775 _ A7.out).mono ?_); rintro e w13 ⟨rfl, hb⟩; have n0_ := Aside0.mk (below_step (bl0 HB.out) hb); clear HB; have HB := n0_; clear n0_) | ((with_reducible refine gate_dst (N := 8) rfl ?_); refine box_event ?hg (N := 8) ?hd (cs := F5) (t := 27) ?hr ?_; (case hd => rfl); (case hg => rfl); (case hr => first | (go_simp; done) | (go_simp; rfl)); intro gb776 hg w14 hbox hb; have n0_ := Aside0.mk (below_step (bl0 HB.out) hb); have n1_ := Aside0.mk (hbox); have n2_ := Aside0.mk ((by rw [hg]; exact (below_size (bl0 HB.out)) : w.heap.size ≤ gb776)); have n3_ := n2_; clear HB; have HB := n0_; have BK776 := n1_; have GW776 := n2_; have GE776 := n3_; clear n0_ n1_ n2_ n3_; clear hb hbox hg; obtain ⟨hcz15_0, hcz15_1, hcz15_2, hcz15_3, hcz15_4⟩ := bc5 BK776.out; obtain ⟨hfz15_0, hfz15_1, hfz15_2, hfz15_3, hfz15_4⟩ := bf5 BK776.out) | (go_at_call 28; (with_reducible refine (annealref1_Minus.calls k 2 t770 t777 _ A8.out).mono ?_); rintro e w16 ⟨rfl, hb⟩; have n0_ := Aside0.mk (blk_below (g := gb776) (o := .cells #[.bool t771, .bool t772, .bool t773, .bool t774, .bool t775] 27 (0, 0)) (by (with_reducible repeat first | apply bd | apply be | apply ba); refine blk_put (cs := #[.bool t771, .bool t772, .bool t773, .bool t774, .bool false]) ?_ 4 _ rfl; (with_reducible repeat first | apply bd | apply be | apply ba); refine blk_put (cs := #[.bool t771, .bool t772, .bool t773, .bool false, .bool false]) ?_ 3 _ rfl; (with_reducible repeat first | apply bd | apply be | apply ba); refine blk_put (cs := #[.bool t771, .bool t772, .bool false, .bool false, .bool false]) ?_ 2 _ rfl; (with_reducible repeat first | apply bd | apply be | apply ba); refine blk_put (cs := #[.bool t771, .bool false, .bool false, .bool false, .bool false]) ?_ 1 _ rfl; (with_reducible repeat first | apply bd | apply be | apply ba); refine blk_put (cs := F5) ?_ 0 _ rfl; (with_reducible repeat first | apply bd | apply be | apply ba); exact BK776.out) hb); have n1_ := Aside0.mk (below_step (bl1 HB.out GE776.out) hb); clear BK776; clear HB; have BK776 := n0_; have HB := n1_; clear n0_ n1_) | (go_at_call 27; (with_reducible refine (prod_Fma.calls k 2 0 t768 t769 t777 t778 t779 t780 t781 t782 t783 _ A9.out).mono ?_); rintro e w17 ⟨rfl, hb⟩; have n0_ := Aside0.mk (blk_below (g := gb776) (o := .cells #[.bool t771, .bool t772, .bool t773, .bool t774, .bool t775] 27 (0, 0)) (bv BK776.out) hb); have n1_ := Aside0.mk (below_step (bl1 HB.out GE776.out) hb); clear BK776; clear HB; have BK776 := n0_; have HB := n1_; clear n0_ n1_) | ((with_reducible refine gate_dst (N := 10) rfl ?_); refine box_event ?hg (N := 10) ?hd (cs := F5) (t := 27) ?hr ?_; (case hd => rfl); (case hg => rfl); (case hr => first | (go_simp; done) | (go_simp; rfl)); intro gb784 hg w18 hbox hb; have n0_ := Aside0.mk (blk_below (g := gb776) (o := .cells #[.bool t771, .bool t772, .bool t773, .bool t774, .bool t775] 27 (0, 0)) (bv BK776.out) hb); have n1_ := Aside0.mk (below_step (bl1 HB.out GE776.out) hb); have n2_ := Aside0.mk (hbox); have n3_ := Aside0.mk ((by rw [hg]; exact (below_size (bl1 HB.out GE776.out)) : w.heap.size ≤ gb784)); have n4_ := n3_; have n5_ := Aside0.mk ((by rw [hg]; exact Nat.ne_of_lt (blk_lt (g := gb776) (o := .cells #[.bool t771, .bool t772, .bool t773, .bool t774, .bool t775] 27 (0, 0)) (bv BK776.out)) : gb776 ≠ gb784)); have n6_ := Aside0.mk (Ne.symm n5_.out); clear BK776; clear HB; have BK776 := n0_; have HB := n1_; have BK784 := n2_; have GW784 := n3_; have GE784 := n4_; have NB776_784 := n5_; have NB784_776 := n6_; clear n0_ n1_ n2_ n3_ n4_ n5_ n6_; clear hb hbox hg; have hnb19 := NB784_776.out; have hnc19 := NB776_784.out; obtain ⟨hcz20_0, hcz20_1, hcz20_2, hcz20_3, hcz20_4⟩ := bc5 BK784.out; obtain ⟨hfz20_0, hfz20_1, hfz20_2, hfz20_3, hfz20_4⟩ := bf5 BK784.out) | (go_at_call 26; (with_reducible refine (annealref1_Class.calls k 2 t778 t785 _ A11.out).mono ?_); rintro e w' ⟨rfl, ⟨nd, rfl⟩⟩; (try first | exact ⟨rfl, _, World.drewN_drewN _ _ _⟩ | exact ⟨rfl, _, Eq.trans (World.drewN_drewN _ _ _) (congrArg (World.drewN _) (Nat.add_assoc _ _ _))⟩); obtain ⟨hcz21_0, hcz21_1, hcz21_2, hcz21_3, hcz21_4⟩ := bc5 BK776.out; obtain ⟨hfz21_0, hfz21_1, hfz21_2, hfz21_3, hfz21_4⟩ := bf5 BK776.out)); try go_wp2_with (first | (go_at_call 21; (with_reducible refine (anneallaw5_known.calls k  true _ A3.out).mono ?_); rintro e w12 ⟨rfl, hb⟩; have n0_ := Aside0.mk (below_step (bl0 HB.out) hb); clear HB; have HB := n0_; clear n0_) | (go_at_call 17; (with_reducible refine (annealseat_Mild.calls 2 a0 t768 _ A5.out).mono ?_); rintro e w' ⟨rfl, ⟨nd, rfl⟩⟩; (try first | exact ⟨rfl, _, World.drewN_drewN _ _ _⟩ | exact ⟨rfl, _, Eq.trans (World.drewN_drewN _ _ _) (congrArg (World.drewN _) (Nat.add_assoc _ _ _))⟩)) | (go_at_call 17; (with_reducible refine (annealseat_Mild.calls 2 a1 t769 _ A6.out).mono ?_); rintro e w' ⟨rfl, ⟨nd, rfl⟩⟩; (try first | exact ⟨rfl, _, World.drewN_drewN _ _ _⟩ | exact ⟨rfl, _, Eq.trans (World.drewN_drewN _ _ _) (congrArg (World.drewN _) (Nat.add_assoc _ _ _))⟩)) | (go_at_call 23; (with_reducible refine (prod_Mul.calls k 2 0 t768 t769 t770 t771 t772 t773 t774 t775 _ A7.out).mono ?_); rintro e w13 ⟨rfl, hb⟩; have n0_ := Aside0.mk (below_step (bl0 HB.out) hb); clear HB; have HB := n0_; clear n0_) | ((with_reducible refine gate_dst (N := 8) rfl ?_); refine box_event ?hg (N := 8) ?hd (cs := F5) (t := 27) ?hr ?_; (case hd => rfl); (case hg => rfl); (case hr => first | (go_simp; done) | (go_simp; rfl)); intro gb776 hg w14 hbox hb; have n0_ := Aside0.mk (below_step (bl0 HB.out) hb); have n1_ := Aside0.mk (hbox); have n2_ := Aside0.mk ((by rw [hg]; exact (below_size (bl0 HB.out)) : w.heap.size ≤ gb776)); have n3_ := n2_; clear HB; have HB := n0_; have BK776 := n1_; have GW776 := n2_; have GE776 := n3_; clear n0_ n1_ n2_ n3_; clear hb hbox hg; obtain ⟨hcz15_0, hcz15_1, hcz15_2, hcz15_3, hcz15_4⟩ := bc5 BK776.out; obtain ⟨hfz15_0, hfz15_1, hfz15_2, hfz15_3, hfz15_4⟩ := bf5 BK776.out) | (go_at_call 28; (with_reducible refine (annealref1_Minus.calls k 2 t770 t777 _ A8.out).mono ?_); rintro e w16 ⟨rfl, hb⟩; have n0_ := Aside0.mk (blk_below (g := gb776) (o := .cells #[.bool t771, .bool t772, .bool t773, .bool t774, .bool t775] 27 (0, 0)) (by (with_reducible repeat first | apply bd | apply be | apply ba); refine blk_put (cs := #[.bool t771, .bool t772, .bool t773, .bool t774, .bool false]) ?_ 4 _ rfl; (with_reducible repeat first | apply bd | apply be | apply ba); refine blk_put (cs := #[.bool t771, .bool t772, .bool t773, .bool false, .bool false]) ?_ 3 _ rfl; (with_reducible repeat first | apply bd | apply be | apply ba); refine blk_put (cs := #[.bool t771, .bool t772, .bool false, .bool false, .bool false]) ?_ 2 _ rfl; (with_reducible repeat first | apply bd | apply be | apply ba); refine blk_put (cs := #[.bool t771, .bool false, .bool false, .bool false, .bool false]) ?_ 1 _ rfl; (with_reducible repeat first | apply bd | apply be | apply ba); refine blk_put (cs := F5) ?_ 0 _ rfl; (with_reducible repeat first | apply bd | apply be | apply ba); exact BK776.out) hb); have n1_ := Aside0.mk (below_step (bl1 HB.out GE776.out) hb); clear BK776; clear HB; have BK776 := n0_; have HB := n1_; clear n0_ n1_) | (go_at_call 27; (with_reducible refine (prod_Fma.calls k 2 0 t768 t769 t777 t778 t779 t780 t781 t782 t783 _ A9.out).mono ?_); rintro e w17 ⟨rfl, hb⟩; have n0_ := Aside0.mk (blk_below (g := gb776) (o := .cells #[.bool t771, .bool t772, .bool t773, .bool t774, .bool t775] 27 (0, 0)) (bv BK776.out) hb); have n1_ := Aside0.mk (below_step (bl1 HB.out GE776.out) hb); clear BK776; clear HB; have BK776 := n0_; have HB := n1_; clear n0_ n1_) | ((with_reducible refine gate_dst (N := 10) rfl ?_); refine box_event ?hg (N := 10) ?hd (cs := F5) (t := 27) ?hr ?_; (case hd => rfl); (case hg => rfl); (case hr => first | (go_simp; done) | (go_simp; rfl)); intro gb784 hg w18 hbox hb; have n0_ := Aside0.mk (blk_below (g := gb776) (o := .cells #[.bool t771, .bool t772, .bool t773, .bool t774, .bool t775] 27 (0, 0)) (bv BK776.out) hb); have n1_ := Aside0.mk (below_step (bl1 HB.out GE776.out) hb); have n2_ := Aside0.mk (hbox); have n3_ := Aside0.mk ((by rw [hg]; exact (below_size (bl1 HB.out GE776.out)) : w.heap.size ≤ gb784)); have n4_ := n3_; have n5_ := Aside0.mk ((by rw [hg]; exact Nat.ne_of_lt (blk_lt (g := gb776) (o := .cells #[.bool t771, .bool t772, .bool t773, .bool t774, .bool t775] 27 (0, 0)) (bv BK776.out)) : gb776 ≠ gb784)); have n6_ := Aside0.mk (Ne.symm n5_.out); clear BK776; clear HB; have BK776 := n0_; have HB := n1_; have BK784 := n2_; have GW784 := n3_; have GE784 := n4_; have NB776_784 := n5_; have NB784_776 := n6_; clear n0_ n1_ n2_ n3_ n4_ n5_ n6_; clear hb hbox hg; have hnb19 := NB784_776.out; have hnc19 := NB776_784.out; obtain ⟨hcz20_0, hcz20_1, hcz20_2, hcz20_3, hcz20_4⟩ := bc5 BK784.out; obtain ⟨hfz20_0, hfz20_1, hfz20_2, hfz20_3, hfz20_4⟩ := bf5 BK784.out) | (go_at_call 26; (with_reducible refine (annealref1_Class.calls k 2 t778 t785 _ A11.out).mono ?_); rintro e w' ⟨rfl, ⟨nd, rfl⟩⟩; (try first | exact ⟨rfl, _, World.drewN_drewN _ _ _⟩ | exact ⟨rfl, _, Eq.trans (World.drewN_drewN _ _ _) (congrArg (World.drewN _) (Nat.add_assoc _ _ _))⟩); obtain ⟨hcz21_0, hcz21_1, hcz21_2, hcz21_3, hcz21_4⟩ := bc5 BK776.out; obtain ⟨hfz21_0, hfz21_1, hfz21_2, hfz21_3, hfz21_4⟩ := bf5 BK776.out)))
   go_ret
   exact ⟨by first | rfl | (simp [errW_none, errW_some] <;> rfl) | (simp [*, errW_none, errW_some] <;> rfl), bl2 HB.out GE776.out GE784.out⟩
  ·rw [if_neg c10] at H
   have c10b0 : (!t779 && (!t780 && (!t781 && (!t782 && (!t783))))) = false := by simpa using c10
   clear c10
   obtain rfl := Option.some.inj H
   go_enter Try.func8, Try.ntmps8
   go_wp2_with (first | (go_at_call 21; (with_reducible refine (anneallaw5_known.calls k  true _ A3.out).mono ?_); rintro e w22 ⟨rfl, hb⟩; have n0_ := Aside0.mk (below_step (bl0 HB.out) hb); clear HB; have HB := n0_; clear n0_) | (go_at_call 17; (with_reducible refine (annealseat_Mild.calls 2 a0 t768 _ A5.out).mono ?_); rintro e w' ⟨rfl, ⟨nd, rfl⟩⟩; (try first | exact ⟨rfl, _, World.drewN_drewN _ _ _⟩ | exact ⟨rfl, _, Eq.trans (World.drewN_drewN _ _ _) (congrArg (World.drewN _) (Nat.add_assoc _ _ _))⟩)) | (go_at_call 17; (with_reducible refine (annealseat_Mild.calls 2 a1 t769 _ A6.out).mono ?_); rintro e w' ⟨rfl, ⟨nd, rfl⟩⟩; (try first | exact ⟨rfl, _, World.drewN_drewN _ _ _⟩ | exact ⟨rfl, _, Eq.trans (World.drewN_drewN _ _ _) (congrArg (World.drewN _) (Nat.add_assoc _ _ _))⟩)) | (go_at_call 23; (with_reducible refine (prod_Mul.calls k 2 0 t768 t769 t770 t771 t772 t773 t774 t775 _ A7.out).mono ?_); rintro e w23 ⟨rfl, hb⟩; have n0_ := Aside0.mk (below_step (bl0 HB.out) hb); clear HB; have HB := n0_; clear n0_) | ((with_reducible refine gate_dst (N := 8) rfl ?_); refine box_event ?hg (N := 8) ?hd (cs := F5) (t := 27) ?hr ?_; (case hd => rfl); (case hg => rfl); (case hr => first | (go_simp; done) | (go_simp; rfl)); intro gb776 hg w24 hbox hb; have n0_ := Aside0.mk (below_step (bl0 HB.out) hb); have n1_ := Aside0.mk (hbox); have n2_ := Aside0.mk ((by rw [hg]; exact (below_size (bl0 HB.out)) : w.heap.size ≤ gb776)); have n3_ := n2_; clear HB; have HB := n0_; have BK776 := n1_; have GW776 := n2_; have GE776 := n3_; clear n0_ n1_ n2_ n3_; clear hb hbox hg; obtain ⟨hcz25_0, hcz25_1, hcz25_2, hcz25_3, hcz25_4⟩ := bc5 BK776.out; obtain ⟨hfz25_0, hfz25_1, hfz25_2, hfz25_3, hfz25_4⟩ := bf5 BK776.out) | (go_at_call 28; (with_reducible refine (annealref1_Minus.calls k 2 t770 t777 _ A8.out).mono ?_); rintro e w26 ⟨rfl, hb⟩; have n0_ := Aside0.mk (blk_below (g := gb776) (o := .cells #[.bool t771, .bool t772, .bool t773, .bool t774, .bool t775] 27 (0, 0)) (by (with_reducible repeat first | apply bd | apply be | apply ba); refine blk_put (cs := #[.bool t771, .bool t772, .bool t773, .bool t774, .bool false]) ?_ 4 _ rfl; (with_reducible repeat first | apply bd | apply be | apply ba); refine blk_put (cs := #[.bool t771, .bool t772, .bool t773, .bool false, .bool false]) ?_ 3 _ rfl; (with_reducible repeat first | apply bd | apply be | apply ba); refine blk_put (cs := #[.bool t771, .bool t772, .bool false, .bool false, .bool false]) ?_ 2 _ rfl; (with_reducible repeat first | apply bd | apply be | apply ba); refine blk_put (cs := #[.bool t771, .bool false, .bool false, .bool false, .bool false]) ?_ 1 _ rfl; (with_reducible repeat first | apply bd | apply be | apply ba); refine blk_put (cs := F5) ?_ 0 _ rfl; (with_reducible repeat first | apply bd | apply be | apply ba); exact BK776.out) hb); have n1_ := Aside0.mk (below_step (bl1 HB.out GE776.out) hb); clear BK776; clear HB; have BK776 := n0_; have HB := n1_; clear n0_ n1_) | (go_at_call 27; (with_reducible refine (prod_Fma.calls k 2 0 t768 t769 t777 t778 t779 t780 t781 t782 t783 _ A9.out).mono ?_); rintro e w27 ⟨rfl, hb⟩; have n0_ := Aside0.mk (blk_below (g := gb776) (o := .cells #[.bool t771, .bool t772, .bool t773, .bool t774, .bool t775] 27 (0, 0)) (bv BK776.out) hb); have n1_ := Aside0.mk (below_step (bl1 HB.out GE776.out) hb); clear BK776; clear HB; have BK776 := n0_; have HB := n1_; clear n0_ n1_) | ((with_reducible refine gate_dst (N := 10) rfl ?_); refine box_event ?hg (N := 10) ?hd (cs := F5) (t := 27) ?hr ?_; (case hd => rfl); (case hg => rfl); (case hr => first | (go_simp; done) | (go_simp; rfl)); intro gb784 hg w28 hbox hb; have n0_ := Aside0.mk (blk_below (g := gb776) (o := .cells #[.bool t771, .bool t772, .bool t773, .bool t774, .bool t775] 27 (0, 0)) (bv BK776.out) hb); have n1_ := Aside0.mk (below_step (bl1 HB.out GE776.out) hb); have n2_ := Aside0.mk (hbox); have n3_ := Aside0.mk ((by rw [hg]; exact (below_size (bl1 HB.out GE776.out)) : w.heap.size ≤ gb784)); have n4_ := n3_; have n5_ := Aside0.mk ((by rw [hg]; exact Nat.ne_of_lt (blk_lt (g := gb776) (o := .cells #[.bool t771, .bool t772, .bool t773, .bool t774, .bool t775] 27 (0, 0)) (bv BK776.out)) : gb776 ≠ gb784)); have n6_ := Aside0.mk (Ne.symm n5_.out); clear BK776; clear HB; have BK776 := n0_; have HB := n1_; have BK784 := n2_; have GW784 := n3_; have GE784 := n4_; have NB776_784 := n5_; have NB784_776 := n6_; clear n0_ n1_ n2_ n3_ n4_ n5_ n6_; clear hb hbox hg; have hnb29 := NB784_776.out; have hnc29 := NB776_784.out; obtain ⟨hcz30_0, hcz30_1, hcz30_2, hcz30_3, hcz30_4⟩ := bc5 BK784.out; obtain ⟨hfz30_0, hfz30_1, hfz30_2, hfz30_3, hfz30_4⟩ := bf5 BK784.out))
   repeat (go_quiet (first | (go_at_call 21; (with_reducible refine (anneallaw5_known.calls k  true _ A3.out).mono ?_); rintro e w22 ⟨rfl, hb⟩; have n0_ := Aside0.mk (below_step (bl0 HB.out) hb); clear HB; have HB := n0_; clear n0_) | (go_at_call 17; (with_reducible refine (annealseat_Mild.calls 2 a0 t768 _ A5.out).mono ?_); rintro e w' ⟨rfl, ⟨nd, rfl⟩⟩; (try first | exact ⟨rfl, _, World.drewN_drewN _ _ _⟩ | exact ⟨rfl, _, Eq.trans (World.drewN_drewN _ _ _) (congrArg (World.drewN _) (Nat.add_assoc _ _ _))⟩)) | (go_at_call 17; (with_reducible refine (annealseat_Mild.calls 2 a1 t769 _ A6.out).mono ?_); rintro e w' ⟨rfl, ⟨nd, rfl⟩⟩; (try first | exact ⟨rfl, _, World.drewN_drewN _ _ _⟩ | exact ⟨rfl, _, Eq.trans (World.drewN_drewN _ _ _) (congrArg (World.drewN _) (Nat.add_assoc _ _ _))⟩)) | (go_at_call 23; (with_reducible refine (prod_Mul.calls k 2 0 t768 t769 t770 t771 t772 t773 t774 t775 _ A7.out).mono ?_); rintro e w23 ⟨rfl, hb⟩; have n0_ := Aside0.mk (below_step (bl0 HB.out) hb); clear HB; have HB := n0_; clear n0_) | ((with_reducible refine gate_dst (N := 8) rfl ?_); refine box_event ?hg (N := 8) ?hd (cs := F5) (t := 27) ?hr ?_; (case hd => rfl); (case hg => rfl); (case hr => first | (go_simp; done) | (go_simp; rfl)); intro gb776 hg w24 hbox hb; have n0_ := Aside0.mk (below_step (bl0 HB.out) hb); have n1_ := Aside0.mk (hbox); have n2_ := Aside0.mk ((by rw [hg]; exact (below_size (bl0 HB.out)) : w.heap.size ≤ gb776)); have n3_ := n2_; clear HB; have HB := n0_; have BK776 := n1_; have GW776 := n2_; have GE776 := n3_; clear n0_ n1_ n2_ n3_; clear hb hbox hg; obtain ⟨hcz25_0, hcz25_1, hcz25_2, hcz25_3, hcz25_4⟩ := bc5 BK776.out; obtain ⟨hfz25_0, hfz25_1, hfz25_2, hfz25_3, hfz25_4⟩ := bf5 BK776.out) | (go_at_call 28; (with_reducible refine (annealref1_Minus.calls k 2 t770 t777 _ A8.out).mono ?_); rintro e w26 ⟨rfl, hb⟩; have n0_ := Aside0.mk (blk_below (g := gb776) (o := .cells #[.bool t771, .bool t772, .bool t773, .bool t774, .bool t775] 27 (0, 0)) (by (with_reducible repeat first | apply bd | apply be | apply ba); refine blk_put (cs := #[.bool t771, .bool t772, .bool t773, .bool t774, .bool false]) ?_ 4 _ rfl; (with_reducible repeat first | apply bd | apply be | apply ba); refine blk_put (cs := #[.bool t771, .bool t772, .bool t773, .bool false, .bool false]) ?_ 3 _ rfl; (with_reducible repeat first | apply bd | apply be | apply ba); refine blk_put (cs := #[.bool t771, .bool t772, .bool false, .bool false, .bool false]) ?_ 2 _ rfl; (with_reducible repeat first | apply bd | apply be | apply ba); refine blk_put (cs := #[.bool t771, .bool false, .bool false, .bool false, .bool false]) ?_ 1 _ rfl; (with_reducible repeat first | apply bd | apply be | apply ba); refine blk_put (cs := F5) ?_ 0 _ rfl; (with_reducible repeat first | apply bd | apply be | apply ba); exact BK776.out) hb); have n1_ := Aside0.mk (below_step (bl1 HB.out GE776.out) hb); clear BK776; clear HB; have BK776 := n0_; have HB := n1_; clear n0_ n1_) | (go_at_call 27; (with_reducible refine (prod_Fma.calls k 2 0 t768 t769 t777 t778 t779 t780 t781 t782 t783 _ A9.out).mono ?_); rintro e w27 ⟨rfl, hb⟩; have n0_ := Aside0.mk (blk_below (g := gb776) (o := .cells #[.bool t771, .bool t772, .bool t773, .bool t774, .bool t775] 27 (0, 0)) (bv BK776.out) hb); have n1_ := Aside0.mk (below_step (bl1 HB.out GE776.out) hb); clear BK776; clear HB; have BK776 := n0_; have HB := n1_; clear n0_ n1_) | ((with_reducible refine gate_dst (N := 10) rfl ?_); refine box_event ?hg (N := 10) ?hd (cs := F5) (t := 27) ?hr ?_; (case hd => rfl); (case hg => rfl); (case hr => first | (go_simp; done) | (go_simp; rfl)); intro gb784 hg w28 hbox hb; have n0_ := Aside0.mk (blk_below (g := gb776) (o := .cells #[.bool t771, .bool t772, .bool t773, .bool t774, .bool t775] 27 (0, 0)) (bv BK776.out) hb); have n1_ := Aside0.mk (below_step (bl1 HB.out GE776.out) hb); have n2_ := Aside0.mk (hbox); have n3_ := Aside0.mk ((by rw [hg]; exact (below_size (bl1 HB.out GE776.out)) : w.heap.size ≤ gb784)); have n4_ := n3_; have n5_ := Aside0.mk ((by rw [hg]; exact Nat.ne_of_lt (blk_lt (g := gb776) (o := .cells #[.bool t771, .bool t772, .bool t773, .bool t774, .bool t775] 27 (0, 0)) (bv BK776.out)) : gb776 ≠ gb784)); have n6_ := Aside0.mk (Ne.symm n5_.out); clear BK776; clear HB; have BK776 := n0_; have HB := n1_; have BK784 := n2_; have GW784 := n3_; have GE784 := n4_; have NB776_784 := n5_; have NB784_776 := n6_; clear n0_ n1_ n2_ n3_ n4_ n5_ n6_; clear hb hbox hg; have hnb29 := NB784_776.out; have hnc29 := NB776_784.out; obtain ⟨hcz30_0, hcz30_1, hcz30_2, hcz30_3, hcz30_4⟩ := bc5 BK784.out; obtain ⟨hfz30_0, hfz30_1, hfz30_2, hfz30_3, hfz30_4⟩ := bf5 BK784.out)); try go_wp2_with (first | (go_at_call 21; (with_reducible refine (anneallaw5_known.calls k  true _ A3.out).mono ?_); rintro e w22 ⟨rfl, hb⟩; have n0_ := Aside0.mk (below_step (bl0 HB.out) hb); clear HB; have HB := n0_; clear n0_) | (go_at_call 17; (with_reducible refine (annealseat_Mild.calls 2 a0 t768 _ A5.out).mono ?_); rintro e w' ⟨rfl, ⟨nd, rfl⟩⟩; (try first | exact ⟨rfl, _, World.drewN_drewN _ _ _⟩ | exact ⟨rfl, _, Eq.trans (World.drewN_drewN _ _ _) (congrArg (World.drewN _) (Nat.add_assoc _ _ _))⟩)) | (go_at_call 17; (with_reducible refine (annealseat_Mild.calls 2 a1 t769 _ A6.out).mono ?_); rintro e w' ⟨rfl, ⟨nd, rfl⟩⟩; (try first | exact ⟨rfl, _, World.drewN_drewN _ _ _⟩ | exact ⟨rfl, _, Eq.trans (World.drewN_drewN _ _ _) (congrArg (World.drewN _) (Nat.add_assoc _ _ _))⟩)) | (go_at_call 23; (with_reducible refine (prod_Mul.calls k 2 0 t768 t769 t770 t771 t772 t773 t774 t775 _ A7.out).mono ?_); rintro e w23 ⟨rfl, hb⟩; have n0_ := Aside0.mk (below_step (bl0 HB.out) hb); clear HB; have HB := n0_; clear n0_) | ((with_reducible refine gate_dst (N := 8) rfl ?_); refine box_event ?hg (N := 8) ?hd (cs := F5) (t := 27) ?hr ?_; (case hd => rfl); (case hg => rfl); (case hr => first | (go_simp; done) | (go_simp; rfl)); intro gb776 hg w24 hbox hb; have n0_ := Aside0.mk (below_step (bl0 HB.out) hb); have n1_ := Aside0.mk (hbox); have n2_ := Aside0.mk ((by rw [hg]; exact (below_size (bl0 HB.out)) : w.heap.size ≤ gb776)); have n3_ := n2_; clear HB; have HB := n0_; have BK776 := n1_; have GW776 := n2_; have GE776 := n3_; clear n0_ n1_ n2_ n3_; clear hb hbox hg; obtain ⟨hcz25_0, hcz25_1, hcz25_2, hcz25_3, hcz25_4⟩ := bc5 BK776.out; obtain ⟨hfz25_0, hfz25_1, hfz25_2, hfz25_3, hfz25_4⟩ := bf5 BK776.out) | (go_at_call 28; (with_reducible refine (annealref1_Minus.calls k 2 t770 t777 _ A8.out).mono ?_); rintro e w26 ⟨rfl, hb⟩; have n0_ := Aside0.mk (blk_below (g := gb776) (o := .cells #[.bool t771, .bool t772, .bool t773, .bool t774, .bool t775] 27 (0, 0)) (by (with_reducible repeat first | apply bd | apply be | apply ba); refine blk_put (cs := #[.bool t771, .bool t772, .bool t773, .bool t774, .bool false]) ?_ 4 _ rfl; (with_reducible repeat first | apply bd | apply be | apply ba); refine blk_put (cs := #[.bool t771, .bool t772, .bool t773, .bool false, .bool false]) ?_ 3 _ rfl; (with_reducible repeat first | apply bd | apply be | apply ba); refine blk_put (cs := #[.bool t771, .bool t772, .bool false, .bool false, .bool false]) ?_ 2 _ rfl; (with_reducible repeat first | apply bd | apply be | apply ba); refine blk_put (cs := #[.bool t771, .bool false, .bool false, .bool false, .bool false]) ?_ 1 _ rfl; (with_reducible repeat first | apply bd | apply be | apply ba); refine blk_put (cs := F5) ?_ 0 _ rfl; (with_reducible repeat first | apply bd | apply be | apply ba); exact BK776.out) hb); have n1_ := Aside0.mk (below_step (bl1 HB.out GE776.out) hb); clear BK776; clear HB; have BK776 := n0_; have HB := n1_; clear n0_ n1_) | (go_at_call 27; (with_reducible refine (prod_Fma.calls k 2 0 t768 t769 t777 t778 t779 t780 t781 t782 t783 _ A9.out).mono ?_); rintro e w27 ⟨rfl, hb⟩; have n0_ := Aside0.mk (blk_below (g := gb776) (o := .cells #[.bool t771, .bool t772, .bool t773, .bool t774, .bool t775] 27 (0, 0)) (bv BK776.out) hb); have n1_ := Aside0.mk (below_step (bl1 HB.out GE776.out) hb); clear BK776; clear HB; have BK776 := n0_; have HB := n1_; clear n0_ n1_) | ((with_reducible refine gate_dst (N := 10) rfl ?_); refine box_event ?hg (N := 10) ?hd (cs := F5) (t := 27) ?hr ?_; (case hd => rfl); (case hg => rfl); (case hr => first | (go_simp; done) | (go_simp; rfl)); intro gb784 hg w28 hbox hb; have n0_ := Aside0.mk (blk_below (g := gb776) (o := .cells #[.bool t771, .bool t772, .bool t773, .bool t774, .bool t775] 27 (0, 0)) (bv BK776.out) hb); have n1_ := Aside0.mk (below_step (bl1 HB.out GE776.out) hb); have n2_ := Aside0.mk (hbox); have n3_ := Aside0.mk ((by rw [hg]; exact (below_size (bl1 HB.out GE776.out)) : w.heap.size ≤ gb784)); have n4_ := n3_; have n5_ := Aside0.mk ((by rw [hg]; exact Nat.ne_of_lt (blk_lt (g := gb776) (o := .cells #[.bool t771, .bool t772, .bool t773, .bool t774, .bool t775] 27 (0, 0)) (bv BK776.out)) : gb776 ≠ gb784)); have n6_ := Aside0.mk (Ne.symm n5_.out); clear BK776; clear HB; have BK776 := n0_; have HB := n1_; have BK784 := n2_; have GW784 := n3_; have GE784 := n4_; have NB776_784 := n5_; have NB784_776 := n6_; clear n0_ n1_ n2_ n3_ n4_ n5_ n6_; clear hb hbox hg; have hnb29 := NB784_776.out; have hnc29 := NB776_784.out; obtain ⟨hcz30_0, hcz30_1, hcz30_2, hcz30_3, hcz30_4⟩ := bc5 BK784.out; obtain ⟨hfz30_0, hfz30_1, hfz30_2, hfz30_3, hfz30_4⟩ := bf5 BK784.out)))
   go_ret
   exact ⟨by first | rfl | (simp [errW_none, errW_some] <;> rfl) | (simp [*, errW_none, errW_some] <;> rfl), bl2 HB.out GE776.out GE784.out⟩
 ·replace c4 := Bool.eq_false_iff.mpr c4
  subst c4
  have H1 : (some false) = some r := by rw [if_neg (show ¬ (false = true) by decide)] at H; exact H
  clear H
  have H := H1
  clear H1
  obtain rfl := Option.some.inj H
  go_enter Try.func8, Try.ntmps8
  go_wp2_with (first | (go_at_call 21; (with_reducible refine (anneallaw5_known.calls k  false _ A3.out).mono ?_); rintro e w31 ⟨rfl, hb⟩; have n0_ := Aside0.mk (below_step (bl0 HB.out) hb); clear HB; have HB := n0_; clear n0_))
  repeat (go_quiet (first | (go_at_call 21; (with_reducible refine (anneallaw5_known.calls k  false _ A3.out).mono ?_); rintro e w31 ⟨rfl, hb⟩; have n0_ := Aside0.mk (below_step (bl0 HB.out) hb); clear HB; have HB := n0_; clear n0_)); try go_wp2_with (first | (go_at_call 21; (with_reducible refine (anneallaw5_known.calls k  false _ A3.out).mono ?_); rintro e w31 ⟨rfl, hb⟩; have n0_ := Aside0.mk (below_step (bl0 HB.out) hb); clear HB; have HB := n0_; clear n0_)))
  go_ret
  exact ⟨by first | rfl | (simp [errW_none, errW_some] <;> rfl) | (simp [*, errW_none, errW_some] <;> rfl), bl0 HB.out⟩

/-- THE ONE PURE STATEMENT of anneallaw5_FmaErrors: yours. -/
def anneallaw5_FmaErrors.Pure : Prop := ∀ (a0 : Int) (a1 : Int), (Lit.int .u32 a0).wf = true → (Lit.int .u32 a1).wf = true → ∃ k, anneallaw5_FmaErrors.f k a0 a1 = some true
theorem anneallaw5_FmaErrors.walk (P : anneallaw5_FmaErrors.Pure) (a0 : Int) (a1 : Int) (w : World) (w0 : (Lit.int .u32 a0).wf = true) (w1 : (Lit.int .u32 a1).wf = true) :
  Calls Try.prog 8 #[.int .u32 a0, .int .u32 a1] w fun e w' => e = .returned (.bool true) ∧ Below w.heap.size w w' := by
 obtain ⟨k, h⟩ := P a0 a1 w0 w1
 refine (anneallaw5_FmaErrors.calls k a0 a1 true w h).mono ?_
 rintro e w' ⟨rfl, hd⟩
 exact ⟨rfl, hd⟩

end Go.Proofs.Ytlkjoibpfhjhcaa.P

/- Plain facts about whole numbers in their kinds: wraps, shifts, bits, as numbers from nought on. -/
namespace Go.Proofs.Ytlkjoibpfhjhcaa.Num
open Go.RowKit Go.Proofs.YtlkjoibpfhjhcaaW.PrintWords Go.Proofs.YtlkjoibpfhjhcaaW.PrintLast Go.Proofs.YtlkjoibpfhjhcaaW.PrintMore

theorem u64_wrap (n : Int) : IntKind.u64.wrap n = n % 18446744073709551616 := by simp [IntKind.wrap, IntKind.bits, IntKind.signed]
theorem u32_wrap (n : Int) : IntKind.u32.wrap n = n % 4294967296 := by simp [IntKind.wrap, IntKind.bits, IntKind.signed]
theorem i64_wrap (n : Int) : IntKind.i64.wrap n = wrap64 n := by rw [i64_w]
theorem u64_nat (n : Nat) : IntKind.u64.wrap (n : Int) = ((n % 18446744073709551616 : Nat) : Int) := by rw [u64_wrap]; omega
theorem u64_id (n : Nat) (h : n < 18446744073709551616) : IntKind.u64.wrap (n : Int) = (n : Int) := by rw [u64_wrap]; omega
theorem w64_id (n : Int) (h : -9223372036854775808 ≤ n) (h' : n ≤ 9223372036854775807) : wrap64 n = n := by unfold wrap64; omega
theorem wf_u32 {n : Int} (h : (Lit.int .u32 n).wf = true) : 0 ≤ n ∧ n < 4294967296 := by
  simp [Lit.wf, IntKind.min, IntKind.max, IntKind.bits, IntKind.signed] at h; omega
/-- A number from nought on, as one. -/
theorem nat_of {n : Int} (h : 0 ≤ n) : ∃ m : Nat, n = (m : Int) := ⟨n.toNat, by omega⟩

theorem pow_cast (n : Nat) : ((2 ^ n : Nat) : Int) = (2 : Int) ^ n := by simp

theorem shr_nat (k : IntKind) (v n : Nat) (hv : v < 2 ^ k.bits) : shr k (v : Int) (n : Int) = ((v / 2 ^ n : Nat) : Int) := by
  unfold shr
  rw [Int.toNat_natCast]
  by_cases h : n ≤ k.bits
  · rw [Nat.min_eq_left h]; simp
  · rw [Nat.min_eq_right (by omega), Nat.div_eq_of_lt (show v < 2 ^ n from Nat.lt_of_lt_of_le hv (Nat.pow_le_pow_right (by decide) (by omega)))]
    have : v / 2 ^ k.bits = 0 := Nat.div_eq_of_lt hv
    have e : ((v : Int) / 2 ^ k.bits) = ((v / 2 ^ k.bits : Nat) : Int) := by simp
    rw [e, this]
theorem shr_u64 (v n : Nat) (hv : v < 18446744073709551616) : shr .u64 (v : Int) (n : Int) = ((v / 2 ^ n : Nat) : Int) := shr_nat .u64 v n hv
theorem shr_u32 (v n : Nat) (hv : v < 4294967296) : shr .u32 (v : Int) (n : Int) = ((v / 2 ^ n : Nat) : Int) := shr_nat .u32 v n hv
theorem shl_u64 (v n : Nat) : shl .u64 (v : Int) (n : Int) = ((v * 2 ^ n % 18446744073709551616 : Nat) : Int) := by
  unfold shl
  rw [Int.toNat_natCast]
  by_cases h : n ≤ 64
  · rw [show IntKind.u64.bits = 64 from rfl, Nat.min_eq_left h, show (v : Int) * 2 ^ n = ((v * 2 ^ n : Nat) : Int) by simp, u64_nat]
  · have e : (2 : Nat) ^ n = 18446744073709551616 * 2 ^ (n - 64) := by rw [show 18446744073709551616 = 2 ^ 64 from rfl, ← Nat.pow_add]; congr 1; omega
    rw [Nat.min_eq_right (show IntKind.u64.bits ≤ n by show 64 ≤ n; omega), show (v : Int) * 2 ^ IntKind.u64.bits = ((v * 18446744073709551616 : Nat) : Int) by simp [IntKind.bits], u64_nat, Nat.mul_mod_left, e, ← Nat.mul_assoc, Nat.mul_comm v, Nat.mul_assoc, Nat.mul_mod_right]
theorem shl_u32 (v n : Nat) : shl .u32 (v : Int) (n : Int) = ((v * 2 ^ n % 4294967296 : Nat) : Int) := by
  unfold shl
  rw [Int.toNat_natCast]
  by_cases h : n ≤ 32
  · rw [show IntKind.u32.bits = 32 from rfl, Nat.min_eq_left h, show (v : Int) * 2 ^ n = ((v * 2 ^ n : Nat) : Int) by simp, u32_wrap]; omega
  · have e : (2 : Nat) ^ n = 4294967296 * 2 ^ (n - 32) := by rw [show 4294967296 = 2 ^ 32 from rfl, ← Nat.pow_add]; congr 1; omega
    rw [Nat.min_eq_right (show IntKind.u32.bits ≤ n by show 32 ≤ n; omega), show (v : Int) * 2 ^ IntKind.u32.bits = ((v * 4294967296 : Nat) : Int) by simp [IntKind.bits], u32_wrap, e, ← Nat.mul_assoc, Nat.mul_comm v, Nat.mul_assoc, Nat.mul_mod_right]; omega

theorem wraps_u64 (n : Int) (h₀ : 0 ≤ n) (h₁ : n < 2 ^ 64) : IntKind.u64.wrap n = n := by rw [u64_wrap]; omega
theorem wraps_u32 (n : Int) (h₀ : 0 ≤ n) (h₁ : n < 2 ^ 32) : IntKind.u32.wrap n = n := by rw [u32_wrap]; omega
theorem and_u64 (a b : Nat) (ha : a < 18446744073709551616) (hb : b < 18446744073709551616) : Go.bits .and .u64 a b = ((a &&& b : Nat) : Int) := (bits_nat .u64 64 (by decide) wraps_u64 a b ha hb).1
theorem or_u64 (a b : Nat) (ha : a < 18446744073709551616) (hb : b < 18446744073709551616) : Go.bits .or .u64 a b = ((a ||| b : Nat) : Int) := (bits_nat .u64 64 (by decide) wraps_u64 a b ha hb).2
theorem and_u32 (a b : Nat) (ha : a < 4294967296) (hb : b < 4294967296) : Go.bits .and .u32 a b = ((a &&& b : Nat) : Int) := (bits_nat .u32 32 (by decide) wraps_u32 a b ha hb).1
theorem or_u32 (a b : Nat) (ha : a < 4294967296) (hb : b < 4294967296) : Go.bits .or .u32 a b = ((a ||| b : Nat) : Int) := (bits_nat .u32 32 (by decide) wraps_u32 a b ha hb).2
theorem xor_u32 (a b : Nat) (ha : a < 4294967296) (hb : b < 4294967296) : Go.bits .xor .u32 a b = ((a ^^^ b : Nat) : Int) := by
  have e : (BitVec.ofInt 32 (a : Int) ^^^ BitVec.ofInt 32 (b : Int)).toNat = a ^^^ b := by
    rw [BitVec.toNat_xor, BitVec.ofInt_natCast, BitVec.ofInt_natCast, BitVec.toNat_ofNat, BitVec.toNat_ofNat, Nat.mod_eq_of_lt ha, Nat.mod_eq_of_lt hb]
  show IntKind.u32.wrap (((BitVec.ofInt 32 (a : Int) ^^^ BitVec.ofInt 32 (b : Int)).toNat : Nat) : Int) = _
  rw [e]
  exact wraps_u32 _ (Int.natCast_nonneg _) (by exact_mod_cast Nat.xor_lt_two_pow (n := 32) ha hb)
/-- The lowest bits. -/
theorem mask_u64 (a n : Nat) (ha : a < 18446744073709551616) (hn : n ≤ 64) : Go.bits .and .u64 a ((2 ^ n - 1 : Nat) : Int) = ((a % 2 ^ n : Nat) : Int) := by
  have h : 2 ^ n - 1 < 18446744073709551616 := by
    have := Nat.pow_le_pow_right (show 0 < 2 by decide) hn
    have : 0 < 2 ^ n := Nat.two_pow_pos n
    omega
  rw [and_u64 a _ ha h, Nat.and_two_pow_sub_one_eq_mod]
theorem and1_u64 (a : Nat) (ha : a < 18446744073709551616) : Go.bits .and .u64 a 1 = ((a % 2 : Nat) : Int) := mask_u64 a 1 ha (by decide)
/-- Two numbers whose bits lie apart, put together. -/
theorem or_add (a b n : Nat) (ha : a % 2 ^ n = 0) (hb : b < 2 ^ n) : a ||| b = a + b := by
  have hq : a = 2 ^ n * (a / 2 ^ n) := by have := Nat.div_add_mod a (2 ^ n); omega
  have := Nat.two_pow_add_eq_or_of_lt hb (a / 2 ^ n)
  rw [← hq] at this
  exact this.symm
end Go.Proofs.Ytlkjoibpfhjhcaa.Num

/- What the functions of layer 1 compute, as plain numbers. -/
namespace Go.Proofs.Ytlkjoibpfhjhcaa.BitsF
open Go.RowKit Go.Proofs.Ytlkjoibpfhjhcaa.P Go.Proofs.Ytlkjoibpfhjhcaa.Num Go.Proofs.YtlkjoibpfhjhcaaW.PrintWords Go.Proofs.YtlkjoibpfhjhcaaW.PrintLast Go.Proofs.YtlkjoibpfhjhcaaW.PrintMore

/-- A shift, and whether ones go out. -/
def shiftN (v : Nat) (n : Int) : Nat × Bool :=
  if 0 ≤ n then (v / 2 ^ n.toNat, decide (v % 2 ^ n.toNat ≠ 0)) else (v * 2 ^ (-n).toNat % 18446744073709551616, decide (18446744073709551616 ≤ v * 2 ^ (-n).toNat))
theorem shiftN_right (v n : Nat) : shiftN v (n : Int) = (v / 2 ^ n, decide (v % 2 ^ n ≠ 0)) := by
  unfold shiftN; rw [if_pos (by omega)]; simp
theorem shiftN_left (v n : Nat) (hv : v < 18446744073709551616) : shiftN v (-(n : Int)) = (v * 2 ^ n % 18446744073709551616, decide (18446744073709551616 ≤ v * 2 ^ n)) := by
  unfold shiftN
  by_cases h : n = 0
  · subst h; simp [Nat.mod_one]; omega
  · rw [if_neg (by omega)]; simp

theorem pow_big {n : Nat} (h : 64 ≤ n) : 18446744073709551616 ≤ 2 ^ n := by
  have : 2 ^ 64 ≤ 2 ^ n := Nat.pow_le_pow_right (by decide) h
  omega
theorem pow_dvd {n : Nat} (h : n ≤ 64) : 2 ^ n * 2 ^ (64 - n) = 18446744073709551616 := by
  rw [← Nat.pow_add, show n + (64 - n) = 64 by omega]
/-- Moved back, a number is as it was just when nothing went out. -/
theorem back_ne (v n : Nat) : decide (v / 2 ^ n * 2 ^ n ≠ v) = decide (v % 2 ^ n ≠ 0) := by
  have := Nat.div_add_mod v (2 ^ n)
  rw [Nat.mul_comm] at this
  congr 1
  apply propext
  constructor <;> intro h <;> omega
theorem left_back (v n : Nat) (hn : n ≤ 64) : decide ((v * 2 ^ n % 18446744073709551616) / 2 ^ n ≠ v) = decide (18446744073709551616 ≤ v * 2 ^ n) := by
  have hp : 0 < 2 ^ n := Nat.two_pow_pos n
  have e : v * 2 ^ n % 18446744073709551616 = (v % 2 ^ (64 - n)) * 2 ^ n := by
    rw [← pow_dvd hn, Nat.mul_comm (2 ^ n), Nat.mul_mod_mul_right]
  rw [e, Nat.mul_div_cancel _ hp]
  congr 1
  apply propext
  have hq : 0 < 2 ^ (64 - n) := Nat.two_pow_pos _
  have d := pow_dvd hn
  constructor
  · intro h
    have : 2 ^ (64 - n) ≤ v := by
      apply Nat.le_of_not_lt; intro hlt; exact h (Nat.mod_eq_of_lt hlt)
    calc 18446744073709551616 = 2 ^ (64 - n) * 2 ^ n := by rw [Nat.mul_comm]; exact d.symm
      _ ≤ v * 2 ^ n := Nat.mul_le_mul_right _ this
  · intro h h'
    have hlt : v < 2 ^ (64 - n) := by rw [← h']; exact Nat.mod_lt _ hq
    have : v * 2 ^ n < 2 ^ (64 - n) * 2 ^ n := Nat.mul_lt_mul_of_pos_right hlt hp
    rw [Nat.mul_comm (2 ^ (64 - n)), d] at this
    omega
theorem bne_cast (a b : Nat) : (((a : Int) != (b : Int)) : Bool) = decide (a ≠ b) := by
  by_cases h : a = b
  · subst h; simp
  · rw [bne_iff_ne.mpr (by omega)]; simp [h]

theorem shift_f (v : Nat) (hv : v < 18446744073709551616) (n : Int) (h1 : -9223372036854775808 ≤ n) (h2 : n ≤ 9223372036854775807) (k : Nat) :
    bits_Shift.f (k + 1) (v : Int) n = some ((((shiftN v n).1 : Nat) : Int), (shiftN v n).2) := by
  unfold bits_Shift.f
  by_cases c : n ≥ 64
  · rw [if_pos c]
    simp only [bits_Shift.j0, if_true]
    obtain ⟨m, rfl⟩ := nat_of (show 0 ≤ n by omega)
    rw [shiftN_right]
    have := pow_big (show 64 ≤ m by omega)
    rw [Nat.div_eq_of_lt (by omega), Nat.mod_eq_of_lt (by omega), ← bne_cast]; rfl
  · rw [if_neg c]
    by_cases c' : n ≤ -64
    · rw [decide_eq_true c']
      simp only [bits_Shift.j0, if_true]
      obtain ⟨m, hm⟩ := nat_of (show 0 ≤ -n by omega)
      obtain rfl : n = -(m : Int) := by omega
      rw [shiftN_left _ _ hv]
      have hb := pow_big (show 64 ≤ m by omega)
      have e : (2 : Nat) ^ m = 18446744073709551616 * 2 ^ (m - 64) := by rw [show 18446744073709551616 = 2 ^ 64 from rfl, ← Nat.pow_add]; congr 1; omega
      have e1 : v * 2 ^ m % 18446744073709551616 = 0 := by rw [e, ← Nat.mul_assoc, Nat.mul_comm v, Nat.mul_assoc, Nat.mul_mod_right]
      have e2 : decide (18446744073709551616 ≤ v * 2 ^ m) = decide (v ≠ 0) := by
        congr 1; apply propext
        constructor
        · intro h h0; subst h0; omega
        · intro h
          calc 18446744073709551616 ≤ 2 ^ m := hb
            _ = 1 * 2 ^ m := (Nat.one_mul _).symm
            _ ≤ v * 2 ^ m := Nat.mul_le_mul_right _ (by omega)
      simp only [e1, e2]
      rw [← bne_cast]; rfl
    · rw [decide_eq_false c']
      simp only [bits_Shift.j0, Bool.false_eq_true, if_false]
      by_cases c0 : n ≥ 0
      · rw [if_pos c0]
        obtain ⟨m, rfl⟩ := nat_of c0
        rw [u64_id _ (by omega), if_pos (by omega), shr_u64 _ _ hv, shl_u64, bne_cast, shiftN_right]
        have hle : v / 2 ^ m * 2 ^ m ≤ v := Nat.div_mul_le_self _ _
        rw [Nat.mod_eq_of_lt (by omega), back_ne]
      · rw [if_neg c0]
        obtain ⟨m, hm⟩ := nat_of (show 0 ≤ -n by omega)
        obtain rfl : n = -(m : Int) := by omega
        rw [Int.neg_neg, w64_id _ (by omega) (by omega), u64_id _ (by omega), if_pos (by omega), shl_u64, shr_u64 _ _ (Nat.mod_lt _ (by decide)), bne_cast, shiftN_left _ _ hv, left_back _ _ (by omega)]
theorem shift_ev (v : Nat) (hv : v < 18446744073709551616) (n : Int) (h1 : -9223372036854775808 ≤ n) (h2 : n ≤ 9223372036854775807) :
    Ev (fun k => bits_Shift.f k (v : Int) n) ((((shiftN v n).1 : Nat) : Int), (shiftN v n).2) := Ev.of (bits_Shift.mono _ _) (shift_f v hv n h1 h2 0)

/-- How many bits a number has. -/
def lenN (v : Nat) : Nat := if v = 0 then 0 else v.log2 + 1
theorem lenN_lt (v : Nat) : v < 2 ^ lenN v := by
  unfold lenN
  by_cases h : v = 0
  · subst h; decide
  · rw [if_neg h]; exact (Nat.log2_lt h).mp (Nat.lt_succ_self _)
theorem lenN_le (v : Nat) (h : v ≠ 0) : 2 ^ (lenN v - 1) ≤ v := by
  unfold lenN
  rw [if_neg h, Nat.add_sub_cancel]
  exact (Nat.le_log2 h).mp (Nat.le_refl _)
theorem lenN_pos (v : Nat) (h : v ≠ 0) : 1 ≤ lenN v := by unfold lenN; rw [if_neg h]; omega
theorem lenN_of (v n : Nat) (h : v < 2 ^ n) (h' : n = 0 ∨ 2 ^ (n - 1) ≤ v) : lenN v = n := by
  by_cases hv : v = 0
  · subst hv
    rcases h' with h' | h'
    · subst h'; rfl
    · have := Nat.two_pow_pos (n - 1); omega
  · have hn : n ≠ 0 := by intro e; subst e; simp at h; omega
    have h' := h'.resolve_left hn
    unfold lenN; rw [if_neg hv]
    have a := (Nat.log2_lt hv).mpr h
    have b := (Nat.le_log2 hv).mpr h'
    omega
theorem lenN_bound (v n : Nat) (h : v < 2 ^ n) : lenN v ≤ n := by
  by_cases hv : v = 0
  · subst hv; exact Nat.zero_le _
  · unfold lenN; rw [if_neg hv]; exact (Nat.log2_lt hv).mpr h
theorem lenN_ge (v n : Nat) (h : 2 ^ n ≤ v) : n < lenN v := by
  have hv : v ≠ 0 := by have := Nat.two_pow_pos n; omega
  unfold lenN; rw [if_neg hv]; have := (Nat.le_log2 hv).mpr h; omega
theorem lenN_div (v n : Nat) (h : 2 ^ n ≤ v) : lenN (v / 2 ^ n) + n = lenN v := by
  have hp := Nat.two_pow_pos n
  have hq : v / 2 ^ n ≠ 0 := by have := Nat.div_pos h hp; omega
  symm
  apply lenN_of
  · rw [Nat.pow_add, Nat.mul_comm]
    exact Nat.lt_mul_of_div_lt (lenN_lt _) hp |> fun z => by rw [Nat.mul_comm] at z; exact z
  · right
    have h1 := lenN_pos _ hq
    rw [show lenN (v / 2 ^ n) + n - 1 = lenN (v / 2 ^ n) - 1 + n by omega, Nat.pow_add]
    exact (Nat.le_div_iff_mul_le hp).mp (lenN_le _ hq)
theorem lenN_mul (v n : Nat) (h : v ≠ 0) : lenN (v * 2 ^ n) = lenN v + n := by
  have hp := Nat.two_pow_pos n
  have := lenN_div (v * 2 ^ n) n (Nat.le_mul_of_pos_left _ (by omega))
  rw [Nat.mul_div_cancel _ hp] at this
  omega
theorem tab_all : ∀ i : Fin 256, bt (⟨#[0, 1, 2, 2, 3, 3, 3, 3, 4, 4, 4, 4, 4, 4, 4, 4, 5, 5, 5, 5, 5, 5, 5, 5, 5, 5, 5, 5, 5, 5, 5, 5, 6, 6, 6, 6, 6, 6, 6, 6, 6, 6, 6, 6, 6, 6, 6, 6, 6, 6, 6, 6, 6, 6, 6, 6, 6, 6, 6, 6, 6, 6, 6, 6, 7, 7, 7, 7, 7, 7, 7, 7, 7, 7, 7, 7, 7, 7, 7, 7, 7, 7, 7, 7, 7, 7, 7, 7, 7, 7, 7, 7, 7, 7, 7, 7, 7, 7, 7, 7, 7, 7, 7, 7, 7, 7, 7, 7, 7, 7, 7, 7, 7, 7, 7, 7, 7, 7, 7, 7, 7, 7, 7, 7, 7, 7, 7, 7, 8, 8, 8, 8, 8, 8, 8, 8, 8, 8, 8, 8, 8, 8, 8, 8, 8, 8, 8, 8, 8, 8, 8, 8, 8, 8, 8, 8, 8, 8, 8, 8, 8, 8, 8, 8, 8, 8, 8, 8, 8, 8, 8, 8, 8, 8, 8, 8, 8, 8, 8, 8, 8, 8, 8, 8, 8, 8, 8, 8, 8, 8, 8, 8, 8, 8, 8, 8, 8, 8, 8, 8, 8, 8, 8, 8, 8, 8, 8, 8, 8, 8, 8, 8, 8, 8, 8, 8, 8, 8, 8, 8, 8, 8, 8, 8, 8, 8, 8, 8, 8, 8, 8, 8, 8, 8, 8, 8, 8, 8, 8, 8, 8, 8, 8, 8, 8, 8, 8, 8, 8, 8, 8, 8, 8, 8, 8, 8]⟩ : ByteArray) ((i.val : Nat) : Int) = (lenN i.val : Int) := by decide +kernel
theorem tab_len (i : Nat) (h : i < 256) : bt (⟨#[0, 1, 2, 2, 3, 3, 3, 3, 4, 4, 4, 4, 4, 4, 4, 4, 5, 5, 5, 5, 5, 5, 5, 5, 5, 5, 5, 5, 5, 5, 5, 5, 6, 6, 6, 6, 6, 6, 6, 6, 6, 6, 6, 6, 6, 6, 6, 6, 6, 6, 6, 6, 6, 6, 6, 6, 6, 6, 6, 6, 6, 6, 6, 6, 7, 7, 7, 7, 7, 7, 7, 7, 7, 7, 7, 7, 7, 7, 7, 7, 7, 7, 7, 7, 7, 7, 7, 7, 7, 7, 7, 7, 7, 7, 7, 7, 7, 7, 7, 7, 7, 7, 7, 7, 7, 7, 7, 7, 7, 7, 7, 7, 7, 7, 7, 7, 7, 7, 7, 7, 7, 7, 7, 7, 7, 7, 7, 7, 8, 8, 8, 8, 8, 8, 8, 8, 8, 8, 8, 8, 8, 8, 8, 8, 8, 8, 8, 8, 8, 8, 8, 8, 8, 8, 8, 8, 8, 8, 8, 8, 8, 8, 8, 8, 8, 8, 8, 8, 8, 8, 8, 8, 8, 8, 8, 8, 8, 8, 8, 8, 8, 8, 8, 8, 8, 8, 8, 8, 8, 8, 8, 8, 8, 8, 8, 8, 8, 8, 8, 8, 8, 8, 8, 8, 8, 8, 8, 8, 8, 8, 8, 8, 8, 8, 8, 8, 8, 8, 8, 8, 8, 8, 8, 8, 8, 8, 8, 8, 8, 8, 8, 8, 8, 8, 8, 8, 8, 8, 8, 8, 8, 8, 8, 8, 8, 8, 8, 8, 8, 8, 8, 8, 8, 8, 8, 8]⟩ : ByteArray) (i : Int) = (lenN i : Int) := tab_all ⟨i, h⟩
theorem lenN_small (v : Nat) (h : v < 18446744073709551616) : lenN v ≤ 64 := lenN_bound v 64 h
set_option maxRecDepth 100000 in
theorem len_j0 (k x c : Nat) (hx : x < 4294967296) (hc : c ≤ 64) : bits_Len64.j0 (k + 1) (x : Int) (c : Int) = some ((c + lenN x : Nat) : Int) := by
  rw [bits_Len64.j0]
  have e1 : (x : Int) / 65536 = ((x / 65536 : Nat) : Int) := by omega
  have e2 : (x : Int) / 65536 / 256 = ((x / 65536 / 256 : Nat) : Int) := by omega
  have e3 : (x : Int) / 256 = ((x / 256 : Nat) : Int) := by omega
  by_cases c1 : (x : Int) ≥ 65536
  · rw [if_pos c1]
    by_cases c2 : (x : Int) / 65536 ≥ 256
    · rw [if_pos c2, e2, show ((x / 65536 / 256 : Nat) : Int) % 256 = ((x / 65536 / 256 : Nat) : Int) by omega, if_pos (by omega), if_pos (by omega), tab_len _ (by omega)]
      have h := lenN_div x 24 (by omega)
      rw [show x / 2 ^ 24 = x / 65536 / 256 by omega] at h
      have b := lenN_bound (x / 65536 / 256) 8 (by omega)
      rw [w64_id (c + 16) (by omega) (by omega), w64_id (c + 16 + 8) (by omega) (by omega), w64_id (lenN _) (by omega) (by omega), w64_id _ (by omega) (by omega)]
      congr 1; omega
    · rw [if_neg c2, e1, show ((x / 65536 : Nat) : Int) % 256 = ((x / 65536 : Nat) : Int) by omega, if_pos (by omega), if_pos (by omega), tab_len _ (by omega)]
      have h := lenN_div x 16 (by omega)
      rw [show x / 2 ^ 16 = x / 65536 by omega] at h
      have b := lenN_bound (x / 65536) 8 (by omega)
      rw [w64_id (c + 16) (by omega) (by omega), w64_id (lenN _) (by omega) (by omega), w64_id _ (by omega) (by omega)]
      congr 1; omega
  · rw [if_neg c1]
    by_cases c2 : (x : Int) ≥ 256
    · rw [if_pos c2, e3, show ((x / 256 : Nat) : Int) % 256 = ((x / 256 : Nat) : Int) by omega, if_pos (by omega), if_pos (by omega), tab_len _ (by omega)]
      have h := lenN_div x 8 (by omega)
      rw [show x / 2 ^ 8 = x / 256 by omega] at h
      have b := lenN_bound (x / 256) 8 (by omega)
      rw [w64_id (c + 8) (by omega) (by omega), w64_id (lenN _) (by omega) (by omega), w64_id _ (by omega) (by omega)]
      congr 1; omega
    · rw [if_neg c2, show (x : Int) % 256 = (x : Int) by omega, if_pos (by omega), if_pos (by omega), tab_len _ (by omega)]
      have b := lenN_bound x 8 (by omega)
      rw [w64_id (lenN _) (by omega) (by omega), w64_id _ (by omega) (by omega)]
      congr 1
theorem len64_f (k v : Nat) (hv : v < 18446744073709551616) : bits_Len64.f (k + 1) (v : Int) = some (lenN v : Int) := by
  unfold bits_Len64.f
  by_cases c : (v : Int) ≥ 4294967296
  · rw [if_pos c, show (v : Int) / 4294967296 = ((v / 4294967296 : Nat) : Int) by omega]
    have h := len_j0 k (v / 4294967296) 32 (by omega) (by decide)
    have e := lenN_div v 32 (by omega)
    rw [show v / 2 ^ 32 = v / 4294967296 by omega] at e
    rw [show ((32 : Nat) : Int) = 32 from rfl] at h
    rw [h]; congr 1; omega
  · rw [if_neg c]
    have h := len_j0 k v 0 (by omega) (by decide)
    rw [show ((0 : Nat) : Int) = 0 from rfl] at h
    rw [h, Nat.zero_add]
theorem len_f (k v : Nat) (hv : v < 18446744073709551616) : bits_Len.f (k + 1) (v : Int) = some (lenN v : Int) := by
  unfold bits_Len.f; rw [len64_f k v hv]; rfl
theorem len_ev (v : Nat) (hv : v < 18446744073709551616) : Ev (fun k => bits_Len.f k (v : Int)) (lenN v : Int) := Ev.of (bits_Len.mono _) (len_f 0 v hv)

/-- The lowest bits, n of them. -/
def cutN (v : Nat) (n : Int) : Nat := if n < 1 then 0 else v % 2 ^ n.toNat
theorem cut_mask (v n : Nat) (hv : v < 18446744073709551616) (hn : n < 64) : Go.bits .and .u64 (v : Int) (IntKind.u64.wrap (shl .u64 1 (n : Int) - 1)) = ((v % 2 ^ n : Nat) : Int) := by
  have hp : 2 ^ n ≤ 2 ^ 63 := Nat.pow_le_pow_right (by decide) (by omega)
  have h0 := Nat.two_pow_pos n
  rw [show (1 : Int) = ((1 : Nat) : Int) from rfl, shl_u64, Nat.one_mul, Nat.mod_eq_of_lt (by omega), show ((2 ^ n : Nat) : Int) - ((1 : Nat) : Int) = ((2 ^ n - 1 : Nat) : Int) by omega, u64_id _ (by omega), mask_u64 _ _ hv (by omega)]
theorem cut_f (v : Nat) (hv : v < 18446744073709551616) (n : Int) (h2 : n ≤ 9223372036854775807) : bits_Cut.f (v : Int) n = some (cutN v n : Int) := by
  unfold bits_Cut.f cutN
  by_cases c : n < 1
  · rw [if_pos c, if_pos c]; rfl
  · rw [if_neg c, if_neg c]
    obtain ⟨m, rfl⟩ := nat_of (show 0 ≤ n by omega)
    by_cases c' : (m : Int) ≥ 64
    · rw [if_pos c', Int.toNat_natCast, Nat.mod_eq_of_lt (by have := pow_big (show 64 ≤ m by omega); omega)]
    · rw [if_neg c', u64_id _ (by omega), if_pos (by omega), cut_mask _ _ hv (by omega), Int.toNat_natCast]
end Go.Proofs.Ytlkjoibpfhjhcaa.BitsF

/- What the program's package format computes, as plain numbers: widths, parts, classes, whole numbers and exponents. -/
namespace Go.Proofs.Ytlkjoibpfhjhcaa.Fmt
open Go.RowKit Go.Proofs.Ytlkjoibpfhjhcaa.P Go.Proofs.Ytlkjoibpfhjhcaa.Num Go.Proofs.Ytlkjoibpfhjhcaa.BitsF Go.Proofs.YtlkjoibpfhjhcaaW.PrintWords Go.Proofs.YtlkjoibpfhjhcaaW.PrintLast Go.Proofs.YtlkjoibpfhjhcaaW.PrintMore

/-- A format's exponent's bits, and its fraction's. -/
def fe (f : Int) : Nat := if f = 0 then 5 else 8
def fm (f : Int) : Nat := if f = 0 then 10 else if f = 1 then 7 else 23
theorem fcases (f : Int) : (fe f = 5 ∧ fm f = 10) ∨ (fe f = 8 ∧ fm f = 7) ∨ (fe f = 8 ∧ fm f = 23) := by
  unfold fe fm
  split
  · exact .inl ⟨rfl, rfl⟩
  · split
    · exact .inr (.inl ⟨rfl, rfl⟩)
    · exact .inr (.inr ⟨rfl, rfl⟩)
theorem fbounds (f : Int) : 5 ≤ fe f ∧ fe f ≤ 8 ∧ 7 ≤ fm f ∧ fm f ≤ 23 ∧ fe f + fm f ≤ 31 := by
  rcases fcases f with ⟨h1, h2⟩ | ⟨h1, h2⟩ | ⟨h1, h2⟩ <;> rw [h1, h2] <;> decide
/-- The exponent, as it stands, of what isn't finite; the exponent of the least normal number. -/
def topN (f : Int) : Nat := 2 ^ fe f - 1
def leastN (f : Int) : Int := 2 - 2 ^ (fe f - 1)
theorem least_cases (f : Int) : leastN f = -14 ∨ leastN f = -126 := by
  unfold leastN
  rcases fcases f with ⟨h1, _⟩ | ⟨h1, _⟩ | ⟨h1, _⟩ <;> rw [h1] <;> simp
theorem top_cases (f : Int) : topN f = 31 ∨ topN f = 255 := by
  unfold topN
  rcases fcases f with ⟨h1, _⟩ | ⟨h1, _⟩ | ⟨h1, _⟩ <;> rw [h1] <;> simp
def signN (f : Int) (neg : Bool) : Nat := if neg then 2 ^ (fe f + fm f) else 0
def negN (f : Int) (v : Nat) : Bool := decide (v / 2 ^ (fe f + fm f) % 2 = 1)
def expN (f : Int) (v : Nat) : Nat := v / 2 ^ fm f % 2 ^ fe f
def fracN (f : Int) (v : Nat) : Nat := v % 2 ^ fm f
theorem exp_le (f : Int) (v : Nat) : expN f v ≤ topN f := by
  unfold expN topN
  have := Nat.mod_lt (v / 2 ^ fm f) (Nat.two_pow_pos (fe f))
  omega
theorem frac_lt (f : Int) (v : Nat) : fracN f v < 2 ^ fm f := Nat.mod_lt _ (Nat.two_pow_pos _)

theorem wu (n : Nat) (h : n < 9223372036854775808) : IntKind.u64.wrap (wrap64 (n : Int)) = (n : Int) := by rw [w64_id _ (by omega) (by omega), u64_id _ (by omega)]
theorem pow_le31 {n : Nat} (h : n ≤ 31) : 2 ^ n ≤ 2147483648 := Nat.pow_le_pow_right (show 0 < 2 by decide) h
theorem pow_le32 {n : Nat} (h : n ≤ 32) : 2 ^ n ≤ 4294967296 := Nat.pow_le_pow_right (show 0 < 2 by decide) h
theorem one_shl (n : Nat) (h : n ≤ 31) : shl .u32 1 (n : Int) = ((2 ^ n : Nat) : Int) := by
  have := pow_le31 h
  rw [show (1 : Int) = ((1 : Nat) : Int) from rfl, shl_u32, Nat.one_mul, Nat.mod_eq_of_lt (by omega)]
theorem mask_u32 (a n : Nat) (ha : a < 4294967296) (hn : n ≤ 31) : Go.bits .and .u32 (a : Int) ((shl .u32 1 (n : Int) - 1) % 4294967296) = ((a % 2 ^ n : Nat) : Int) := by
  have h1 := pow_le31 hn
  have h0 := Nat.two_pow_pos n
  rw [one_shl n hn, show (((2 ^ n : Nat) : Int) - 1) % 4294967296 = ((2 ^ n - 1 : Nat) : Int) by omega, and_u32 _ _ ha (by omega), Nat.and_two_pow_sub_one_eq_mod]
theorem and1_u32 (a : Nat) (ha : a < 4294967296) : Go.bits .and .u32 (a : Int) 1 = ((a % 2 : Nat) : Int) := by
  rw [show (1 : Int) = ((2 ^ 1 - 1 : Nat) : Int) from rfl, and_u32 _ _ ha (by decide), Nat.and_two_pow_sub_one_eq_mod]
theorem one_shl_i64 (n : Nat) (h : n ≤ 31) : shl .i64 1 (n : Int) = ((2 ^ n : Nat) : Int) := by
  have := pow_le31 h
  have := Nat.two_pow_pos n
  unfold shl
  rw [Int.toNat_natCast, Nat.min_eq_left (show n ≤ IntKind.i64.bits by show n ≤ 64; omega), i64_wrap, Int.one_mul, ← pow_cast, w64_id _ (by omega) (by omega)]

theorem widths_f (f : Int) : format_Widths.f f = some ((fe f : Int), (fm f : Int)) := by
  unfold format_Widths.f fe fm
  by_cases h : f = 0
  · subst h; rfl
  · rw [if_neg h, if_neg h, if_neg h]
    by_cases h1 : f = 1
    · subst h1; rfl
    · rw [if_neg h1, if_neg h1]; rfl
/-- A number put together of its parts. -/
def joinN (f : Int) (neg : Bool) (at_ frac : Nat) : Nat := at_ * 2 ^ fm f + frac + signN f neg
theorem join_f (f : Int) (neg : Bool) (a c : Nat) (ha : a ≤ topN f) (hc : c < 2 ^ fm f) : format_Join.f f neg (a : Int) (c : Int) = some (joinN f neg a c : Int) := by
  unfold format_Join.f joinN signN
  rw [widths_f]
  obtain ⟨b1, b2, b3, b4, b5⟩ := fbounds f
  have hp := Nat.two_pow_pos (fm f)
  have hle : a * 2 ^ fm f + 2 ^ fm f ≤ 2 ^ (fe f + fm f) := by
    rw [Nat.pow_add, ← Nat.succ_mul]
    apply Nat.mul_le_mul_right
    unfold topN at ha
    have := Nat.two_pow_pos (fe f); omega
  have h31 := pow_le31 b5
  have e1 : shl .u32 ((a : Int) % 4294967296) (fm f : Int) = ((a * 2 ^ fm f : Nat) : Int) := by
    have : a < 4294967296 := by have := top_cases f; omega
    rw [show (a : Int) % 4294967296 = ((a : Nat) : Int) by omega, shl_u32, Nat.mod_eq_of_lt (by omega)]
  have e2 : Go.bits .or .u32 ((a * 2 ^ fm f : Nat) : Int) (c : Int) = ((a * 2 ^ fm f + c : Nat) : Int) := by
    rw [or_u32 _ _ (by omega) (by omega), or_add _ _ (fm f) (Nat.mul_mod_left ..) hc]
  simp only [Option.bind_some]
  rw [u64_id (fm f) (by omega), if_pos (by omega), e1, e2]
  cases neg
  · simp
  · simp only [if_true]
    rw [show (fe f : Int) + (fm f : Int) = ((fe f + fm f : Nat) : Int) by omega, wu _ (by omega), if_pos (by omega), one_shl _ b5, or_u32 _ _ (by omega) (by omega), Nat.or_comm, or_add _ (a * 2 ^ fm f + c) (fe f + fm f) (by simp) (by omega)]
    congr 2; omega
theorem top_f (f : Int) : format_Top.f f = some (topN f : Int) := by
  unfold format_Top.f topN
  rw [widths_f]
  obtain ⟨b1, b2, b3, b4, b5⟩ := fbounds f
  have hp := Nat.two_pow_pos (fe f)
  have h31 := pow_le31 (show fe f ≤ 31 by omega)
  simp only [Option.bind_some]
  rw [u64_id (fe f) (by omega), if_pos (by omega), one_shl_i64 _ (by omega), w64_id _ (by omega) (by omega)]
  congr 1; omega
theorem least_f (f : Int) : format_Least.f f = some (leastN f) := by
  unfold format_Least.f leastN
  rw [widths_f]
  obtain ⟨b1, b2, b3, b4, b5⟩ := fbounds f
  have h31 := pow_le31 (show fe f - 1 ≤ 31 by omega)
  have h0 := Nat.two_pow_pos (fe f - 1)
  simp only [Option.bind_some]
  rw [show (fe f : Int) - 1 = ((fe f - 1 : Nat) : Int) by omega, wu _ (by omega), if_pos (by omega), one_shl_i64 _ (by omega), w64_id _ (by omega) (by omega), pow_cast]
theorem zero_f (f : Int) (neg : Bool) : format_Zero.f f neg = some (signN f neg : Int) := by
  unfold format_Zero.f
  have h := join_f f neg 0 0 (Nat.zero_le _) (Nat.two_pow_pos _)
  rw [show ((0 : Nat) : Int) = 0 from rfl] at h
  rw [h]; unfold joinN; simp
def infN (f : Int) (neg : Bool) : Nat := topN f * 2 ^ fm f + signN f neg
theorem inf_f (f : Int) (neg : Bool) : format_Inf.f f neg = some (infN f neg : Int) := by
  unfold format_Inf.f infN
  have h := join_f f neg (topN f) 0 (Nat.le_refl _) (Nat.two_pow_pos _)
  rw [show ((0 : Nat) : Int) = 0 from rfl] at h
  rw [top_f]; simp only [Option.bind_some]; rw [h]; unfold joinN; simp
def greatN (f : Int) (neg : Bool) : Nat := topN f * 2 ^ fm f - 1 + signN f neg
theorem greatest_f (f : Int) (neg : Bool) : format_Greatest.f f neg = some (greatN f neg : Int) := by
  unfold format_Greatest.f greatN
  obtain ⟨b1, b2, b3, b4, b5⟩ := fbounds f
  have hp := Nat.two_pow_pos (fm f)
  have h31 := pow_le31 (show fm f ≤ 31 by omega)
  have ht := top_cases f
  rw [widths_f, top_f]
  simp only [Option.bind_some]
  rw [u64_id (fm f) (by omega), if_pos (by omega), w64_id _ (by omega) (by omega), one_shl _ (by omega), show (((2 ^ fm f : Nat) : Int) - 1) % 4294967296 = ((2 ^ fm f - 1 : Nat) : Int) by omega, show (topN f : Int) - 1 = ((topN f - 1 : Nat) : Int) by omega, join_f f neg _ _ (by omega) (by omega)]
  simp only [Option.bind_some]
  unfold joinN
  congr 2
  have : topN f * 2 ^ fm f = (topN f - 1) * 2 ^ fm f + 2 ^ fm f := by rw [← Nat.succ_mul]; congr 1; omega
  omega
end Go.Proofs.Ytlkjoibpfhjhcaa.Fmt

/- What the reference's formats are: the same plain numbers. -/
namespace Go.Proofs.Ytlkjoibpfhjhcaa.Round
open Go.RowKit Go.Proofs.Ytlkjoibpfhjhcaa.P Go.Proofs.Ytlkjoibpfhjhcaa.Num Go.Proofs.Ytlkjoibpfhjhcaa.BitsF Go.Proofs.Ytlkjoibpfhjhcaa.Fmt Go.Proofs.YtlkjoibpfhjhcaaW.PrintWords Go.Proofs.YtlkjoibpfhjhcaaW.PrintLast Go.Proofs.YtlkjoibpfhjhcaaW.PrintMore

theorem beq_nn (a b : Nat) : (((a : Int) == (b : Int)) : Bool) = decide (a = b) := by
  by_cases h : a = b
  · subst h; simp
  · rw [beq_eq_false_iff_ne.mpr (by omega)]; simp [h]
theorem ref_widths_f (f : Int) : annealref1_Widths.f f = some ((fe f : Int), (fm f : Int)) := by
  unfold annealref1_Widths.f fe fm
  by_cases h : f = 0
  · subst h; rfl
  · rw [if_neg h, if_neg h, if_neg h]
    by_cases h1 : f = 1
    · subst h1; rfl
    · rw [if_neg h1, if_neg h1]; rfl
theorem ref_sign_f (f : Int) (neg : Bool) : annealref1_sign.f f neg = some (signN f neg : Int) := by
  unfold annealref1_sign.f signN
  obtain ⟨b1, b2, b3, b4, b5⟩ := fbounds f
  rw [ref_widths_f]; simp only [Option.bind_some]
  cases neg
  · rfl
  · simp only [if_true]
    rw [show (fe f : Int) + (fm f : Int) = ((fe f + fm f : Nat) : Int) by omega, w64_id _ (by omega) (by omega), if_pos (by omega), one_shl _ b5]
theorem ref_zero_f (f : Int) (neg : Bool) : annealref1_Zero.f f neg = some (signN f neg : Int) := by
  unfold annealref1_Zero.f; rw [ref_sign_f]; rfl
theorem inf_lt (f : Int) (neg : Bool) : infN f neg < 4294967296 ∧ topN f * 2 ^ fm f + 2 ^ fm f = 2 ^ (fe f + fm f) := by
  obtain ⟨b1, b2, b3, b4, b5⟩ := fbounds f
  have h31 := pow_le31 b5
  have hp := Nat.two_pow_pos (fm f)
  have e : topN f * 2 ^ fm f + 2 ^ fm f = 2 ^ (fe f + fm f) := by
    rw [Nat.pow_add, ← Nat.succ_mul]; congr 1
    unfold topN; have := Nat.two_pow_pos (fe f); omega
  refine ⟨?_, e⟩
  unfold infN signN; split <;> omega
end Go.Proofs.Ytlkjoibpfhjhcaa.Round

-- Printed by a program of this session's out of Lean's print of the translation; Lean checks it.
namespace Go.Proofs.Ytlkjoibpfhjhcaa.P
open Go.RowKit Go.Proofs.YtlkjoibpfhjhcaaW.PrintWords Go.Proofs.YtlkjoibpfhjhcaaW.PrintLast Go.Proofs.YtlkjoibpfhjhcaaW.PrintMore
attribute [local go_sem] max2_int min2_int max_two min_two max_three min_three max_four min_four   -- for this text's walks alone
set_option linter.unusedVariables false
set_option linter.unusedSimpArgs false

/-! ### annealseat_Num: function 11 -/
end Go.Proofs.Ytlkjoibpfhjhcaa.P

-- Printed by a program of this session's out of Lean's print of the translation; Lean checks it.
namespace Go.Proofs.Ytlkjoibpfhjhcaa.P
open Go.RowKit Go.Proofs.YtlkjoibpfhjhcaaW.PrintWords Go.Proofs.YtlkjoibpfhjhcaaW.PrintLast Go.Proofs.YtlkjoibpfhjhcaaW.PrintMore
attribute [local go_sem] max2_int min2_int max_two min_two max_three min_three max_four min_four   -- for this text's walks alone
set_option linter.unusedVariables false
set_option linter.unusedSimpArgs false

attribute [local go_sem high] eqA27
/-! ### annealref1_Nan: function 15 -/
/-! ### anneallaw4_SumTurns: function 3 -/
end Go.Proofs.Ytlkjoibpfhjhcaa.P

-- Printed by a program of this session's out of Lean's print of the translation; Lean checks it.
namespace Go.Proofs.Ytlkjoibpfhjhcaa.P
open Go.RowKit Go.Proofs.YtlkjoibpfhjhcaaW.PrintWords Go.Proofs.YtlkjoibpfhjhcaaW.PrintLast Go.Proofs.YtlkjoibpfhjhcaaW.PrintMore
attribute [local go_sem] max2_int min2_int max_two min_two max_three min_three max_four min_four   -- for this text's walks alone
set_option linter.unusedVariables false
set_option linter.unusedSimpArgs false

/-! ### annealref1_Unpack: function 43 -/
/-! ### annealref1_Len: function 73 -/
/-! ### annealref1_Shift: function 80 -/
end Go.Proofs.Ytlkjoibpfhjhcaa.P

-- Printed by a program of this session's out of Lean's print of the translation; Lean checks it.
namespace Go.Proofs.Ytlkjoibpfhjhcaa.P
open Go.RowKit Go.Proofs.YtlkjoibpfhjhcaaW.PrintWords Go.Proofs.YtlkjoibpfhjhcaaW.PrintLast Go.Proofs.YtlkjoibpfhjhcaaW.PrintMore
attribute [local go_sem] max2_int min2_int max_two min_two max_three min_three max_four min_four   -- for this text's walks alone
set_option linter.unusedVariables false
set_option linter.unusedSimpArgs false

/-! ### annealref1_divide: function 74 -/
/-! ### annealref1_up: function 75 -/
/-! ### annealref1_Greatest: function 81 -/
end Go.Proofs.Ytlkjoibpfhjhcaa.P

-- Printed by a program of this session's out of Lean's print of the translation; Lean checks it.
namespace Go.Proofs.Ytlkjoibpfhjhcaa.P
open Go.RowKit Go.Proofs.YtlkjoibpfhjhcaaW.PrintWords Go.Proofs.YtlkjoibpfhjhcaaW.PrintLast Go.Proofs.YtlkjoibpfhjhcaaW.PrintMore
attribute [local go_sem] max2_int min2_int max_two min_two max_three min_three max_four min_four   -- for this text's walks alone
set_option linter.unusedVariables false
set_option linter.unusedSimpArgs false

/-! ### annealref1_over: function 76 -/
end Go.Proofs.Ytlkjoibpfhjhcaa.P

-- Printed by a program of this session's out of Lean's print of the translation; Lean checks it.
namespace Go.Proofs.Ytlkjoibpfhjhcaa.P
open Go.RowKit Go.Proofs.YtlkjoibpfhjhcaaW.PrintWords Go.Proofs.YtlkjoibpfhjhcaaW.PrintLast Go.Proofs.YtlkjoibpfhjhcaaW.PrintMore
attribute [local go_sem] max2_int min2_int max_two min_two max_three min_three max_four min_four   -- for this text's walks alone
set_option linter.unusedVariables false
set_option linter.unusedSimpArgs false

/-! ### annealref1_Pack: function 44 -/
end Go.Proofs.Ytlkjoibpfhjhcaa.P

-- Printed by a program of this session's out of Lean's print of the translation; Lean checks it.
namespace Go.Proofs.Ytlkjoibpfhjhcaa.P
open Go.RowKit Go.Proofs.YtlkjoibpfhjhcaaW.PrintWords Go.Proofs.YtlkjoibpfhjhcaaW.PrintLast Go.Proofs.YtlkjoibpfhjhcaaW.PrintMore
attribute [local go_sem] max2_int min2_int max_two min_two max_three min_three max_four min_four   -- for this text's walks alone
set_option linter.unusedVariables false
set_option linter.unusedSimpArgs false

/-! ### annealref1_Scale: function 18 -/
/-! ### annealref1_neg: function 46 -/
/-! ### annealref1_Key: function 20 -/
/-! ### annealref1_zero: function 51 -/
/-! ### annealref1_Compare: function 45 -/
end Go.Proofs.Ytlkjoibpfhjhcaa.P

/- The reference's parts of a number, its class, its whole number and exponent, its place in the order: as plain numbers. -/
namespace Go.Proofs.Ytlkjoibpfhjhcaa.Round
open Go.RowKit Go.Proofs.Ytlkjoibpfhjhcaa.P Go.Proofs.Ytlkjoibpfhjhcaa.Num Go.Proofs.Ytlkjoibpfhjhcaa.BitsF Go.Proofs.Ytlkjoibpfhjhcaa.Fmt Go.Proofs.YtlkjoibpfhjhcaaW.PrintWords Go.Proofs.YtlkjoibpfhjhcaaW.PrintLast Go.Proofs.YtlkjoibpfhjhcaaW.PrintMore

/-- A number's bits: the lowest of a format's width. -/
def lowN (f : Int) (v : Nat) : Nat := v % 2 ^ (fe f + fm f + 1)
theorem low_lt (f : Int) (v : Nat) : lowN f v < 2 ^ (fe f + fm f + 1) := Nat.mod_lt _ (Nat.two_pow_pos _)
theorem low_32 (f : Int) (v : Nat) : lowN f v < 4294967296 := by
  obtain ⟨b1, b2, b3, b4, b5⟩ := fbounds f
  have := low_lt f v
  have := pow_le32 (show fe f + fm f + 1 ≤ 32 by omega)
  omega
theorem low_id (f : Int) (v : Nat) (h : v < 2 ^ (fe f + fm f + 1)) : lowN f v = v := Nat.mod_eq_of_lt h
def maskN (f : Int) : Nat := 2 ^ (fe f + fm f + 1) - 1
theorem mask_lit (n : Nat) (hn : n ≤ 32) : (IntKind.u64.wrap (shl .u64 1 (n : Int) - 1)) % 4294967296 = ((2 ^ n - 1 : Nat) : Int) := by
  have h32 := pow_le32 hn
  have h0 := Nat.two_pow_pos n
  rw [show shl .u64 1 (n : Int) = _ from shl_u64 1 n, Nat.one_mul]
  generalize 2 ^ n = P at *
  rw [Nat.mod_eq_of_lt (by omega), u64_wrap]
  omega
theorem width_f (f : Int) : wrap64 ((wrap64 (1 + (fe f : Int))) + (fm f : Int)) = ((fe f + fm f + 1 : Nat) : Int) := by
  obtain ⟨b1, b2, b3, b4, b5⟩ := fbounds f
  rw [w64_id (1 + (fe f : Int)) (by omega) (by omega), w64_id _ (by omega) (by omega)]; omega
theorem ref_mask_f (f : Int) : annealref1_Mask.f f = some (maskN f : Int) := by
  unfold annealref1_Mask.f
  have h := fbounds f
  rw [ref_widths_f, Option.bind_some]
  dsimp only
  rw [width_f, mask_lit _ (by omega)]
  exact if_pos (Int.natCast_nonneg _)
theorem and_mask (f : Int) (v : Nat) (hv : v < 4294967296) : Go.bits .and .u32 (v : Int) (maskN f : Int) = (lowN f v : Int) := by
  unfold maskN lowN
  have h := fbounds f
  have h32 := pow_le32 (show fe f + fm f + 1 ≤ 32 by omega)
  generalize fe f + fm f + 1 = n at *
  have h0 := Nat.two_pow_pos n
  rw [and_u32 _ _ hv (by omega), Nat.and_two_pow_sub_one_eq_mod]
theorem top_bit (f : Int) (v : Nat) : ((((lowN f v / 2 ^ (fe f + fm f) : Nat) : Int) == 1) : Bool) = negN f (lowN f v) := by
  rw [show (1 : Int) = ((1 : Nat) : Int) from rfl, beq_nn]
  unfold negN
  have : lowN f v / 2 ^ (fe f + fm f) < 2 := by rw [Nat.div_lt_iff_lt_mul (Nat.two_pow_pos _), Nat.mul_comm, ← Nat.pow_succ]; exact low_lt f v
  rw [Nat.mod_eq_of_lt this]
theorem small_w64 (a n : Nat) (hn : n ≤ 31) : wrap64 ((a % 2 ^ n : Nat) : Int) = ((a % 2 ^ n : Nat) : Int) := by
  have h1 := pow_le31 hn
  have h2 := Nat.mod_lt a (Nat.two_pow_pos n)
  generalize a % 2 ^ n = q at *
  exact w64_id _ (by omega) (by omega)
theorem small_u64 (a n : Nat) (hn : n ≤ 31) : IntKind.u64.wrap ((a % 2 ^ n : Nat) : Int) = ((a % 2 ^ n : Nat) : Int) := by
  have h1 := pow_le31 hn
  have h2 := Nat.mod_lt a (Nat.two_pow_pos n)
  generalize a % 2 ^ n = q at *
  exact u64_id _ (by omega)
theorem ref_parts_f (f : Int) (v : Nat) (hv : v < 4294967296) : annealref1_parts.f f (v : Int) = some (negN f (lowN f v), (expN f (lowN f v) : Int), (fracN f (lowN f v) : Int)) := by
  unfold annealref1_parts.f
  obtain ⟨b1, b2, b3, b4, b5⟩ := fbounds f
  have hl := low_32 f v
  rw [ref_widths_f, Option.bind_some, ref_mask_f, Option.bind_some]
  dsimp only
  rw [and_mask f v hv, show (fe f : Int) + (fm f : Int) = ((fe f + fm f : Nat) : Int) by omega, w64_id _ (by omega) (by omega), if_pos (by omega), if_pos (by omega), if_pos (by omega), shr_u32 _ _ hl, shr_u32 _ _ hl, mask_u32 _ _ (Nat.lt_of_le_of_lt (Nat.div_le_self _ _) hl) (by omega), mask_u32 _ _ hl (by omega), top_bit, small_w64 _ _ (by omega), small_u64 _ _ (by omega)]
  unfold expN fracN
  exact Eq.refl _
/-- The class of a number: 0 nought, 1 small, 2 normal, 3 infinite, 4 quiet, 5 signal. -/
def clsN (f : Int) (v : Nat) : Nat :=
  if expN f v = 0 then (if fracN f v = 0 then 0 else 1) else if expN f v < topN f then 2 else if fracN f v = 0 then 3 else if fracN f v / 2 ^ (fm f - 1) = 1 then 4 else 5
theorem ref_class_ev (f : Int) (v : Nat) (hv : v < 4294967296) : Ev (fun k => annealref1_Class.f k f (v : Int)) (clsN f (lowN f v) : Int) := by
  obtain ⟨b1, b2, b3, b4, b5⟩ := fbounds f
  have h31 := pow_le31 (show fe f ≤ 31 by omega)
  have h0 := Nat.two_pow_pos (fe f)
  have hfr := frac_lt f (lowN f v)
  have h31' := pow_le31 (show fm f ≤ 31 by omega)
  refine ⟨1, fun k hk => ?_⟩
  obtain ⟨k, rfl⟩ : ∃ j, k = j + 1 := ⟨k - 1, by omega⟩
  unfold annealref1_Class.f clsN
  rw [ref_widths_f, ref_parts_f f v hv]
  simp only [Option.bind_some]
  generalize expN f (lowN f v) = e
  generalize fracN f (lowN f v) = m at *
  have ht : wrap64 (((2 ^ fe f : Nat) : Int) - 1) = (topN f : Int) := by rw [w64_id _ (by omega) (by omega)]; unfold topN; omega
  by_cases c : e = 0
  · subst c
    rw [if_pos (by rfl), annealref1_Class.j0, if_pos rfl]
    by_cases c2 : m = 0
    · subst c2; rfl
    · rw [if_neg (by simp; omega), if_pos (by rfl), if_neg c2]; rfl
  · rw [if_neg (by omega), annealref1_Class.j0, if_neg (by decide), if_neg (by omega), if_pos (by omega), one_shl_i64 _ (by omega), ht, if_neg c]
    by_cases c2 : e < topN f
    · rw [if_pos (by omega), if_pos c2]; rfl
    · rw [if_neg (by omega), if_neg c2]
      by_cases c3 : m = 0
      · rw [if_pos (by omega), if_pos c3]; rfl
      · rw [if_neg (by omega), if_neg c3, w64_id _ (by omega) (by omega), if_pos (by omega), show (fm f : Int) - 1 = ((fm f - 1 : Nat) : Int) by omega, shr_u64 _ _ (by omega)]
        by_cases c4 : m / 2 ^ (fm f - 1) = 1
        · rw [if_pos (by rw [c4]; rfl), if_pos c4]; rfl
        · rw [if_neg (by omega), if_neg c4]; rfl
theorem cls_finite (f : Int) (v : Nat) : clsN f v < 3 ↔ expN f v < topN f := by
  have := top_cases f
  unfold clsN
  split
  · split <;> omega
  · split
    · omega
    · split
      · omega
      · split <;> omega
/-- A finite number's whole number, the exponent of its lowest bit. -/
def wholeN (f : Int) (v : Nat) : Nat := if expN f v = 0 then fracN f v else fracN f v + 2 ^ fm f
def lowestN (f : Int) (v : Nat) : Int := leastN f - fm f + (expN f v - 1 : Nat)
theorem or_top (m n : Nat) (h : m < 2 ^ n) (hn : n ≤ 31) : Go.bits .or .u64 (m : Int) (shl .u64 1 (n : Int)) = ((m + 2 ^ n : Nat) : Int) := by
  have h31 := pow_le31 hn
  rw [show (1 : Int) = ((1 : Nat) : Int) from rfl, shl_u64, Nat.one_mul, Nat.mod_eq_of_lt (by omega), or_u64 _ _ (by omega) (by omega), Nat.or_comm, or_add _ _ n (by simp) h, Nat.add_comm]
/-- A number put together again. -/
theorem low_parts (f : Int) (v : Nat) : lowN f v = expN f (lowN f v) * 2 ^ fm f + fracN f (lowN f v) + signN f (negN f (lowN f v)) := by
  have hlt := low_lt f v
  generalize lowN f v = x at *
  unfold expN fracN signN negN
  have h1 : x / 2 ^ (fe f + fm f) < 2 := by rw [Nat.div_lt_iff_lt_mul (Nat.two_pow_pos _), Nat.mul_comm, ← Nat.pow_succ]; exact hlt
  have h2 : x / 2 ^ fm f / 2 ^ fe f = x / 2 ^ (fe f + fm f) := by rw [Nat.div_div_eq_div_mul, ← Nat.pow_add, Nat.add_comm]
  have h3 := Nat.div_add_mod x (2 ^ fm f)
  have h4 := Nat.div_add_mod (x / 2 ^ fm f) (2 ^ fe f)
  rw [h2] at h4
  have h5 : 2 ^ (fe f + fm f) = 2 ^ fm f * 2 ^ fe f := by rw [← Nat.pow_add, Nat.add_comm]
  rw [Nat.mod_eq_of_lt h1]
  generalize x / 2 ^ (fe f + fm f) = b at *
  generalize hq : x / 2 ^ fm f % 2 ^ fe f = q at *
  generalize x % 2 ^ fm f = r at *
  rw [← h4, Nat.mul_add] at h3
  have h6 : b = 0 ∨ b = 1 := by omega
  rcases h6 with rfl | rfl
  · rw [if_neg (by decide)]; rw [Nat.mul_comm q]; omega
  · rw [if_pos (by decide), h5, Nat.mul_comm q]
    rw [Nat.mul_one] at h3
    omega
end Go.Proofs.Ytlkjoibpfhjhcaa.Round

/- The reference's classes and order of any numbers: plain numbers. -/
namespace Go.Proofs.Ytlkjoibpfhjhcaa.Round
open Go.RowKit Go.Proofs.Ytlkjoibpfhjhcaa.P Go.Proofs.Ytlkjoibpfhjhcaa.Num Go.Proofs.Ytlkjoibpfhjhcaa.BitsF Go.Proofs.Ytlkjoibpfhjhcaa.Fmt Go.Proofs.YtlkjoibpfhjhcaaW.PrintWords Go.Proofs.YtlkjoibpfhjhcaaW.PrintLast Go.Proofs.YtlkjoibpfhjhcaaW.PrintMore

theorem mod_part (v a b c : Nat) (h : b + c ≤ a) : v % 2 ^ a / 2 ^ b % 2 ^ c = v / 2 ^ b % 2 ^ c := by
  apply Nat.eq_of_testBit_eq
  intro i
  rw [Nat.testBit_mod_two_pow, Nat.testBit_mod_two_pow, Nat.testBit_div_two_pow, Nat.testBit_div_two_pow, Nat.testBit_mod_two_pow]
  by_cases h1 : i < c
  · have : i + b < a := by omega
    simp [h1, this]
  · simp [h1]
theorem neg_low (f : Int) (v : Nat) : negN f (lowN f v) = negN f v := by
  unfold negN lowN
  have := mod_part v (fe f + fm f + 1) (fe f + fm f) 1 (Nat.le_refl _)
  rw [Nat.pow_one] at this
  rw [this]
theorem exp_low (f : Int) (v : Nat) : expN f (lowN f v) = expN f v := mod_part v (fe f + fm f + 1) (fm f) (fe f) (by omega)
theorem frac_low (f : Int) (v : Nat) : fracN f (lowN f v) = fracN f v := by
  have := mod_part v (fe f + fm f + 1) 0 (fm f) (by omega)
  rw [Nat.pow_zero, Nat.div_one, Nat.div_one] at this
  exact this
theorem cls_low (f : Int) (v : Nat) : clsN f (lowN f v) = clsN f v := by unfold clsN; rw [exp_low, frac_low]
theorem rclass_ev (f : Int) (v : Nat) (hv : v < 4294967296) : Ev (fun k => annealref1_Class.f k f (v : Int)) (clsN f v : Int) := by
  have := ref_class_ev f v hv; rw [cls_low] at this; exact this
def isNan (f : Int) (v : Nat) : Bool := decide (4 ≤ clsN f v)
def isLoud (f : Int) (v : Nat) : Bool := decide (clsN f v = 5)
theorem cls_le (f : Int) (v : Nat) : clsN f v ≤ 5 := by
  unfold clsN
  repeat' split
  all_goals omega
theorem nans_step (f : Int) (L : List Int) (i v : Nat) (b c : Bool) (r : Bool × Bool) (hi : i < L.length) (hn : L.length ≤ 100) (hv : v < 4294967296) (hr : rd L (i : Int) = (v : Int))
    (h : Ev (fun k => annealref1_nans.l0 k f L (b || isNan f v) (c || isLoud f v) ((i + 1 : Nat) : Int)) r) : Ev (fun k => annealref1_nans.l0 k f L b c (i : Int)) r := by
  have hw : wrap64 ((i : Int) + 1) = ((i + 1 : Nat) : Int) := by rw [w64_id _ (by omega) (by omega)]; omega
  have hc := cls_le f v
  refine Ev.step (fun k => by rw [annealref1_nans.l0, if_pos (by omega), if_pos (Int.natCast_nonneg _), hr, hw]) (Ev.bind (rclass_ev f v hv) (Ev.congr (fun k => ?_) h))
  have e5 : (((clsN f v : Nat) : Int) == 5) = isLoud f v := by rw [show (5 : Int) = ((5 : Nat) : Int) from rfl, beq_nn]; rfl
  rw [e5]
  cases b
  · by_cases c4 : clsN f v = 4
    · have n4 : isNan f v = true := by unfold isNan; rw [c4]; rfl
      rw [if_neg (by decide), if_pos (by omega), n4]
      cases c <;> simp
    · have n4 : isNan f v = isLoud f v := by unfold isNan isLoud; apply decide_eq_decide.mpr; omega
      rw [if_neg (by decide), if_neg (by omega), n4]
      cases c <;> simp
  · cases c <;> simp
theorem nans_end (f : Int) (L : List Int) (b c : Bool) : Ev (fun k => annealref1_nans.l0 k f L b c (L.length : Int)) (b, c) :=
  Ev.step (fun k => by rw [annealref1_nans.l0, if_neg (by omega)]) (Ev.now _)
theorem nans1_ev (f : Int) (v : Nat) (hv : v < 4294967296) : Ev (fun k => annealref1_nans.f k f [(v : Int)]) (isNan f v, isLoud f v) := by
  refine Ev.congr (fun k => by unfold annealref1_nans.f; rfl) (nans_step f _ 0 v false false _ (by simp) (by simp) hv rfl ?_)
  rw [Bool.false_or, Bool.false_or]
  exact nans_end f [(v : Int)] _ _
end Go.Proofs.Ytlkjoibpfhjhcaa.Round

/- The reference's finite numbers: their whole numbers and exponents. -/
namespace Go.Proofs.Ytlkjoibpfhjhcaa.Round
open Go.RowKit Go.Proofs.Ytlkjoibpfhjhcaa.P Go.Proofs.Ytlkjoibpfhjhcaa.Num Go.Proofs.Ytlkjoibpfhjhcaa.BitsF Go.Proofs.Ytlkjoibpfhjhcaa.Fmt Go.Proofs.YtlkjoibpfhjhcaaW.PrintWords Go.Proofs.YtlkjoibpfhjhcaaW.PrintLast Go.Proofs.YtlkjoibpfhjhcaaW.PrintMore

end Go.Proofs.Ytlkjoibpfhjhcaa.Round

/- The program's parts of a number, its class, its whole number and exponent: as plain numbers; the reference's are the same. -/
namespace Go.Proofs.Ytlkjoibpfhjhcaa.Round
open Go.RowKit Go.Proofs.Ytlkjoibpfhjhcaa.P Go.Proofs.Ytlkjoibpfhjhcaa.Num Go.Proofs.Ytlkjoibpfhjhcaa.BitsF Go.Proofs.Ytlkjoibpfhjhcaa.Fmt Go.Proofs.YtlkjoibpfhjhcaaW.PrintWords Go.Proofs.YtlkjoibpfhjhcaaW.PrintLast Go.Proofs.YtlkjoibpfhjhcaaW.PrintMore

theorem sum_w (f : Int) : IntKind.u64.wrap (wrap64 ((fe f : Int) + (fm f : Int))) = ((fe f + fm f : Nat) : Int) := by
  have h := fbounds f
  rw [show (fe f : Int) + (fm f : Int) = ((fe f + fm f : Nat) : Int) by omega, wu _ (by omega)]
theorem parts_f (f : Int) (v : Nat) (hv : v < 4294967296) : format_Parts.f f (v : Int) = some (negN f v, (expN f v : Int), (fracN f v : Int)) := by
  unfold format_Parts.f
  have h := fbounds f
  have hd : v / 2 ^ (fe f + fm f) < 4294967296 := Nat.lt_of_le_of_lt (Nat.div_le_self _ _) hv
  have hd' : v / 2 ^ fm f < 4294967296 := Nat.lt_of_le_of_lt (Nat.div_le_self _ _) hv
  rw [widths_f, Option.bind_some]
  dsimp only
  rw [sum_w, u64_id (fm f) (by omega), u64_id (fe f) (by omega), if_pos (Int.natCast_nonneg _), if_pos (Int.natCast_nonneg _), if_pos (Int.natCast_nonneg _), shr_u32 _ _ hv, shr_u32 _ _ hv, and1_u32 _ hd, mask_u32 _ _ hd' (by omega), mask_u32 _ _ hv (by omega), small_w64 _ _ (by omega)]
  rw [show (1 : Int) = ((1 : Nat) : Int) from rfl, beq_nn]
  unfold negN expN fracN
  exact Eq.refl _
theorem class_j0 (k : Nat) (f : Int) (e m : Nat) (he : e ≤ topN f) (hm : m < 2 ^ fm f) (hz : ¬ (e = 0 ∧ m = 0)) :
    format_Class.j0 (k + 1) f (fm f : Int) (e : Int) (m : Int) false = some (((if e = 0 then (if m = 0 then 0 else 1) else if e < topN f then 2 else if m = 0 then 3 else if m / 2 ^ (fm f - 1) = 1 then 4 else 5 : Nat)) : Int) := by
  have h := fbounds f
  have h31 := pow_le31 (show fm f ≤ 31 by omega)
  rw [format_Class.j0, if_neg (by decide)]
  by_cases c : e = 0
  · subst c
    rw [if_pos (by rfl), if_pos rfl, if_neg (fun h => hz ⟨rfl, h⟩)]; rfl
  · rw [if_neg (by omega), if_neg c, top_f, Option.bind_some]
    by_cases c2 : e < topN f
    · rw [if_pos (by omega), if_pos c2]; rfl
    · rw [if_neg (by omega), if_neg c2]
      by_cases c3 : m = 0
      · rw [if_pos (by omega), if_pos c3]; rfl
      · rw [if_neg (by omega), if_neg c3, show (fm f : Int) - 1 = ((fm f - 1 : Nat) : Int) by omega, wu _ (by omega), if_pos (Int.natCast_nonneg _), shr_u32 _ _ (by omega)]
        by_cases c4 : m / 2 ^ (fm f - 1) = 1
        · rw [if_pos (by rw [c4]; rfl), if_pos c4]; rfl
        · rw [if_neg (by omega), if_neg c4]; rfl
theorem class_ev (f : Int) (v : Nat) (hv : v < 4294967296) : Ev (fun k => format_Class.f k f (v : Int)) (clsN f v : Int) := by
  have he := exp_le f v
  have hm := frac_lt f v
  refine ⟨1, fun k hk => ?_⟩
  obtain ⟨k, rfl⟩ : ∃ j, k = j + 1 := ⟨k - 1, by omega⟩
  show format_Class.f (k + 1) f (v : Int) = _
  unfold format_Class.f clsN
  rw [widths_f, Option.bind_some, parts_f f v hv, Option.bind_some]
  dsimp only
  generalize expN f v = e at *
  generalize fracN f v = m at *
  by_cases c : e = 0 ∧ m = 0
  · obtain ⟨rfl, rfl⟩ := c
    rw [if_pos (by rfl), format_Class.j0, if_pos (by rfl), if_pos rfl, if_pos rfl]; rfl
  · by_cases c2 : e = 0
    · have e2 : (((m : Int) == 0) : Bool) = false := by simp; omega
      rw [if_pos (by omega), e2, class_j0 k f e m he hm c]
    · rw [if_neg (by omega), class_j0 k f e m he hm c]
theorem neg_f (f : Int) (v : Nat) (hv : v < 4294967296) : format_Neg.f f (v : Int) = some (negN f v) := by
  unfold format_Neg.f; rw [parts_f f v hv]; rfl
/-- The plain one that is no number. -/
def nanN (f : Int) : Nat := topN f * 2 ^ fm f + 2 ^ (fm f - 1)
theorem half_frac (f : Int) : 2 ^ (fm f - 1) < 2 ^ fm f := by
  have h := fbounds f
  exact Nat.pow_lt_pow_right (by decide) (by omega)
theorem nan_f (f : Int) : format_Nan.f f = some (nanN f : Int) := by
  unfold format_Nan.f
  have h := fbounds f
  rw [widths_f, Option.bind_some, top_f, Option.bind_some]
  dsimp only
  rw [show (fm f : Int) - 1 = ((fm f - 1 : Nat) : Int) by omega, wu _ (by omega), if_pos (Int.natCast_nonneg _), one_shl _ (by omega), join_f f false _ _ (Nat.le_refl _) (half_frac f), Option.bind_some]
  unfold joinN nanN
  simp [signN]
theorem bad_f (f : Int) : sum_Bad.f f = some ((nanN f : Int), true, false, false, false, false) := by
  unfold sum_Bad.f; rw [nan_f]; rfl
theorem unpack_f (f : Int) (v : Nat) (hv : v < 4294967296) (h : expN f v < topN f) : format_Unpack.f f (v : Int) = some (negN f v, lowestN f v, (wholeN f v : Int)) := by
  unfold format_Unpack.f lowestN wholeN
  obtain ⟨b1, b2, b3, b4, b5⟩ := fbounds f
  have hm := frac_lt f v
  have h31 := pow_le31 (show fm f ≤ 31 by omega)
  have hl := least_cases f
  have ht := top_cases f
  rw [widths_f, Option.bind_some, parts_f f v hv, Option.bind_some]
  dsimp only
  generalize expN f v = e at *
  generalize fracN f v = m at *
  by_cases c : e = 0
  · subst c
    rw [if_pos (by rfl), least_f, Option.bind_some, if_pos rfl, w64_id (leastN f - fm f) (by omega) (by omega), u64_id m (by omega)]
    simp
  · rw [if_neg (by omega), top_f, Option.bind_some, if_neg (by omega), least_f, Option.bind_some, if_neg c, u64_id (fm f) (by omega), if_pos (Int.natCast_nonneg _), u64_id m (by omega), or_top m _ hm (by omega), w64_id (leastN f - fm f) (by omega) (by omega), w64_id (leastN f - fm f + e) (by omega) (by omega), w64_id _ (by omega) (by omega), show leastN f - (fm f : Int) + (e : Int) - 1 = leastN f - fm f + ((e - 1 : Nat) : Int) by omega]
theorem of_f (f : Int) (v : Nat) (hv : v < 4294967296) (h : expN f v < topN f) : sum_Of.f f (v : Int) = some (negN f v, lowestN f v, (wholeN f v : Int), false) := by
  unfold sum_Of.f; rw [unpack_f f v hv h]; rfl

end Go.Proofs.Ytlkjoibpfhjhcaa.Round

/- What the program's rounding computes, as plain numbers. -/
namespace Go.Proofs.Ytlkjoibpfhjhcaa.Round
open Go.RowKit Go.Proofs.Ytlkjoibpfhjhcaa.P Go.Proofs.Ytlkjoibpfhjhcaa.Num Go.Proofs.Ytlkjoibpfhjhcaa.BitsF Go.Proofs.Ytlkjoibpfhjhcaa.Fmt Go.Proofs.YtlkjoibpfhjhcaaW.PrintWords Go.Proofs.YtlkjoibpfhjhcaaW.PrintLast Go.Proofs.YtlkjoibpfhjhcaaW.PrintMore

/-- Whole units of 2^d of a number times 1 (d below nought: more of them). -/
def quoN (s : Nat) (d : Int) : Nat := if d ≤ 0 then s * 2 ^ (-d).toNat else s / 2 ^ d.toNat
/-- What is left: 0 nothing, 1 less than a half, 2 a half, 3 more. -/
def leftN (s : Nat) (d : Int) (more : Bool) : Nat :=
  if d ≤ 0 ∨ s % 2 ^ d.toNat = 0 then (if more then 1 else 0)
  else if s / 2 ^ (d.toNat - 1) % 2 = 0 then 1 else if s % 2 ^ (d.toNat - 1) ≠ 0 ∨ more = true then 3 else 2
/-- Is the unit above taken? -/
def upN (mode : Int) (neg : Bool) (q left : Nat) : Bool :=
  if mode = 1 then false else if mode = 2 then (!neg && decide (left ≠ 0)) else if mode = 3 then (neg && decide (left ≠ 0))
  else if mode = 4 then decide (2 ≤ left) else (decide (left = 3) || (decide (left = 2) && decide (q % 2 = 1)))
/-- How many binades above the least normal one. -/
def riseN (f : Int) (x : Int) (s : Nat) : Nat := if s = 0 then 0 else (x + lenN s - 1 - leastN f).toNat
/-- The exponent of the unit. -/
def unitN (f : Int) (x : Int) (s : Nat) : Int := leastN f - fm f + riseN f x s
/-- The rounded number's bits, without its sign, as if there were exponents without end. -/
def keyN (f mode : Int) (neg : Bool) (x : Int) (s : Nat) (more : Bool) : Nat :=
  riseN f x s * 2 ^ fm f + quoN s (unitN f x s - x) + (if upN mode neg (quoN s (unitN f x s - x)) (leftN s (unitN f x s - x) more) then 1 else 0)
def overN (f : Int) (k : Nat) : Bool := decide (topN f * 2 ^ fm f ≤ k)
/-- Beyond the greatest: is it infinite? -/
def endless (mode : Int) (neg : Bool) : Bool := if mode = 1 then false else if mode = 2 then !neg else if mode = 3 then neg else true
def inexN (f : Int) (x : Int) (s : Nat) (more : Bool) : Bool := decide (leftN s (unitN f x s - x) more ≠ 0)
def underN (f : Int) (x : Int) (s : Nat) (more : Bool) : Bool := inexN f x s more && (decide (s = 0) || decide (x + lenN s - 1 < leastN f))
/-- The rounded number. -/
def packN (f mode : Int) (neg : Bool) (x : Int) (s : Nat) (more : Bool) : Nat :=
  (if overN f (keyN f mode neg x s more) then (if endless mode neg then topN f * 2 ^ fm f else topN f * 2 ^ fm f - 1) else keyN f mode neg x s more) + signN f neg
/-- What is told beside it: Over, Under, Inexact. -/
def excN (f mode : Int) (neg : Bool) (x : Int) (s : Nat) (more : Bool) : Bool × Bool × Bool :=
  if overN f (keyN f mode neg x s more) then (true, false, true) else (false, underN f x s more, inexN f x s more)
def clampE (x : Int) : Int := mn (mx x (-10000)) 10000
theorem clampE_bounds (x : Int) : -10000 ≤ clampE x ∧ clampE x ≤ 10000 := by
  unfold clampE mn mx; split <;> split <;> omega
theorem clampE_id (x : Int) (h : -10000 ≤ x) (h' : x ≤ 10000) : clampE x = x := by
  unfold clampE mn mx; split <;> split <;> omega

theorem unit_f (k : Nat) (f x : Int) (s : Nat) (hs : s < 18446744073709551616) (h1 : -10000 ≤ x) (h2 : x ≤ 10000) : round_Unit.f (k + 1) f x (s : Int) = some (unitN f x s) := by
  unfold round_Unit.f unitN riseN
  obtain ⟨b1, b2, b3, b4, b5⟩ := fbounds f
  have hl := least_cases f
  have hn := lenN_small s hs
  simp only [widths_f, least_f, Option.bind_some]
  by_cases c : s = 0
  · subst c
    rw [if_neg (by decide), if_pos rfl, w64_id _ (by omega) (by omega)]; simp
  · rw [if_pos (by omega), if_neg c, len_f k s hs]
    simp only [Option.bind_some]
    rw [w64_id (x + _) (by omega) (by omega), w64_id (x + _ - 1) (by omega) (by omega)]
    unfold mx
    split
    · rw [w64_id _ (by omega) (by omega)]; congr 1; omega
    · rw [w64_id _ (by omega) (by omega)]; congr 1; omega
theorem quo_lt (s : Nat) (d : Int) (h : d ≤ 0) (h' : s * 2 ^ (-d).toNat < 18446744073709551616) : s * 2 ^ (-d).toNat % 18446744073709551616 = quoN s d := by
  unfold quoN; rw [if_pos h, Nat.mod_eq_of_lt h']
theorem left_le (s : Nat) (d : Int) (more : Bool) : leftN s d more ≤ 3 := by
  unfold leftN; split
  · split <;> omega
  · split
    · omega
    · split <;> omega
theorem shiftN_fst (v : Nat) (n : Int) : (shiftN v n).1 = if 0 ≤ n then v / 2 ^ n.toNat else v * 2 ^ (-n).toNat % 18446744073709551616 := by
  unfold shiftN; split <;> rfl
theorem left_none {s : Nat} {d : Int} (more : Bool) (h : d ≤ 0 ∨ s % 2 ^ d.toNat = 0) : leftN s d more = if more then 1 else 0 := by
  unfold leftN; rw [if_pos h]
theorem left_some {s : Nat} {d : Int} (more : Bool) (h : ¬ d ≤ 0) (h' : ¬ s % 2 ^ d.toNat = 0) :
    leftN s d more = if s / 2 ^ (d.toNat - 1) % 2 = 0 then 1 else if s % 2 ^ (d.toNat - 1) ≠ 0 ∨ more = true then 3 else 2 := by
  unfold leftN; rw [if_neg (not_or.mpr ⟨h, h'⟩)]
theorem units_f (k : Nat) (s : Nat) (hs : s < 18446744073709551616) (d : Int) (h1 : -100000 ≤ d) (h2 : d ≤ 100000) (more : Bool) (hq : d ≤ 0 → s * 2 ^ (-d).toNat < 18446744073709551616) :
    round_Units.f (k + 1) (s : Int) d more = some ((quoN s d : Int), (leftN s d more : Int)) := by
  unfold round_Units.f
  by_cases c : d ≤ 0
  · rw [if_pos c, shift_f s hs d (by omega) (by omega)]
    have e : (shiftN s d).1 = quoN s d := by
      rw [shiftN_fst]
      by_cases c0 : 0 ≤ d
      · obtain rfl : d = 0 := by omega
        unfold quoN; simp
      · rw [if_neg c0]; exact quo_lt s d c (hq c)
    simp only [Option.bind_some, e]
    rw [left_none more (.inl c)]
    cases more <;> rfl
  · rw [if_neg c]
    obtain ⟨m, rfl⟩ := nat_of (show 0 ≤ d by omega)
    have hm : (m : Int) - 1 = ((m - 1 : Nat) : Int) := by omega
    rw [shift_f s hs _ (by omega) (by omega), w64_id _ (by omega) (by omega), hm, shift_f s hs _ (by omega) (by omega)]
    simp only [Option.bind_some, shiftN_right]
    have hqe : quoN s (m : Int) = s / 2 ^ m := by unfold quoN; rw [if_neg c, Int.toNat_natCast]
    have hd : s / 2 ^ (m - 1) < 18446744073709551616 := Nat.lt_of_le_of_lt (Nat.div_le_self _ _) hs
    rw [hqe]
    by_cases z : s % 2 ^ m = 0
    · have hl : leftN s (m : Int) more = if more then 1 else 0 := left_none more (.inr (by rw [Int.toNat_natCast]; exact z))
      rw [hl, if_neg (by simp [z])]
      cases more <;> rfl
    · have hl : leftN s (m : Int) more = _ := left_some more c (by rw [Int.toNat_natCast]; exact z)
      rw [Int.toNat_natCast] at hl
      rw [hl, if_pos (by simp [z]), and1_u64 _ hd]
      by_cases y : s / 2 ^ (m - 1) % 2 = 0
      · simp only [y, if_true, Int.natCast_zero]; rfl
      · simp only [y, if_false]
        rw [if_neg (by omega)]
        by_cases w : s % 2 ^ (m - 1) = 0
        · simp only [w, ne_eq, not_true_eq_false, decide_false, Bool.false_eq_true, if_false, false_or]
          cases more <;> rfl
        · simp only [w, ne_eq, not_false_eq_true, decide_true, if_true, true_or]; rfl
theorem up_f (mode : Int) (neg : Bool) (q left : Nat) (hq : q < 18446744073709551616) : round_Up.f mode neg (q : Int) (left : Int) = some (upN mode neg q left) := by
  unfold round_Up.f upN
  have eb : (((left : Int) != 0) : Bool) = decide (left ≠ 0) := by rw [show (0 : Int) = ((0 : Nat) : Int) from rfl, bne_cast]
  have e1 : ((Go.bits .and .u64 (q : Int) 1 == 1) : Bool) = decide (q % 2 = 1) := by
    rw [and1_u64 q hq, show (1 : Int) = ((1 : Nat) : Int) from rfl]
    by_cases h : q % 2 = 1
    · rw [h]; rfl
    · rw [decide_eq_false h, beq_eq_false_iff_ne]; omega
  rw [eb, e1]
  by_cases m1 : mode = 1
  · rw [if_pos m1, if_pos m1]
  · rw [if_neg m1, if_neg m1]
    by_cases m2 : mode = 2
    · rw [if_pos m2, if_pos m2]; cases neg <;> simp
    · rw [if_neg m2, if_neg m2]
      by_cases m3 : mode = 3
      · rw [if_pos m3, if_pos m3]; cases neg <;> simp
      · rw [if_neg m3, if_neg m3]
        by_cases m4 : mode = 4
        · rw [if_pos m4, if_pos m4]; congr 1; apply decide_eq_decide.mpr; omega
        · rw [if_neg m4, if_neg m4]
          by_cases l3 : left = 3
          · subst l3; rfl
          · rw [if_neg (by omega), decide_eq_false l3, Bool.false_or]
            by_cases l2 : left = 2
            · subst l2; simp
            · rw [if_neg (by omega), decide_eq_false l2, Bool.false_and]
theorem beyond_f (f mode : Int) (neg : Bool) : round_beyond.f f mode neg = some (((if endless mode neg then infN f neg else greatN f neg : Nat) : Int), false, false, true, false, true) := by
  unfold round_beyond.f endless
  simp only [greatest_f, inf_f, Option.bind_some]
  by_cases m1 : mode = 1
  · rw [if_pos m1, if_pos m1]; rfl
  · rw [if_neg m1, if_neg m1]
    by_cases m2 : mode = 2
    · rw [if_pos m2, if_pos m2]; cases neg <;> rfl
    · rw [if_neg m2, if_neg m2]
      by_cases m3 : mode = 3
      · rw [if_pos m3, if_pos m3]; cases neg <;> rfl
      · rw [if_neg m3, if_neg m3]; rfl

/-- Below the least normal number there are fewer units than a normal number has; above, as many. -/
theorem quo_bounds (f x : Int) (s : Nat) : quoN s (unitN f x s - x) < 2 ^ (fm f + 1) ∧ (riseN f x s ≠ 0 → 2 ^ fm f ≤ quoN s (unitN f x s - x)) := by
  obtain ⟨b1, b2, b3, b4, b5⟩ := fbounds f
  by_cases c : s = 0
  · subst c
    have : riseN f x 0 = 0 := by unfold riseN; rw [if_pos rfl]
    refine ⟨?_, fun h => absurd this h⟩
    have h0 := Nat.two_pow_pos (fm f + 1)
    unfold quoN; split <;> simp [h0]
  · have hlt := lenN_lt s
    have hle := lenN_le s c
    have hpos := lenN_pos s c
    have hr : riseN f x s = (x + lenN s - 1 - leastN f).toNat := by unfold riseN; rw [if_neg c]
    unfold unitN quoN
    generalize lenN s = L at *
    by_cases d : leastN f - (fm f : Int) + (riseN f x s : Int) - x ≤ 0
    · rw [if_pos d]
      obtain ⟨j, hj⟩ := nat_of (show 0 ≤ -(leastN f - (fm f : Int) + (riseN f x s : Int) - x) by omega)
      rw [hj, Int.toNat_natCast]
      have hjL : L + j ≤ fm f + 1 := by omega
      constructor
      · calc s * 2 ^ j < 2 ^ L * 2 ^ j := Nat.mul_lt_mul_of_pos_right hlt (Nat.two_pow_pos _)
          _ = 2 ^ (L + j) := (Nat.pow_add ..).symm
          _ ≤ 2 ^ (fm f + 1) := Nat.pow_le_pow_right (by decide) hjL
      · intro h
        calc 2 ^ fm f = 2 ^ (L - 1) * 2 ^ j := by rw [← Nat.pow_add]; congr 1; omega
          _ ≤ s * 2 ^ j := Nat.mul_le_mul_right _ hle
    · rw [if_neg d]
      obtain ⟨j, hj⟩ := nat_of (show 0 ≤ leastN f - (fm f : Int) + (riseN f x s : Int) - x by omega)
      rw [hj, Int.toNat_natCast]
      constructor
      · rw [Nat.div_lt_iff_lt_mul (Nat.two_pow_pos _), ← Nat.pow_add]
        exact Nat.lt_of_lt_of_le hlt (Nat.pow_le_pow_right (by decide) (by omega))
      · intro h
        rw [Nat.le_div_iff_mul_le (Nat.two_pow_pos _), ← Nat.pow_add]
        exact Nat.le_trans (Nat.pow_le_pow_right (by decide) (by omega)) hle
theorem unit_bounds (f x : Int) (s : Nat) (hs : s < 18446744073709551616) (h1 : -10000 ≤ x) (h2 : x ≤ 10000) : -200 ≤ unitN f x s ∧ unitN f x s ≤ 10100 ∧ riseN f x s ≤ 10200 := by
  obtain ⟨b1, b2, b3, b4, b5⟩ := fbounds f
  have hl := least_cases f
  have hn := lenN_small s hs
  unfold unitN
  have hr : riseN f x s = 0 ∨ (riseN f x s : Int) = x + lenN s - 1 - leastN f := by
    unfold riseN; split
    · left; rfl
    · omega
  omega
theorem exc_cast (l : Nat) : (((l : Int) != 0) : Bool) = decide (l ≠ 0) := by rw [show (0 : Int) = ((0 : Nat) : Int) from rfl, bne_cast]

/-- The last steps: what is made of units, of how many a normal number has. -/
theorem pack_j3 (k : Nat) (f mode : Int) (neg : Bool) (x : Int) (s q l a : Nat) (hs : s < 18446744073709551616) (hq : q < 18446744073709551616) (h1 : -10000 ≤ x) (h2 : x ≤ 10000) (K : Nat)
    (hK : K = a * 2 ^ fm f + q % 2 ^ fm f) :
    round_Pack.j3 (k + 2) f mode neg x (s : Int) (fm f : Int) (q : Int) (l : Int) (a : Int) = some
      ((((if overN f K then (if endless mode neg then topN f * 2 ^ fm f else topN f * 2 ^ fm f - 1) else K) + signN f neg : Nat) : Int), false, false,
        overN f K, !overN f K && (decide (l ≠ 0) && (decide (s = 0) || decide (x + lenN s - 1 < leastN f))), overN f K || decide (l ≠ 0)) := by
  obtain ⟨b1, b2, b3, b4, b5⟩ := fbounds f
  have hp := Nat.two_pow_pos (fm f)
  have hm : q % 2 ^ fm f < 2 ^ fm f := Nat.mod_lt _ hp
  have h31 := pow_le31 (show fm f ≤ 31 by omega)
  have ho : (a : Int) ≥ (topN f : Int) ↔ overN f K = true := by
    unfold overN
    rw [decide_eq_true_iff, hK]
    constructor
    · intro h
      have : topN f * 2 ^ fm f ≤ a * 2 ^ fm f := Nat.mul_le_mul_right _ (by omega)
      omega
    · intro h
      rcases Nat.lt_or_ge a (topN f) with c | c
      · have : (a + 1) * 2 ^ fm f ≤ topN f * 2 ^ fm f := Nat.mul_le_mul_right _ c
        rw [Nat.add_mul, Nat.one_mul] at this; omega
      · omega
  rw [round_Pack.j3, top_f]
  simp only [Option.bind_some]
  by_cases c : (a : Int) ≥ (topN f : Int)
  · rw [if_pos c, beyond_f, ho.mp c]
    simp only [Option.bind_some, if_true, Bool.not_true, Bool.false_and, Bool.true_or]
    congr 2
    unfold infN greatN
    split <;> rfl
  · rw [if_neg c]
    have co : overN f K = false := by simpa using fun h => c (ho.mpr h)
    have ec : bits_Cut.f (q : Int) (fm f : Int) = some ((q % 2 ^ fm f : Nat) : Int) := by
      rw [cut_f q hq _ (by omega)]; unfold cutN; rw [if_neg (by omega), Int.toNat_natCast]
    have ej : format_Join.f f neg (a : Int) (((q % 2 ^ fm f : Nat) : Int) % 4294967296) = some ((K + signN f neg : Nat) : Int) := by
      rw [show ((q % 2 ^ fm f : Nat) : Int) % 4294967296 = ((q % 2 ^ fm f : Nat) : Int) by omega, join_f f neg _ _ (by omega) hm, hK]; rfl
    rw [co, ec]
    simp only [Option.bind_some, ej, Bool.false_eq_true, if_false, Bool.not_false, Bool.true_and, Bool.false_or, exc_cast]
    by_cases l0 : l = 0
    · subst l0; simp
    · rw [if_neg (by omega)]
      by_cases s0 : s = 0
      · subst s0; simp [l0]
      · have hn := lenN_small s hs
        rw [if_neg (by omega), len_f (k) s hs, least_f]
        simp only [Option.bind_some]
        rw [w64_id (x + _) (by omega) (by omega), w64_id _ (by omega) (by omega)]
        simp [l0, s0]
theorem pack_j1 (k : Nat) (f mode : Int) (neg : Bool) (x : Int) (s q l : Nat) (U : Nat) (hU : U ≤ 10200) (hs : s < 18446744073709551616) (hq : q ≤ 2 ^ (fm f + 1)) (hq' : U ≠ 0 → 2 ^ fm f ≤ q) (h1 : -10000 ≤ x) (h2 : x ≤ 10000) (K : Nat)
    (hK : K = U * 2 ^ fm f + q) :
    round_Pack.j1 (k + 4) f mode neg x (s : Int) (fm f : Int) (leastN f - fm f + U) (q : Int) (l : Int) = some
      ((((if overN f K then (if endless mode neg then topN f * 2 ^ fm f else topN f * 2 ^ fm f - 1) else K) + signN f neg : Nat) : Int), false, false,
        overN f K, !overN f K && (decide (l ≠ 0) && (decide (s = 0) || decide (x + lenN s - 1 < leastN f))), overN f K || decide (l ≠ 0)) := by
  obtain ⟨b1, b2, b3, b4, b5⟩ := fbounds f
  have hl := least_cases f
  have hp := Nat.two_pow_pos (fm f)
  have h31 := pow_le31 (show fm f + 1 ≤ 31 by omega)
  have hq64 : q < 18446744073709551616 := by omega
  have e1 : wrap64 ((fm f : Int) + 1) = ((fm f + 1 : Nat) : Int) := by rw [w64_id] <;> omega
  have hsucc : 2 ^ (fm f + 1) = 2 * 2 ^ fm f := by rw [Nat.pow_succ, Nat.mul_comm]
  rw [round_Pack.j1, e1, u64_id _ (by omega), if_pos (by omega), shr_u64 _ _ hq64]
  by_cases c : q = 2 ^ (fm f + 1)
  · have hd : q / 2 ^ (fm f + 1) = 1 := by rw [c, Nat.div_self (by omega)]
    rw [hd, if_neg (by decide), w64_id _ (by omega) (by omega), show (q : Int) / 2 = ((2 ^ fm f : Nat) : Int) by omega, round_Pack.j2, least_f]
    simp only [Option.bind_some]
    rw [u64_id _ (by omega), if_pos (by omega), shr_u64 _ _ (by omega), Nat.div_self hp, if_neg (by decide)]
    rw [show leastN f - (fm f : Int) + (U : Int) + 1 + (fm f : Int) = leastN f + (U : Int) + 1 by omega, w64_id (leastN f + (U : Int) + 1) (by omega) (by omega), w64_id (leastN f + (U : Int) + 1 - leastN f) (by omega) (by omega), w64_id _ (by omega) (by omega), show leastN f + (U : Int) + 1 - leastN f + 1 = ((U + 2 : Nat) : Int) by omega]
    exact pack_j3 k f mode neg x s _ l (U + 2) hs (by omega) h1 h2 K (by rw [hK, c, hsucc, Nat.mod_self, Nat.add_mul]; omega)
  · have hd : q / 2 ^ (fm f + 1) = 0 := Nat.div_eq_of_lt (by omega)
    rw [hd, if_pos (by decide), round_Pack.j2, least_f]
    simp only [Option.bind_some]
    rw [u64_id _ (by omega), if_pos (by omega), shr_u64 _ _ hq64]
    by_cases c2 : q < 2 ^ fm f
    · have hU0 : U = 0 := by
        rcases Nat.eq_zero_or_pos U with h | h
        · exact h
        · have := hq' (by omega); omega
      subst hU0
      rw [Nat.div_eq_of_lt c2, if_pos (by decide)]
      have h := pack_j3 k f mode neg x s q l 0 hs hq64 h1 h2 K (by rw [hK, Nat.mod_eq_of_lt c2])
      rw [show ((0 : Nat) : Int) = 0 from rfl] at h
      exact h
    · have hd1 : q / 2 ^ fm f = 1 := Nat.div_eq_of_lt_le (by omega) (by omega)
      rw [hd1, if_neg (by decide)]
      rw [show leastN f - (fm f : Int) + (U : Int) + (fm f : Int) = leastN f + (U : Int) by omega, w64_id (leastN f + (U : Int)) (by omega) (by omega), w64_id (leastN f + (U : Int) - leastN f) (by omega) (by omega), w64_id _ (by omega) (by omega), show leastN f + (U : Int) - leastN f + 1 = ((U + 1 : Nat) : Int) by omega]
      have hm1 : q % 2 ^ fm f = q - 2 ^ fm f := by
        have := Nat.div_add_mod q (2 ^ fm f)
        rw [hd1, Nat.mul_one] at this; omega
      exact pack_j3 k f mode neg x s q l (U + 1) hs hq64 h1 h2 K (by rw [hK, hm1, Nat.add_mul]; omega)
/-- The whole rounding, for every argument. -/
theorem pack_f (k : Nat) (f mode : Int) (neg : Bool) (x : Int) (s : Nat) (more : Bool) (hs : s < 18446744073709551616) :
    round_Pack.f (k + 5) f mode neg x (s : Int) more = some ((packN f mode neg (clampE x) s more : Int), false, false, excN f mode neg (clampE x) s more) := by
  unfold round_Pack.f
  have hc : mn (mx x (-10000)) 10000 = clampE x := rfl
  obtain ⟨h1, h2⟩ := clampE_bounds x
  rw [hc]
  generalize clampE x = x at *
  by_cases z : s = 0 ∧ more = false
  · obtain ⟨rfl, rfl⟩ := z
    rw [if_pos (by decide), round_Pack.j0]
    simp only [Bool.not_false, if_true]
    rw [zero_f]
    have hk : keyN f mode neg x 0 false = 0 := by
      unfold keyN
      have hr : riseN f x 0 = 0 := by unfold riseN; rw [if_pos rfl]
      have hq : quoN 0 (unitN f x 0 - x) = 0 := by unfold quoN; split <;> simp
      have hl : leftN 0 (unitN f x 0 - x) false = 0 := by rw [left_none _ (.inr (by simp))]; rfl
      rw [hr, hq, hl]
      have : upN mode neg 0 0 = false := by unfold upN; simp
      rw [this]; simp
    have hl : leftN 0 (unitN f x 0 - x) false = 0 := by rw [left_none _ (.inr (by simp))]; rfl
    have ho : overN f 0 = false := by
      unfold overN
      have := top_cases f
      have := Nat.two_pow_pos (fm f)
      rw [decide_eq_false_iff_not]
      have : 0 < topN f * 2 ^ fm f := Nat.mul_pos (by omega) (by omega)
      omega
    unfold packN excN underN inexN
    rw [hk, ho, hl]; simp
  · have hj : (if (s : Int) = 0 then round_Pack.j0 (k + 5) f mode neg x (s : Int) more (!more) else round_Pack.j0 (k + 5) f mode neg x (s : Int) more false) = round_Pack.j0 (k + 5) f mode neg x (s : Int) more false := by
      by_cases c : (s : Int) = 0
      · rw [if_pos c]
        cases more
        · exact absurd ⟨by omega, rfl⟩ z
        · rfl
      · rw [if_neg c]
    rw [hj, round_Pack.j0, if_neg (by decide), widths_f]
    obtain ⟨u1, u2, u3⟩ := unit_bounds f x s hs h1 h2
    obtain ⟨q1, q2⟩ := quo_bounds f x s
    obtain ⟨b1, b2, b3, b4, b5⟩ := fbounds f
    have h31 := pow_le31 (show fm f + 1 ≤ 31 by omega)
    have hll := left_le s (unitN f x s - x) more
    have hq64 : quoN s (unitN f x s - x) < 18446744073709551616 := by omega
    have hd : unitN f x s - x ≤ 0 → s * 2 ^ (-(unitN f x s - x)).toNat < 18446744073709551616 := by
      intro h; have := hq64; unfold quoN at this; rw [if_pos h] at this; exact this
    simp only [Option.bind_some]
    rw [unit_f _ f x s hs h1 h2]
    simp only [Option.bind_some]
    rw [w64_id _ (by omega) (by omega), units_f _ s hs _ (by omega) (by omega) more hd]
    simp only [Option.bind_some]
    rw [up_f _ _ _ _ hq64]
    simp only [Option.bind_some]
    have hun : unitN f x s = leastN f - fm f + (riseN f x s : Nat) := rfl
    have key : ∀ up : Bool, round_Pack.j1 (k + 4) f mode neg x (s : Int) (fm f : Int) (unitN f x s) ((quoN s (unitN f x s - x) + (if up then 1 else 0) : Nat) : Int) (leftN s (unitN f x s - x) more : Int) = _ :=
      fun up => pack_j1 k f mode neg x s _ _ (riseN f x s) u3 hs (by split <;> omega) (fun h => Nat.le_trans (q2 h) (Nat.le_add_right _ _)) h1 h2 _ rfl
    have res : ∀ up : Bool, up = upN mode neg (quoN s (unitN f x s - x)) (leftN s (unitN f x s - x) more) → round_Pack.j1 (k + 4) f mode neg x (s : Int) (fm f : Int) (unitN f x s) ((quoN s (unitN f x s - x) + (if up then 1 else 0) : Nat) : Int) (leftN s (unitN f x s - x) more : Int) = some ((packN f mode neg x s more : Int), false, false, excN f mode neg x s more) := by
      intro up hup
      rw [key up]
      subst hup
      unfold packN excN underN inexN keyN
      rw [← Nat.add_assoc]
      by_cases o : overN f (riseN f x s * 2 ^ fm f + quoN s (unitN f x s - x) + if upN mode neg (quoN s (unitN f x s - x)) (leftN s (unitN f x s - x) more) = true then 1 else 0) = true
      · rw [o]; simp
      · rw [Bool.not_eq_true] at o; rw [o]; simp
    by_cases hu : upN mode neg (quoN s (unitN f x s - x)) (leftN s (unitN f x s - x) more) = true
    · rw [if_pos hu]
      have h := res true hu.symm
      rw [if_pos rfl] at h
      rw [show ((quoN s (unitN f x s - x) : Nat) : Int) + 1 = ((quoN s (unitN f x s - x) + 1 : Nat) : Int) by omega, u64_id _ (by omega)]
      exact h
    · rw [if_neg hu]
      rw [Bool.not_eq_true] at hu
      have h := res false hu.symm
      rw [if_neg (by decide), Nat.add_zero] at h
      exact h
end Go.Proofs.Ytlkjoibpfhjhcaa.Round

/- What is a number already is rounded to it; a greater number isn't rounded to a lesser one: of the plain numbers that the rounding computes. -/
namespace Go.Proofs.Ytlkjoibpfhjhcaa.Round
open Go.RowKit Go.Proofs.Ytlkjoibpfhjhcaa.P Go.Proofs.Ytlkjoibpfhjhcaa.Num Go.Proofs.Ytlkjoibpfhjhcaa.BitsF Go.Proofs.Ytlkjoibpfhjhcaa.Fmt Go.Proofs.YtlkjoibpfhjhcaaW.PrintWords Go.Proofs.YtlkjoibpfhjhcaaW.PrintLast Go.Proofs.YtlkjoibpfhjhcaaW.PrintMore

theorem up_none (mode : Int) (neg : Bool) (q : Nat) : upN mode neg q 0 = false := by unfold upN; simp
/-- A whole number of units, of one's own binade or of the least one, with noughts behind. -/
theorem exact_all (f : Int) (M s r : Nat) (hM : M < 2 ^ (fm f + 1)) (hr : r = 0 ∨ 2 ^ fm f ≤ M) :
    riseN f (leastN f - fm f + r - s) (M * 2 ^ s) = r ∧ quoN (M * 2 ^ s) (unitN f (leastN f - fm f + r - s) (M * 2 ^ s) - (leastN f - fm f + r - s)) = M ∧ leftN (M * 2 ^ s) (unitN f (leastN f - fm f + r - s) (M * 2 ^ s) - (leastN f - fm f + r - s)) false = 0 := by
  have hrise : riseN f (leastN f - fm f + r - s) (M * 2 ^ s) = r := by
    unfold riseN
    by_cases c : M = 0
    · subst c
      rw [Nat.zero_mul, if_pos rfl]
      rcases hr with h | h
      · exact h.symm
      · have := Nat.two_pow_pos (fm f); omega
    · rw [if_neg (Nat.mul_ne_zero c (Nat.ne_of_gt (Nat.two_pow_pos s))), lenN_mul M s c]
      have h1 := lenN_bound M (fm f + 1) hM
      have h2 := lenN_pos M c
      have h3 : r ≠ 0 → fm f < lenN M := fun h => lenN_ge M (fm f) (hr.resolve_left h)
      omega
  have hu : unitN f (leastN f - fm f + r - s) (M * 2 ^ s) - (leastN f - fm f + r - s) = (s : Int) := by
    unfold unitN; rw [hrise]; omega
  rw [hu]
  have hp := Nat.two_pow_pos s
  refine ⟨hrise, ?_, left_none _ (.inr ?_)⟩
  · unfold quoN
    by_cases c : (s : Int) ≤ 0
    · obtain rfl : s = 0 := by omega
      simp
    · rw [if_neg c, Int.toNat_natCast, Nat.mul_div_cancel _ hp]
  · rw [Int.toNat_natCast, Nat.mul_mod_left]
theorem exact_pack (f mode : Int) (neg : Bool) (M s r : Nat) (hM : M < 2 ^ (fm f + 1)) (hr : r = 0 ∨ 2 ^ fm f ≤ M) (ht : r * 2 ^ fm f + M < topN f * 2 ^ fm f) :
    packN f mode neg (leastN f - fm f + r - s) (M * 2 ^ s) false = r * 2 ^ fm f + M + signN f neg ∧ excN f mode neg (leastN f - fm f + r - s) (M * 2 ^ s) false = (false, false, false) := by
  obtain ⟨h1, h2, h3⟩ := exact_all f M s r hM hr
  have hk : keyN f mode neg (leastN f - fm f + r - s) (M * 2 ^ s) false = r * 2 ^ fm f + M := by
    unfold keyN; rw [h3, up_none, h1, h2]; simp
  have ho : overN f (r * 2 ^ fm f + M) = false := by unfold overN; rw [decide_eq_false_iff_not]; omega
  constructor
  · unfold packN; rw [hk, ho]; simp
  · unfold excN underN inexN; rw [hk, ho, h3]; simp
theorem whole_lt (f : Int) (v : Nat) : wholeN f v < 2 ^ (fm f + 1) := by
  have hf := frac_lt f v
  have hs : 2 ^ (fm f + 1) = 2 * 2 ^ fm f := by rw [Nat.pow_succ, Nat.mul_comm]
  unfold wholeN; split <;> omega

/-! ### a greater number -/
/-- What is left, by the rest and a half. -/
def restN (r h : Nat) (more : Bool) : Nat := if r < h then (if r = 0 ∧ more = false then 0 else 1) else if r = h ∧ more = false then 2 else 3
theorem left_rest (s : Nat) (d : Int) (more : Bool) (hd : ¬ d ≤ 0) : leftN s d more = restN (s % 2 ^ d.toNat) (2 ^ (d.toNat - 1)) more := by
  obtain ⟨m, hm⟩ : ∃ m, d.toNat = m + 1 := ⟨d.toNat - 1, by omega⟩
  have hh := Nat.two_pow_pos m
  have hs : 2 ^ (m + 1) = 2 ^ m * 2 := Nat.pow_succ ..
  have h1 := Nat.mod_lt s (Nat.two_pow_pos (m + 1))
  have h3 : s / 2 ^ m = (s / 2 ^ (m + 1)) * 2 + (s % 2 ^ (m + 1)) / 2 ^ m := by
    have h2 := Nat.div_add_mod s (2 ^ (m + 1))
    rw [hs] at h2 ⊢
    have e : s = 2 ^ m * (s / (2 ^ m * 2) * 2) + s % (2 ^ m * 2) := by
      rw [← Nat.mul_assoc, Nat.mul_right_comm]; exact h2.symm
    exact (congrArg (· / 2 ^ m) e).trans (Nat.mul_add_div hh _ _)
  have h4 : s % 2 ^ m = s % 2 ^ (m + 1) % 2 ^ m := by rw [hs, Nat.mod_mul_right_mod]
  have hz : ¬ s % 2 ^ (m + 1) = 0 → leftN s d more = if s / 2 ^ m % 2 = 0 then 1 else if s % 2 ^ m ≠ 0 ∨ more = true then 3 else 2 := by
    intro h'
    have := left_some more hd (by rw [hm]; exact h')
    rw [hm, Nat.add_sub_cancel] at this; exact this
  rw [hm, Nat.add_sub_cancel]
  by_cases c : s % 2 ^ (m + 1) = 0
  · rw [left_none _ (.inr (by rw [hm]; exact c)), c]
    unfold restN
    rw [if_pos hh]
    cases more <;> simp
  · rw [hz c, h3, h4]
    generalize s % 2 ^ (m + 1) = r at *
    unfold restN
    by_cases lt : r < 2 ^ m
    · rw [if_pos lt, Nat.div_eq_of_lt lt, if_pos (by omega), if_neg (by omega)]
    · have e1 : r / 2 ^ m = 1 := Nat.div_eq_of_lt_le (by omega) (by omega)
      have e2 : r % 2 ^ m = r - 2 ^ m := by rw [Nat.mod_eq_sub_mod (by omega), Nat.mod_eq_of_lt (by omega)]
      rw [if_neg lt, e1, e2, if_neg (by omega)]
      by_cases e3 : r = 2 ^ m
      · subst e3; cases more <;> simp
      · rw [if_pos (.inl (by omega)), if_neg (by omega)]
end Go.Proofs.Ytlkjoibpfhjhcaa.Round

/- Which numbers are none, infinite, nought; bits of a format alone: the program's, as plain numbers. -/
namespace Go.Proofs.Ytlkjoibpfhjhcaa.Round
open Go.RowKit Go.Proofs.Ytlkjoibpfhjhcaa.P Go.Proofs.Ytlkjoibpfhjhcaa.Num Go.Proofs.Ytlkjoibpfhjhcaa.BitsF Go.Proofs.Ytlkjoibpfhjhcaa.Fmt Go.Proofs.YtlkjoibpfhjhcaaW.PrintWords Go.Proofs.YtlkjoibpfhjhcaaW.PrintLast Go.Proofs.YtlkjoibpfhjhcaaW.PrintMore

theorem pzero_ev (f : Int) (v : Nat) (hv : v < 4294967296) : Ev (fun k => format_IsZero.f k f (v : Int)) (decide (clsN f v = 0)) := by
  refine Ev.congr (fun k => by unfold format_IsZero.f; rfl) (Ev.bind (class_ev f v hv) (Ev.congr (fun k => ?_) (Ev.now _)))
  rw [show (0 : Int) = ((0 : Nat) : Int) from rfl, beq_nn]
theorem pinf_ev (f : Int) (v : Nat) (hv : v < 4294967296) : Ev (fun k => format_IsInf.f k f (v : Int)) (decide (clsN f v = 3)) := by
  refine Ev.congr (fun k => by unfold format_IsInf.f; rfl) (Ev.bind (class_ev f v hv) (Ev.congr (fun k => ?_) (Ev.now _)))
  rw [show (3 : Int) = ((3 : Nat) : Int) from rfl, beq_nn]
theorem pnans_step (f : Int) (L : List Int) (i v : Nat) (b c : Bool) (r : Int × Bool × Bool × Bool × Bool × Bool × Bool) (hi : i < L.length) (hn : L.length ≤ 100) (hv : v < 4294967296) (hr : rd L (i : Int) = (v : Int))
    (h : Ev (fun k => sum_Nans.l0 k f (b || isNan f v) L (L.length : Int) ((i + 1 : Nat) : Int) (c || isLoud f v) false false false false) r) : Ev (fun k => sum_Nans.l0 k f b L (L.length : Int) (i : Int) c false false false false) r := by
  have hw : wrap64 ((i : Int) + 1) = ((i + 1 : Nat) : Int) := by rw [w64_id _ (by omega) (by omega)]; omega
  refine Ev.step (fun k => by rw [sum_Nans.l0, if_pos (by omega), if_pos (Int.natCast_nonneg _), if_pos (by omega), hr, hw]) (Ev.bind (class_ev f v hv) (Ev.congr (fun k => ?_) h))
  have e5 : (((clsN f v : Nat) : Int) == 5) = isLoud f v := by rw [show (5 : Int) = ((5 : Nat) : Int) from rfl, beq_nn]; rfl
  have e4 : decide (((clsN f v : Nat) : Int) ≥ 4) = isNan f v := by unfold isNan; apply decide_eq_decide.mpr; omega
  rw [e5, e4]
  cases b <;> cases c <;> simp
theorem pnans_end (f : Int) (L : List Int) (b c : Bool) : Ev (fun k => sum_Nans.l0 k f b L (L.length : Int) (L.length : Int) c false false false false) ((nanN f : Int), c, false, false, false, false, b) :=
  Ev.step (fun k => by rw [sum_Nans.l0, if_neg (by omega), nan_f]; rfl) (Ev.now _)
theorem pnans2_ev (f : Int) (a b : Nat) (ha : a < 4294967296) (hb : b < 4294967296) : Ev (fun k => sum_Nans.f k f [(a : Int), (b : Int)]) ((nanN f : Int), isLoud f a || isLoud f b, false, false, false, false, isNan f a || isNan f b) := by
  refine Ev.congr (fun k => by unfold sum_Nans.f; rfl) (pnans_step f _ 0 a false false _ (by simp) (by simp) ha rfl (pnans_step f _ 1 b _ _ _ (by simp) (by simp) hb rfl ?_))
  rw [Bool.false_or, Bool.false_or]
  exact pnans_end f [(a : Int), (b : Int)] _ _
/-- A nought's bits are its sign. -/
theorem none_low (f : Int) (v : Nat) (h : clsN f v = 0) : lowN f v = signN f (negN f v) ∧ wholeN f v = 0 := by
  have hz : expN f v = 0 ∧ fracN f v = 0 := by
    unfold clsN at h
    by_cases c : expN f v = 0
    · rw [if_pos c] at h
      by_cases d : fracN f v = 0
      · exact ⟨c, d⟩
      · rw [if_neg d] at h; omega
    · rw [if_neg c] at h
      split at h
      · omega
      · split at h
        · omega
        · split at h <;> omega
  have hp := low_parts f v
  rw [exp_low, frac_low, neg_low, hz.1, hz.2] at hp
  refine ⟨by omega, ?_⟩
  unfold wholeN; rw [if_pos hz.1, hz.2]
theorem key_none (f mode : Int) (neg : Bool) (x : Int) : keyN f mode neg x 0 false = 0 := by
  unfold keyN
  have hr : riseN f x 0 = 0 := by unfold riseN; rw [if_pos rfl]
  have hq : quoN 0 (unitN f x 0 - x) = 0 := by unfold quoN; split <;> simp
  have hl : leftN 0 (unitN f x 0 - x) false = 0 := left_none _ (.inr (by simp))
  unfold upN
  rw [hr, hq, hl]; simp
theorem pack_none (f mode : Int) (neg : Bool) (x : Int) : packN f mode neg x 0 false = signN f neg ∧ excN f mode neg x 0 false = (false, false, false) := by
  have ht := top_cases f
  have hi : 0 < topN f * 2 ^ fm f := Nat.mul_pos (by omega) (Nat.two_pow_pos _)
  have ho : overN f 0 = false := by unfold overN; rw [decide_eq_false_iff_not]; omega
  have hl : leftN 0 (unitN f x 0 - x) false = 0 := left_none _ (.inr (by simp))
  have hin : inexN f x 0 false = false := by unfold inexN; rw [hl]; rfl
  unfold packN excN underN
  rw [key_none, ho, hin]; simp
theorem lowest_near (f : Int) (v : Nat) : -200 ≤ lowestN f v ∧ lowestN f v ≤ 300 := by
  have := least_cases f; have := top_cases f; have := fbounds f; have := exp_le f v
  unfold lowestN; omega
theorem cls_exp (f : Int) (v : Nat) (h : clsN f v < 3) : expN f v < topN f := (cls_finite f v).mp h
end Go.Proofs.Ytlkjoibpfhjhcaa.Round

/- Products: as plain numbers. -/
namespace Go.Proofs.Ytlkjoibpfhjhcaa.Round
open Go.RowKit Go.Proofs.Ytlkjoibpfhjhcaa.P Go.Proofs.Ytlkjoibpfhjhcaa.Num Go.Proofs.Ytlkjoibpfhjhcaa.BitsF Go.Proofs.Ytlkjoibpfhjhcaa.Fmt Go.Proofs.YtlkjoibpfhjhcaaW.PrintWords Go.Proofs.YtlkjoibpfhjhcaaW.PrintLast Go.Proofs.YtlkjoibpfhjhcaaW.PrintMore

/-- A nought and an infinity? -/
def tornN (f : Int) (a b : Nat) : Bool := decide (clsN f a = 0 ∧ clsN f b = 3 ∨ clsN f a = 3 ∧ clsN f b = 0)
def mulN (f mode : Int) (a b : Nat) : Nat :=
  if 4 ≤ clsN f a ∨ 4 ≤ clsN f b then nanN f else if tornN f a b then nanN f else if clsN f a = 3 ∨ clsN f b = 3 then infN f (negN f a != negN f b)
  else packN f mode (negN f a != negN f b) (lowestN f a + lowestN f b) (wholeN f a * wholeN f b) false
def mulX (f mode : Int) (a b : Nat) : Bool × Bool × Bool × Bool × Bool :=
  if 4 ≤ clsN f a ∨ 4 ≤ clsN f b then (isLoud f a || isLoud f b, false, false, false, false) else if tornN f a b then (true, false, false, false, false) else if clsN f a = 3 ∨ clsN f b = 3 then (false, false, false, false, false)
  else (false, false, excN f mode (negN f a != negN f b) (lowestN f a + lowestN f b) (wholeN f a * wholeN f b) false)
theorem mul_small (f : Int) (a b : Nat) : wholeN f a * wholeN f b < 18446744073709551616 := by
  have wa := whole_lt f a
  have wb := whole_lt f b
  have hbd := fbounds f
  have hp24 : 2 ^ (fm f + 1) ≤ 16777216 := Nat.pow_le_pow_right (show 0 < 2 by decide) (show fm f + 1 ≤ 24 by omega)
  have := Nat.mul_le_mul (show wholeN f a ≤ 16777216 by omega) (show wholeN f b ≤ 16777216 by omega)
  omega
end Go.Proofs.Ytlkjoibpfhjhcaa.Round
