import Derived.Test.YtlkjoibpfhjhcaaQptZ
import Derived.Test.YtlkjoibpfhjhcaaQptM1
import Derived.Test.YtlkjoibpfhjhcaaQptM5
import Derived.Test.YtlkjoibpfhjhcaaQptPx27
import Derived.Test.YtlkjoibpfhjhcaaQptPx28
import Derived.Test.YtlkjoibpfhjhcaaQptM4
import Derived.Test.YtlkjoibpfhjhcaaQptPx16
import Derived.Test.YtlkjoibpfhjhcaaQptPx23
-- Printed by a program of this session's out of Lean's print of the translation; Lean checks it.
namespace Go.Proofs.Ytlkjoibpfhjhcaa.P
open Go.RowKit Go.Proofs.YtlkjoibpfhjhcaaW.PrintWords Go.Proofs.YtlkjoibpfhjhcaaW.PrintLast Go.Proofs.YtlkjoibpfhjhcaaW.PrintMore
attribute [local go_sem] max2_int min2_int max_two min_two max_three min_three max_four min_four   -- for this text's walks alone
set_option linter.unusedVariables false
set_option linter.unusedSimpArgs false

attribute [local go_sem high] eqA27
/-! ### anneallaw5_known: function 21 -/
def anneallaw5_known.f (k : Nat)  : Option (Bool) := (prod_Fma.f k 2 0 1073741824 1077936128 1065353216).bind fun bt614 => ((prod_Mul.f k 0 0 31744 0).bind fun bt621 => (if bt614.1 = 1088421888 then (if (!bt614.2.1 && (!bt614.2.2.1 && (!bt614.2.2.2.1 && (!bt614.2.2.2.2.1 && (!bt614.2.2.2.2.2))))) = true then (if bt621.1 = 32256 then (some (bt621.2.1 && (!bt621.2.2.1 && (!bt621.2.2.2.1 && (!bt621.2.2.2.2.1 && (!bt621.2.2.2.2.2)))))) else (some false)) else (some false)) else (some false)))
theorem anneallaw5_known.mono : ∀ k, LeO (anneallaw5_known.f k ) (anneallaw5_known.f (k + 1) ) := by
 intro  k
 unfold anneallaw5_known.f
 repeat' first
   |(with_reducible exact prod_Fma.mono _ _ _ _ _ _)
   |(with_reducible exact prod_Mul.mono _ _ _ _ _)
   |(with_reducible exact LeO.refl _)
   |(with_reducible exact LeO.none _)
   |(with_reducible refine LeO.ite ?_ ?_)
   |(with_reducible refine LeO.bind ?_ (fun _ => ?_))
   |exact prod_Fma.mono _ _ _ _ _ _
   |exact prod_Mul.mono _ _ _ _ _
   |exact LeO.none _
   |refine LeO.ite ?_ ?_
   |refine LeO.bind ?_ (fun _ => ?_)
set_option maxHeartbeats 8000000 in
set_option maxRecDepth 100000 in
theorem anneallaw5_known.calls (k : Nat)  (r : Bool) (w : World) (h : anneallaw5_known.f k  = some r) :
  Calls Try.prog 21 #[] w fun e w' => e = .returned (.bool r) ∧ Below w.heap.size w w' := by
 have hu27 := Try.underlying27
 have HB := Aside0.mk (Below.refl w.heap.size w)
 have H : ((prod_Fma.f k 2 0 1073741824 1077936128 1065353216).bind fun bt614 => ((prod_Mul.f k 0 0 31744 0).bind fun bt621 => (if bt614.1 = 1088421888 then (if (!bt614.2.1 && (!bt614.2.2.1 && (!bt614.2.2.2.1 && (!bt614.2.2.2.2.1 && (!bt614.2.2.2.2.2))))) = true then (if bt621.1 = 32256 then (some (bt621.2.1 && (!bt621.2.2.1 && (!bt621.2.2.2.1 && (!bt621.2.2.2.2.1 && (!bt621.2.2.2.2.2)))))) else (some false)) else (some false)) else (some false)))) = some r := h
 clear h
 replace H := Option.bind_eq_some_iff.mp H
 obtain ⟨⟨t614, t615, t616, t617, t618, t619⟩, A10, H⟩ := H
 replace H : ((prod_Mul.f k 0 0 31744 0).bind fun bt621 => (if t614 = 1088421888 then (if (!t615 && (!t616 && (!t617 && (!t618 && (!t619))))) = true then (if bt621.1 = 32256 then (some (bt621.2.1 && (!bt621.2.2.1 && (!bt621.2.2.2.1 && (!bt621.2.2.2.2.1 && (!bt621.2.2.2.2.2)))))) else (some false)) else (some false)) else (some false))) = some r := H
 have A1 := Aside0.mk A10
 clear A10
 replace H := Option.bind_eq_some_iff.mp H
 obtain ⟨⟨t621, t622, t623, t624, t625, t626⟩, A20, H⟩ := H
 replace H : (if t614 = 1088421888 then (if (!t615 && (!t616 && (!t617 && (!t618 && (!t619))))) = true then (if t621 = 32256 then (some (t622 && (!t623 && (!t624 && (!t625 && (!t626)))))) else (some false)) else (some false)) else (some false)) = some r := H
 have A2 := Aside0.mk A20
 clear A20
 by_cases c3 : t614 = 1088421888
 ·rw [if_pos c3] at H
  have c3b0 : (t614 == 1088421888) = true := beq_iff_eq.mpr c3
  have c3b1 : (t614 != 1088421888) = false := bne_eq_false_iff_eq.mpr c3
  clear c3
  by_cases c4 : (!t615 && (!t616 && (!t617 && (!t618 && (!t619))))) = true
  ·rw [if_pos c4] at H
   have c4b0 : (!t615 && (!t616 && (!t617 && (!t618 && (!t619))))) = true := c4
   clear c4
   by_cases c5 : t621 = 32256
   ·rw [if_pos c5] at H
    have c5b0 : (t621 == 32256) = true := beq_iff_eq.mpr c5
    have c5b1 : (t621 != 32256) = false := bne_eq_false_iff_eq.mpr c5
    clear c5
    obtain rfl := Option.some.inj H
    go_enter Try.func21, Try.ntmps21
    go_wp2_with (first | ((with_reducible refine gate_callee (f := 27) rfl ?_); refine goesL_ (some 6) rfl rfl Try.func27 (by kernel_rfl) rfl #[.int .i64 2, .int .i64 0, .int .u32 1073741824, .int .u32 1077936128, .int .u32 1065353216] rfl gl ?_; (with_reducible refine (prod_Fma.calls k 2 0 1073741824 1077936128 1065353216 t614 t615 t616 t617 t618 t619 _ A1.out).mono ?_); rintro e w6 ⟨rfl, hb⟩; refine ⟨_, rfl, ?_⟩; have n0_ := Aside0.mk (below_step (bl0 HB.out) hb); clear HB; have HB := n0_; clear n0_) | ((with_reducible refine gate_dst (N := 2) rfl ?_); refine box_event ?hg (N := 2) ?hd (cs := F5) (t := 27) ?hr ?_; (case hd => rfl); (case hg => rfl); (case hr => first | (go_simp; done) | (go_simp; rfl)); intro gb620 hg w7 hbox hb; have n0_ := Aside0.mk (below_step (bl0 HB.out) hb); have n1_ := Aside0.mk (hbox); have n2_ := Aside0.mk ((by rw [hg]; exact (below_size (bl0 HB.out)) : w.heap.size ≤ gb620)); have n3_ := n2_; clear HB; have HB := n0_; have BK620 := n1_; have GW620 := n2_; have GE620 := n3_; clear n0_ n1_ n2_ n3_; clear hb hbox hg; obtain ⟨hcz8_0, hcz8_1, hcz8_2, hcz8_3, hcz8_4⟩ := bc5 BK620.out; obtain ⟨hfz8_0, hfz8_1, hfz8_2, hfz8_3, hfz8_4⟩ := bf5 BK620.out) | ((with_reducible refine gate_callee (f := 23) rfl ?_); refine goesL_ (some 10) rfl rfl Try.func23 (by kernel_rfl) rfl #[.int .i64 0, .int .i64 0, .int .u32 31744, .int .u32 0] rfl gl ?_; (with_reducible refine (prod_Mul.calls k 0 0 31744 0 t621 t622 t623 t624 t625 t626 _ A2.out).mono ?_); rintro e w9 ⟨rfl, hb⟩; refine ⟨_, rfl, ?_⟩; have n0_ := Aside0.mk (blk_below (g := gb620) (o := .cells #[.bool t615, .bool t616, .bool t617, .bool t618, .bool t619] 27 (0, 0)) (by (with_reducible repeat first | apply bd | apply be | apply ba); refine blk_put (cs := #[.bool t615, .bool t616, .bool t617, .bool t618, .bool false]) ?_ 4 _ rfl; (with_reducible repeat first | apply bd | apply be | apply ba); refine blk_put (cs := #[.bool t615, .bool t616, .bool t617, .bool false, .bool false]) ?_ 3 _ rfl; (with_reducible repeat first | apply bd | apply be | apply ba); refine blk_put (cs := #[.bool t615, .bool t616, .bool false, .bool false, .bool false]) ?_ 2 _ rfl; (with_reducible repeat first | apply bd | apply be | apply ba); refine blk_put (cs := #[.bool t615, .bool false, .bool false, .bool false, .bool false]) ?_ 1 _ rfl; (with_reducible repeat first | apply bd | apply be | apply ba); refine blk_put (cs := F5) ?_ 0 _ rfl; (with_reducible repeat first | apply bd | apply be | apply ba); exact BK620.out) hb); have n1_ := Aside0.mk (below_step (bl1 HB.out GE620.out) hb); clear BK620; clear HB; have BK620 := n0_; have HB := n1_; clear n0_ n1_) | ((with_reducible refine gate_dst (N := 4) rfl ?_); refine box_event ?hg (N := 4) ?hd (cs := F5) (t := 27) ?hr ?_; (case hd => rfl); (case hg => rfl); (case hr => first | (go_simp; done) | (go_simp; rfl)); intro gb627 hg w10 hbox hb; have n0_ := Aside0.mk (blk_below (g := gb620) (o := .cells #[.bool t615, .bool t616, .bool t617, .bool t618, .bool t619] 27 (0, 0)) (bv BK620.out) hb); have n1_ := Aside0.mk (below_step (bl1 HB.out GE620.out) hb); have n2_ := Aside0.mk (hbox); have n3_ := Aside0.mk ((by rw [hg]; exact (below_size (bl1 HB.out GE620.out)) : w.heap.size ≤ gb627)); have n4_ := n3_; have n5_ := Aside0.mk ((by rw [hg]; exact Nat.ne_of_lt (blk_lt (g := gb620) (o := .cells #[.bool t615, .bool t616, .bool t617, .bool t618, .bool t619] 27 (0, 0)) (bv BK620.out)) : gb620 ≠ gb627)); have n6_ := Aside0.mk (Ne.symm n5_.out); clear BK620; clear HB; have BK620 := n0_; have HB := n1_; have BK627 := n2_; have GW627 := n3_; have GE627 := n4_; have NB620_627 := n5_; have NB627_620 := n6_; clear n0_ n1_ n2_ n3_ n4_ n5_ n6_; clear hb hbox hg; have hnb11 := NB627_620.out; have hnc11 := NB620_627.out; obtain ⟨hcz12_0, hcz12_1, hcz12_2, hcz12_3, hcz12_4⟩ := bc5 BK627.out; obtain ⟨hfz12_0, hfz12_1, hfz12_2, hfz12_3, hfz12_4⟩ := bf5 BK627.out; obtain ⟨hcz13_0, hcz13_1, hcz13_2, hcz13_3, hcz13_4⟩ := bc5 BK620.out; obtain ⟨hfz13_0, hfz13_1, hfz13_2, hfz13_3, hfz13_4⟩ := bf5 BK620.out))
    go_ret
    exact ⟨by first | rfl | (simp [errW_none, errW_some] <;> rfl) | (simp [*, errW_none, errW_some] <;> rfl), bl2 HB.out GE620.out GE627.out⟩
   ·rw [if_neg c5] at H
    have c5b0 : (t621 == 32256) = false := beq_eq_false_iff_ne.mpr c5
    have c5b1 : (t621 != 32256) = true := bne_iff_ne.mpr c5
    obtain rfl := Option.some.inj H
    go_enter Try.func21, Try.ntmps21
    go_wp2_with (first | ((with_reducible refine gate_callee (f := 27) rfl ?_); refine goesL_ (some 6) rfl rfl Try.func27 (by kernel_rfl) rfl #[.int .i64 2, .int .i64 0, .int .u32 1073741824, .int .u32 1077936128, .int .u32 1065353216] rfl gl ?_; (with_reducible refine (prod_Fma.calls k 2 0 1073741824 1077936128 1065353216 t614 t615 t616 t617 t618 t619 _ A1.out).mono ?_); rintro e w14 ⟨rfl, hb⟩; refine ⟨_, rfl, ?_⟩; have n0_ := Aside0.mk (below_step (bl0 HB.out) hb); clear HB; have HB := n0_; clear n0_) | ((with_reducible refine gate_dst (N := 2) rfl ?_); refine box_event ?hg (N := 2) ?hd (cs := F5) (t := 27) ?hr ?_; (case hd => rfl); (case hg => rfl); (case hr => first | (go_simp; done) | (go_simp; rfl)); intro gb620 hg w15 hbox hb; have n0_ := Aside0.mk (below_step (bl0 HB.out) hb); have n1_ := Aside0.mk (hbox); have n2_ := Aside0.mk ((by rw [hg]; exact (below_size (bl0 HB.out)) : w.heap.size ≤ gb620)); have n3_ := n2_; clear HB; have HB := n0_; have BK620 := n1_; have GW620 := n2_; have GE620 := n3_; clear n0_ n1_ n2_ n3_; clear hb hbox hg; obtain ⟨hcz16_0, hcz16_1, hcz16_2, hcz16_3, hcz16_4⟩ := bc5 BK620.out; obtain ⟨hfz16_0, hfz16_1, hfz16_2, hfz16_3, hfz16_4⟩ := bf5 BK620.out) | ((with_reducible refine gate_callee (f := 23) rfl ?_); refine goesL_ (some 10) rfl rfl Try.func23 (by kernel_rfl) rfl #[.int .i64 0, .int .i64 0, .int .u32 31744, .int .u32 0] rfl gl ?_; (with_reducible refine (prod_Mul.calls k 0 0 31744 0 t621 t622 t623 t624 t625 t626 _ A2.out).mono ?_); rintro e w17 ⟨rfl, hb⟩; refine ⟨_, rfl, ?_⟩; have n0_ := Aside0.mk (blk_below (g := gb620) (o := .cells #[.bool t615, .bool t616, .bool t617, .bool t618, .bool t619] 27 (0, 0)) (by (with_reducible repeat first | apply bd | apply be | apply ba); refine blk_put (cs := #[.bool t615, .bool t616, .bool t617, .bool t618, .bool false]) ?_ 4 _ rfl; (with_reducible repeat first | apply bd | apply be | apply ba); refine blk_put (cs := #[.bool t615, .bool t616, .bool t617, .bool false, .bool false]) ?_ 3 _ rfl; (with_reducible repeat first | apply bd | apply be | apply ba); refine blk_put (cs := #[.bool t615, .bool t616, .bool false, .bool false, .bool false]) ?_ 2 _ rfl; (with_reducible repeat first | apply bd | apply be | apply ba); refine blk_put (cs := #[.bool t615, .bool false, .bool false, .bool false, .bool false]) ?_ 1 _ rfl; (with_reducible repeat first | apply bd | apply be | apply ba); refine blk_put (cs := F5) ?_ 0 _ rfl; (with_reducible repeat first | apply bd | apply be | apply ba); exact BK620.out) hb); have n1_ := Aside0.mk (below_step (bl1 HB.out GE620.out) hb); clear BK620; clear HB; have BK620 := n0_; have HB := n1_; clear n0_ n1_) | ((with_reducible refine gate_dst (N := 4) rfl ?_); refine box_event ?hg (N := 4) ?hd (cs := F5) (t := 27) ?hr ?_; (case hd => rfl); (case hg => rfl); (case hr => first | (go_simp; done) | (go_simp; rfl)); intro gb627 hg w18 hbox hb; have n0_ := Aside0.mk (blk_below (g := gb620) (o := .cells #[.bool t615, .bool t616, .bool t617, .bool t618, .bool t619] 27 (0, 0)) (bv BK620.out) hb); have n1_ := Aside0.mk (below_step (bl1 HB.out GE620.out) hb); have n2_ := Aside0.mk (hbox); have n3_ := Aside0.mk ((by rw [hg]; exact (below_size (bl1 HB.out GE620.out)) : w.heap.size ≤ gb627)); have n4_ := n3_; have n5_ := Aside0.mk ((by rw [hg]; exact Nat.ne_of_lt (blk_lt (g := gb620) (o := .cells #[.bool t615, .bool t616, .bool t617, .bool t618, .bool t619] 27 (0, 0)) (bv BK620.out)) : gb620 ≠ gb627)); have n6_ := Aside0.mk (Ne.symm n5_.out); clear BK620; clear HB; have BK620 := n0_; have HB := n1_; have BK627 := n2_; have GW627 := n3_; have GE627 := n4_; have NB620_627 := n5_; have NB627_620 := n6_; clear n0_ n1_ n2_ n3_ n4_ n5_ n6_; clear hb hbox hg; have hnb19 := NB627_620.out; have hnc19 := NB620_627.out; obtain ⟨hcz20_0, hcz20_1, hcz20_2, hcz20_3, hcz20_4⟩ := bc5 BK627.out; obtain ⟨hfz20_0, hfz20_1, hfz20_2, hfz20_3, hfz20_4⟩ := bf5 BK627.out; obtain ⟨hcz21_0, hcz21_1, hcz21_2, hcz21_3, hcz21_4⟩ := bc5 BK620.out; obtain ⟨hfz21_0, hfz21_1, hfz21_2, hfz21_3, hfz21_4⟩ := bf5 BK620.out))
    go_ret
    exact ⟨by first | rfl | (simp [errW_none, errW_some] <;> rfl) | (simp [*, errW_none, errW_some] <;> rfl), bl2 HB.out GE620.out GE627.out⟩
  ·rw [if_neg c4] at H
   have c4b0 : (!t615 && (!t616 && (!t617 && (!t618 && (!t619))))) = false := by simpa using c4
   clear c4
   obtain rfl := Option.some.inj H
   go_enter Try.func21, Try.ntmps21
   go_wp2_with (first | ((with_reducible refine gate_callee (f := 27) rfl ?_); refine goesL_ (some 6) rfl rfl Try.func27 (by kernel_rfl) rfl #[.int .i64 2, .int .i64 0, .int .u32 1073741824, .int .u32 1077936128, .int .u32 1065353216] rfl gl ?_; (with_reducible refine (prod_Fma.calls k 2 0 1073741824 1077936128 1065353216 t614 t615 t616 t617 t618 t619 _ A1.out).mono ?_); rintro e w22 ⟨rfl, hb⟩; refine ⟨_, rfl, ?_⟩; have n0_ := Aside0.mk (below_step (bl0 HB.out) hb); clear HB; have HB := n0_; clear n0_) | ((with_reducible refine gate_dst (N := 2) rfl ?_); refine box_event ?hg (N := 2) ?hd (cs := F5) (t := 27) ?hr ?_; (case hd => rfl); (case hg => rfl); (case hr => first | (go_simp; done) | (go_simp; rfl)); intro gb620 hg w23 hbox hb; have n0_ := Aside0.mk (below_step (bl0 HB.out) hb); have n1_ := Aside0.mk (hbox); have n2_ := Aside0.mk ((by rw [hg]; exact (below_size (bl0 HB.out)) : w.heap.size ≤ gb620)); have n3_ := n2_; clear HB; have HB := n0_; have BK620 := n1_; have GW620 := n2_; have GE620 := n3_; clear n0_ n1_ n2_ n3_; clear hb hbox hg; obtain ⟨hcz24_0, hcz24_1, hcz24_2, hcz24_3, hcz24_4⟩ := bc5 BK620.out; obtain ⟨hfz24_0, hfz24_1, hfz24_2, hfz24_3, hfz24_4⟩ := bf5 BK620.out) | ((with_reducible refine gate_callee (f := 23) rfl ?_); refine goesL_ (some 10) rfl rfl Try.func23 (by kernel_rfl) rfl #[.int .i64 0, .int .i64 0, .int .u32 31744, .int .u32 0] rfl gl ?_; (with_reducible refine (prod_Mul.calls k 0 0 31744 0 t621 t622 t623 t624 t625 t626 _ A2.out).mono ?_); rintro e w25 ⟨rfl, hb⟩; refine ⟨_, rfl, ?_⟩; have n0_ := Aside0.mk (blk_below (g := gb620) (o := .cells #[.bool t615, .bool t616, .bool t617, .bool t618, .bool t619] 27 (0, 0)) (by (with_reducible repeat first | apply bd | apply be | apply ba); refine blk_put (cs := #[.bool t615, .bool t616, .bool t617, .bool t618, .bool false]) ?_ 4 _ rfl; (with_reducible repeat first | apply bd | apply be | apply ba); refine blk_put (cs := #[.bool t615, .bool t616, .bool t617, .bool false, .bool false]) ?_ 3 _ rfl; (with_reducible repeat first | apply bd | apply be | apply ba); refine blk_put (cs := #[.bool t615, .bool t616, .bool false, .bool false, .bool false]) ?_ 2 _ rfl; (with_reducible repeat first | apply bd | apply be | apply ba); refine blk_put (cs := #[.bool t615, .bool false, .bool false, .bool false, .bool false]) ?_ 1 _ rfl; (with_reducible repeat first | apply bd | apply be | apply ba); refine blk_put (cs := F5) ?_ 0 _ rfl; (with_reducible repeat first | apply bd | apply be | apply ba); exact BK620.out) hb); have n1_ := Aside0.mk (below_step (bl1 HB.out GE620.out) hb); clear BK620; clear HB; have BK620 := n0_; have HB := n1_; clear n0_ n1_) | ((with_reducible refine gate_dst (N := 4) rfl ?_); refine box_event ?hg (N := 4) ?hd (cs := F5) (t := 27) ?hr ?_; (case hd => rfl); (case hg => rfl); (case hr => first | (go_simp; done) | (go_simp; rfl)); intro gb627 hg w26 hbox hb; have n0_ := Aside0.mk (blk_below (g := gb620) (o := .cells #[.bool t615, .bool t616, .bool t617, .bool t618, .bool t619] 27 (0, 0)) (bv BK620.out) hb); have n1_ := Aside0.mk (below_step (bl1 HB.out GE620.out) hb); have n2_ := Aside0.mk (hbox); have n3_ := Aside0.mk ((by rw [hg]; exact (below_size (bl1 HB.out GE620.out)) : w.heap.size ≤ gb627)); have n4_ := n3_; have n5_ := Aside0.mk ((by rw [hg]; exact Nat.ne_of_lt (blk_lt (g := gb620) (o := .cells #[.bool t615, .bool t616, .bool t617, .bool t618, .bool t619] 27 (0, 0)) (bv BK620.out)) : gb620 ≠ gb627)); have n6_ := Aside0.mk (Ne.symm n5_.out); clear BK620; clear HB; have BK620 := n0_; have HB := n1_; have BK627 := n2_; have GW627 := n3_; have GE627 := n4_; have NB620_627 := n5_; have NB627_620 := n6_; clear n0_ n1_ n2_ n3_ n4_ n5_ n6_; clear hb hbox hg; have hnb27 := NB627_620.out; have hnc27 := NB620_627.out; obtain ⟨hcz28_0, hcz28_1, hcz28_2, hcz28_3, hcz28_4⟩ := bc5 BK627.out; obtain ⟨hfz28_0, hfz28_1, hfz28_2, hfz28_3, hfz28_4⟩ := bf5 BK627.out; obtain ⟨hcz29_0, hcz29_1, hcz29_2, hcz29_3, hcz29_4⟩ := bc5 BK620.out; obtain ⟨hfz29_0, hfz29_1, hfz29_2, hfz29_3, hfz29_4⟩ := bf5 BK620.out))
   go_ret
   exact ⟨by first | rfl | (simp [errW_none, errW_some] <;> rfl) | (simp [*, errW_none, errW_some] <;> rfl), bl2 HB.out GE620.out GE627.out⟩
 ·rw [if_neg c3] at H
  have c3b0 : (t614 == 1088421888) = false := beq_eq_false_iff_ne.mpr c3
  have c3b1 : (t614 != 1088421888) = true := bne_iff_ne.mpr c3
  obtain rfl := Option.some.inj H
  go_enter Try.func21, Try.ntmps21
  go_wp2_with (first | ((with_reducible refine gate_callee (f := 27) rfl ?_); refine goesL_ (some 6) rfl rfl Try.func27 (by kernel_rfl) rfl #[.int .i64 2, .int .i64 0, .int .u32 1073741824, .int .u32 1077936128, .int .u32 1065353216] rfl gl ?_; (with_reducible refine (prod_Fma.calls k 2 0 1073741824 1077936128 1065353216 t614 t615 t616 t617 t618 t619 _ A1.out).mono ?_); rintro e w30 ⟨rfl, hb⟩; refine ⟨_, rfl, ?_⟩; have n0_ := Aside0.mk (below_step (bl0 HB.out) hb); clear HB; have HB := n0_; clear n0_) | ((with_reducible refine gate_dst (N := 2) rfl ?_); refine box_event ?hg (N := 2) ?hd (cs := F5) (t := 27) ?hr ?_; (case hd => rfl); (case hg => rfl); (case hr => first | (go_simp; done) | (go_simp; rfl)); intro gb620 hg w31 hbox hb; have n0_ := Aside0.mk (below_step (bl0 HB.out) hb); have n1_ := Aside0.mk (hbox); have n2_ := Aside0.mk ((by rw [hg]; exact (below_size (bl0 HB.out)) : w.heap.size ≤ gb620)); have n3_ := n2_; clear HB; have HB := n0_; have BK620 := n1_; have GW620 := n2_; have GE620 := n3_; clear n0_ n1_ n2_ n3_; clear hb hbox hg; obtain ⟨hcz32_0, hcz32_1, hcz32_2, hcz32_3, hcz32_4⟩ := bc5 BK620.out; obtain ⟨hfz32_0, hfz32_1, hfz32_2, hfz32_3, hfz32_4⟩ := bf5 BK620.out) | ((with_reducible refine gate_callee (f := 23) rfl ?_); refine goesL_ (some 10) rfl rfl Try.func23 (by kernel_rfl) rfl #[.int .i64 0, .int .i64 0, .int .u32 31744, .int .u32 0] rfl gl ?_; (with_reducible refine (prod_Mul.calls k 0 0 31744 0 t621 t622 t623 t624 t625 t626 _ A2.out).mono ?_); rintro e w33 ⟨rfl, hb⟩; refine ⟨_, rfl, ?_⟩; have n0_ := Aside0.mk (blk_below (g := gb620) (o := .cells #[.bool t615, .bool t616, .bool t617, .bool t618, .bool t619] 27 (0, 0)) (by (with_reducible repeat first | apply bd | apply be | apply ba); refine blk_put (cs := #[.bool t615, .bool t616, .bool t617, .bool t618, .bool false]) ?_ 4 _ rfl; (with_reducible repeat first | apply bd | apply be | apply ba); refine blk_put (cs := #[.bool t615, .bool t616, .bool t617, .bool false, .bool false]) ?_ 3 _ rfl; (with_reducible repeat first | apply bd | apply be | apply ba); refine blk_put (cs := #[.bool t615, .bool t616, .bool false, .bool false, .bool false]) ?_ 2 _ rfl; (with_reducible repeat first | apply bd | apply be | apply ba); refine blk_put (cs := #[.bool t615, .bool false, .bool false, .bool false, .bool false]) ?_ 1 _ rfl; (with_reducible repeat first | apply bd | apply be | apply ba); refine blk_put (cs := F5) ?_ 0 _ rfl; (with_reducible repeat first | apply bd | apply be | apply ba); exact BK620.out) hb); have n1_ := Aside0.mk (below_step (bl1 HB.out GE620.out) hb); clear BK620; clear HB; have BK620 := n0_; have HB := n1_; clear n0_ n1_) | ((with_reducible refine gate_dst (N := 4) rfl ?_); refine box_event ?hg (N := 4) ?hd (cs := F5) (t := 27) ?hr ?_; (case hd => rfl); (case hg => rfl); (case hr => first | (go_simp; done) | (go_simp; rfl)); intro gb627 hg w34 hbox hb; have n0_ := Aside0.mk (blk_below (g := gb620) (o := .cells #[.bool t615, .bool t616, .bool t617, .bool t618, .bool t619] 27 (0, 0)) (bv BK620.out) hb); have n1_ := Aside0.mk (below_step (bl1 HB.out GE620.out) hb); have n2_ := Aside0.mk (hbox); have n3_ := Aside0.mk ((by rw [hg]; exact (below_size (bl1 HB.out GE620.out)) : w.heap.size ≤ gb627)); have n4_ := n3_; have n5_ := Aside0.mk ((by rw [hg]; exact Nat.ne_of_lt (blk_lt (g := gb620) (o := .cells #[.bool t615, .bool t616, .bool t617, .bool t618, .bool t619] 27 (0, 0)) (bv BK620.out)) : gb620 ≠ gb627)); have n6_ := Aside0.mk (Ne.symm n5_.out); clear BK620; clear HB; have BK620 := n0_; have HB := n1_; have BK627 := n2_; have GW627 := n3_; have GE627 := n4_; have NB620_627 := n5_; have NB627_620 := n6_; clear n0_ n1_ n2_ n3_ n4_ n5_ n6_; clear hb hbox hg; have hnb35 := NB627_620.out; have hnc35 := NB620_627.out; obtain ⟨hcz36_0, hcz36_1, hcz36_2, hcz36_3, hcz36_4⟩ := bc5 BK627.out; obtain ⟨hfz36_0, hfz36_1, hfz36_2, hfz36_3, hfz36_4⟩ := bf5 BK627.out))
  go_ret
  exact ⟨by first | rfl | (simp [errW_none, errW_some] <;> rfl) | (simp [*, errW_none, errW_some] <;> rfl), bl2 HB.out GE620.out GE627.out⟩

/-! ### anneallaw5_form: function 22 -/
def anneallaw5_form.f (a0 : Int) : Option (Int) := (some (([0, 1, 2] : List Int) : List Int)).bind fun y628 => (if 0 ≤ (Int.tmod a0 3) then (if (Int.tmod a0 3) < (y628.length : Int) then (some (rd y628 (Int.tmod a0 3))) else (none)) else (none))
set_option maxHeartbeats 8000000 in
set_option maxRecDepth 100000 in
theorem anneallaw5_form.calls (a0 : Int) (r : Int) (w : World) (h : anneallaw5_form.f a0 = some r) :
  Calls Try.prog 22 #[.int .u8 a0] w fun e w' => e = .returned (.int .i64 r) ∧ Below w.heap.size w w' := by
 have HB := Aside0.mk (Below.refl w.heap.size w)
 have H : ((some (([0, 1, 2] : List Int) : List Int)).bind fun y628 => (if 0 ≤ (Int.tmod a0 3) then (if (Int.tmod a0 3) < (y628.length : Int) then (some (rd y628 (Int.tmod a0 3))) else (none)) else (none))) = some r := h
 clear h
 obtain ⟨y628, hy628⟩ : ∃ y_ : List Int, y_ = (([0, 1, 2] : List Int)) := ⟨_, rfl⟩
 replace H : (if 0 ≤ (Int.tmod a0 3) then (if (Int.tmod a0 3) < (y628.length : Int) then (some (rd y628 (Int.tmod a0 3))) else (none)) else (none)) = some r := by first | (rw [hy628]; with_reducible exact H) | (have H2_ := (Option.bind_some _ _).symm.trans H; rw [hy628]; with_reducible exact H2_) | (have H2_ := (Option.bind_some _ _).symm.trans H; with_reducible exact H2_) | with_reducible exact H | (rw [hy628]; exact H) | exact H
 have Ny628 := Aside0.mk hy628
 clear hy628
 obtain ⟨ji2, hji2⟩ : ∃ j_ : Int, (Int.tmod a0 3) = j_ := ⟨_, rfl⟩
 replace H : (if 0 ≤ (ji2) then (if (ji2) < (y628.length : Int) then (some (rd y628 (ji2))) else (none)) else (none)) = some r := by first | (rw [hji2] at H; exact H) | (simp only [hji2] at H ⊢; exact H)
 by_cases c3 : 0 ≤ (ji2)
 ·rw [if_pos c3] at H
  have c3b0 : decide (0 ≤ (ji2)) = true := decide_eq_true c3
  clear c3
  by_cases c4 : (ji2) < (y628.length : Int)
  ·rw [if_pos c4] at H
   have c4b0 : decide ((ji2) < (y628.length : Int)) = true := decide_eq_true c4
   clear c4
   obtain rfl := Option.some.inj H
   go_enter Try.func22, Try.ntmps22
   go_wp2_with (first | ((with_reducible refine gate_dst (N := 3) rfl ?_); refine Kd.R_lit (Kd.int .i64) _ 3 ?hg (N := 3) ?hd (xs := ([0, 1, 2] : List Int)) (inner := [.int .i64 0, .int .i64 1, .int .i64 2]) (ok := fun _ => True) (okp := fun _ => True) ?hr ?hp (fun _ hk => hk) trivial (Below.refl _ _) (Nat.le_refl _) (by simp) ?_; (case hd => rfl); (case hg => rfl); (case hr => first | (go_simp; done) | (go_simp; rfl)); (case hp => exact (Reps.one (show Kd.M (Kd.int .i64) _ _ _ 0 [.int .i64 0] from rfl) (Reps.one (show Kd.M (Kd.int .i64) _ _ _ 1 [.int .i64 1] from rfl) (Reps.one (show Kd.M (Kd.int .i64) _ _ _ 2 [.int .i64 2] from rfl) (Reps.none _ _))))); intro v629 w5 ho6 hb hg_ hnew_; clear hg_ hnew_; (first | rw [← Ny628.out] at ho6 | (simp only [Int.reduceToNat] at ho6; rw [← Ny628.out] at ho6)); have n0_ := Aside0.mk (Kd.R_lower ho6 (below_size (bl0 HB.out))); have n1_ := Aside0.mk (below_step (bl0 HB.out) hb); clear HB; have HO630 := n0_; have HB := n1_; clear n0_ n1_; clear hb ho6; obtain ⟨Ao7, co7, eo7⟩ := Kd.R_slice HO630.out; subst eo7; have p631 : 0 ≤ ((ji2) : Int) := of_decide_eq_true (by first | (with_reducible assumption) | assumption); have q631 : (ji2) < (y628.length : Int) := of_decide_eq_true (by first | (with_reducible assumption) | assumption); obtain ⟨ad631, e631, hx631_0⟩ := Kd.at_int (Kd.R_reads' HO630.out).2.2 (ji2) p631 q631; cases e631; replace p631 := eq_true p631; replace q631 := eq_true q631))
   go_ret
   exact ⟨by first | rfl | (simp [errW_none, errW_some] <;> rfl) | (simp only [← hji2]; first | rfl | (simp [errW_none, errW_some] <;> rfl)) | (simp [*, errW_none, errW_some] <;> rfl), bl0 HB.out⟩
  ·rw [if_neg c4] at H
   exact absurd H (by simp)
 ·rw [if_neg c3] at H
  exact absurd H (by simp)

/-! ### annealref1_inf: function 52 -/
def annealref1_inf.f (k : Nat) (a0 : Int) (a1 : Int) : Option (Bool) := (annealref1_Class.f k a0 a1).bind fun t632 => (some (t632 == 3))
set_option maxHeartbeats 8000000 in
set_option maxRecDepth 100000 in
theorem annealref1_inf.calls (k : Nat) (a0 : Int) (a1 : Int) (r : Bool) (w : World) (h : annealref1_inf.f k a0 a1 = some r) :
  Calls Try.prog 52 #[.int .i64 a0, .int .u32 a1] w fun e w' => e = .returned (.bool r) ∧ Drawn0 w w' := by
 have H : ((annealref1_Class.f k a0 a1).bind fun t632 => (some (t632 == 3))) = some r := h
 clear h
 replace H := Option.bind_eq_some_iff.mp H
 obtain ⟨t632, A30, H⟩ := H
 replace H : (some (t632 == 3)) = some r := H
 have A3 := Aside0.mk A30
 clear A30
 obtain rfl := Option.some.inj H
 go_enter Try.func52, Try.ntmps52
 go_wp2_with (first | ((with_reducible refine gate_callee (f := 26) rfl ?_); refine goesL_ (some 7) rfl rfl Try.func26 (by kernel_rfl) rfl #[.int .i64 a0, .int .u32 a1] rfl gl ?_; (with_reducible refine (annealref1_Class.calls k a0 a1 t632 _ A3.out).mono ?_); rintro e w' ⟨rfl, ⟨nd, rfl⟩⟩; refine ⟨_, rfl, ?_⟩))
 go_ret
 exact ⟨by first | rfl | (simp; done) | (simp [*]; done) | (congr 1; (try unfold wrap64); omega) | (congr 1; rw [IntKind.wrap_u64]; omega), by repeat (first | exact Drawn0.refl _ | apply Drawn0.step)⟩

end Go.Proofs.Ytlkjoibpfhjhcaa.P

-- Printed by a program of this session's out of Lean's print of the translation; Lean checks it.
namespace Go.Proofs.Ytlkjoibpfhjhcaa.P
open Go.RowKit Go.Proofs.YtlkjoibpfhjhcaaW.PrintWords Go.Proofs.YtlkjoibpfhjhcaaW.PrintLast Go.Proofs.YtlkjoibpfhjhcaaW.PrintMore
attribute [local go_sem] max2_int min2_int max_two min_two max_three min_three max_four min_four   -- for this text's walks alone
set_option linter.unusedVariables false
set_option linter.unusedSimpArgs false

attribute [local go_sem high] eqA27
/-! ### annealref1_Nan: function 15 -/
def annealref1_Nan.f (a0 : Int) : Option (Int) := (annealref1_Widths.f a0).bind fun bt333 => ((annealref1_Inf.f a0 false).bind fun t335 => (if 0 ≤ (wrap64 (bt333.2 - 1)) then (some (Go.bits .or .u32 t335 (shl .u32 1 (wrap64 (bt333.2 - 1))))) else (none)))
set_option maxHeartbeats 8000000 in
set_option maxRecDepth 100000 in
theorem annealref1_Nan.calls (a0 : Int) (r : Int) (w : World) (h : annealref1_Nan.f a0 = some r) :
  Calls Try.prog 15 #[.int .i64 a0] w fun e w' => e = .returned (.int .u32 r) ∧ Drawn0 w w' := by
 have H : ((annealref1_Widths.f a0).bind fun bt333 => ((annealref1_Inf.f a0 false).bind fun t335 => (if 0 ≤ (wrap64 (bt333.2 - 1)) then (some (Go.bits .or .u32 t335 (shl .u32 1 (wrap64 (bt333.2 - 1))))) else (none)))) = some r := h
 clear h
 replace H := Option.bind_eq_some_iff.mp H
 obtain ⟨⟨t333, t334⟩, A20, H⟩ := H
 replace H : ((annealref1_Inf.f a0 false).bind fun t335 => (if 0 ≤ (wrap64 (t334 - 1)) then (some (Go.bits .or .u32 t335 (shl .u32 1 (wrap64 (t334 - 1))))) else (none))) = some r := H
 have A2 := Aside0.mk A20
 clear A20
 replace H := Option.bind_eq_some_iff.mp H
 obtain ⟨t335, A30, H⟩ := H
 replace H : (if 0 ≤ (wrap64 (t334 - 1)) then (some (Go.bits .or .u32 t335 (shl .u32 1 (wrap64 (t334 - 1))))) else (none)) = some r := H
 have A3 := Aside0.mk A30
 clear A30
 obtain ⟨ji4, hji4⟩ : ∃ j_ : Int, (wrap64 (t334 - 1)) = j_ := ⟨_, rfl⟩
 replace H : (if 0 ≤ (ji4) then (some (Go.bits .or .u32 t335 (shl .u32 1 (ji4)))) else (none)) = some r := by first | (rw [hji4] at H; exact H) | (simp only [hji4] at H ⊢; exact H)
 (try rw [hji4] at A2)
 (try rw [hji4] at A3)
 have hji4w : (IntKind.i64.wrap (t334 - 1)) = ji4 := (i64_w _).trans hji4
 by_cases c5 : 0 ≤ (ji4)
 ·rw [if_pos c5] at H
  have c5b0 := eq_true c5
  have c5b1 : decide (0 ≤ (ji4)) = true := decide_eq_true c5
  clear c5
  obtain ⟨ji6, hji6⟩ : ∃ j_ : Int, (shl .u32 1 (ji4)) = j_ := ⟨_, rfl⟩
  replace H : (some (Go.bits .or .u32 t335 (ji6))) = some r := by first | (rw [hji6] at H; exact H) | (simp only [hji6] at H ⊢; exact H)
  (try rw [hji6] at A2)
  (try rw [hji6] at A3)
  have hji6_ : (IntKind.u32.wrap (1 * 2 ^ min (ji4).toNat 32)) = ji6 := hji6
  have hji6z : (ji4) ≤ 32 → (IntKind.u32.wrap (1 * 2 ^ (ji4).toNat)) = ji6 := shl_small hji6
  have hji6u : (IntKind.u32.wrap (2 ^ min (ji4).toNat 32)) = ji6 := by have h_ := hji6_; rw [Int.one_mul] at h_; exact h_
  have hji6v : (ji4) ≤ 32 → (IntKind.u32.wrap (2 ^ (ji4).toNat)) = ji6 := fun hle_ => by have h_ := hji6z hle_; rw [Int.one_mul] at h_; exact h_
  obtain rfl := Option.some.inj H
  go_enter Try.func15, Try.ntmps15
  go_wp2_with (first | (go_at_call 29; (with_reducible refine (annealref1_Widths.calls a0 t333 t334 _ A2.out).mono ?_); rintro e w' ⟨rfl, ⟨nd, rfl⟩⟩; (try first | exact ⟨rfl, _, World.drewN_drewN _ _ _⟩ | exact ⟨rfl, _, Eq.trans (World.drewN_drewN _ _ _) (congrArg (World.drewN _) (Nat.add_assoc _ _ _))⟩)) | (go_at_call 40; (with_reducible refine (annealref1_Inf.calls a0 false t335 _ A3.out).mono ?_); rintro e w' ⟨rfl, ⟨nd, rfl⟩⟩; (try first | exact ⟨rfl, _, World.drewN_drewN _ _ _⟩ | exact ⟨rfl, _, Eq.trans (World.drewN_drewN _ _ _) (congrArg (World.drewN _) (Nat.add_assoc _ _ _))⟩)))
  repeat (go_quiet (first | (go_at_call 29; (with_reducible refine (annealref1_Widths.calls a0 t333 t334 _ A2.out).mono ?_); rintro e w' ⟨rfl, ⟨nd, rfl⟩⟩; (try first | exact ⟨rfl, _, World.drewN_drewN _ _ _⟩ | exact ⟨rfl, _, Eq.trans (World.drewN_drewN _ _ _) (congrArg (World.drewN _) (Nat.add_assoc _ _ _))⟩)) | (go_at_call 40; (with_reducible refine (annealref1_Inf.calls a0 false t335 _ A3.out).mono ?_); rintro e w' ⟨rfl, ⟨nd, rfl⟩⟩; (try first | exact ⟨rfl, _, World.drewN_drewN _ _ _⟩ | exact ⟨rfl, _, Eq.trans (World.drewN_drewN _ _ _) (congrArg (World.drewN _) (Nat.add_assoc _ _ _))⟩))); try go_wp2_with (first | (go_at_call 29; (with_reducible refine (annealref1_Widths.calls a0 t333 t334 _ A2.out).mono ?_); rintro e w' ⟨rfl, ⟨nd, rfl⟩⟩; (try first | exact ⟨rfl, _, World.drewN_drewN _ _ _⟩ | exact ⟨rfl, _, Eq.trans (World.drewN_drewN _ _ _) (congrArg (World.drewN _) (Nat.add_assoc _ _ _))⟩)) | (go_at_call 40; (with_reducible refine (annealref1_Inf.calls a0 false t335 _ A3.out).mono ?_); rintro e w' ⟨rfl, ⟨nd, rfl⟩⟩; (try first | exact ⟨rfl, _, World.drewN_drewN _ _ _⟩ | exact ⟨rfl, _, Eq.trans (World.drewN_drewN _ _ _) (congrArg (World.drewN _) (Nat.add_assoc _ _ _))⟩))))
  go_ret
  exact ⟨by first | rfl | (simp; done) | (simp only [← hji4, ← hji6] <;> (first | rfl | (simp; done))) | (simp [*]; done) | (congr 1; (try unfold wrap64); omega) | (congr 1; rw [IntKind.wrap_u64]; omega), by repeat (first | exact Drawn0.refl _ | apply Drawn0.step)⟩
 ·rw [if_neg c5] at H
  exact absurd H (by simp)

/-! ### anneallaw4_SumTurns: function 3 -/
end Go.Proofs.Ytlkjoibpfhjhcaa.P

-- Printed by a program of this session's out of Lean's print of the translation; Lean checks it.
namespace Go.Proofs.Ytlkjoibpfhjhcaa.P
open Go.RowKit Go.Proofs.YtlkjoibpfhjhcaaW.PrintWords Go.Proofs.YtlkjoibpfhjhcaaW.PrintLast Go.Proofs.YtlkjoibpfhjhcaaW.PrintMore
attribute [local go_sem] max2_int min2_int max_two min_two max_three min_three max_four min_four   -- for this text's walks alone
set_option linter.unusedVariables false
set_option linter.unusedSimpArgs false

/-! ### annealref1_Scale: function 18 -/
/-! ### annealref1_neg: function 46 -/
def annealref1_neg.f (a0 : Int) (a1 : Int) : Option (Bool) := (annealref1_parts.f a0 a1).bind fun bt431 => (some bt431.1)
set_option maxHeartbeats 8000000 in
set_option maxRecDepth 100000 in
theorem annealref1_neg.calls (a0 : Int) (a1 : Int) (r : Bool) (w : World) (h : annealref1_neg.f a0 a1 = some r) :
  Calls Try.prog 46 #[.int .i64 a0, .int .u32 a1] w fun e w' => e = .returned (.bool r) ∧ Drawn0 w w' := by
 have H : ((annealref1_parts.f a0 a1).bind fun bt431 => (some bt431.1)) = some r := h
 clear h
 replace H := Option.bind_eq_some_iff.mp H
 obtain ⟨⟨t431, t432, t433⟩, A30, H⟩ := H
 replace H : (some t431) = some r := H
 have A3 := Aside0.mk A30
 clear A30
 obtain rfl := Option.some.inj H
 go_enter Try.func46, Try.ntmps46
 go_wp2_with (first | ((with_reducible refine gate_callee (f := 53) rfl ?_); refine goesL_ (some 11) rfl rfl Try.func53 (by kernel_rfl) rfl #[.int .i64 a0, .int .u32 a1] rfl gl ?_; (with_reducible refine (annealref1_parts.calls a0 a1 t431 t432 t433 _ A3.out).mono ?_); rintro e w' ⟨rfl, ⟨nd, rfl⟩⟩; refine ⟨_, rfl, ?_⟩))
 go_ret
 exact ⟨by first | rfl | (simp; done) | (simp [*]; done) | (congr 1; (try unfold wrap64); omega) | (congr 1; rw [IntKind.wrap_u64]; omega), by repeat (first | exact Drawn0.refl _ | apply Drawn0.step)⟩

/-! ### annealref1_Key: function 20 -/
/-! ### annealref1_zero: function 51 -/
def annealref1_zero.f (k : Nat) (a0 : Int) (a1 : Int) : Option (Bool) := (annealref1_Class.f k a0 a1).bind fun t437 => (some (t437 == 0))
set_option maxHeartbeats 8000000 in
set_option maxRecDepth 100000 in
theorem annealref1_zero.calls (k : Nat) (a0 : Int) (a1 : Int) (r : Bool) (w : World) (h : annealref1_zero.f k a0 a1 = some r) :
  Calls Try.prog 51 #[.int .i64 a0, .int .u32 a1] w fun e w' => e = .returned (.bool r) ∧ Drawn0 w w' := by
 have H : ((annealref1_Class.f k a0 a1).bind fun t437 => (some (t437 == 0))) = some r := h
 clear h
 replace H := Option.bind_eq_some_iff.mp H
 obtain ⟨t437, A30, H⟩ := H
 replace H : (some (t437 == 0)) = some r := H
 have A3 := Aside0.mk A30
 clear A30
 obtain rfl := Option.some.inj H
 go_enter Try.func51, Try.ntmps51
 go_wp2_with (first | ((with_reducible refine gate_callee (f := 26) rfl ?_); refine goesL_ (some 7) rfl rfl Try.func26 (by kernel_rfl) rfl #[.int .i64 a0, .int .u32 a1] rfl gl ?_; (with_reducible refine (annealref1_Class.calls k a0 a1 t437 _ A3.out).mono ?_); rintro e w' ⟨rfl, ⟨nd, rfl⟩⟩; refine ⟨_, rfl, ?_⟩))
 go_ret
 exact ⟨by first | rfl | (simp; done) | (simp [*]; done) | (congr 1; (try unfold wrap64); omega) | (congr 1; rw [IntKind.wrap_u64]; omega), by repeat (first | exact Drawn0.refl _ | apply Drawn0.step)⟩

/-! ### annealref1_Compare: function 45 -/
end Go.Proofs.Ytlkjoibpfhjhcaa.P

-- Printed by a program of this session's out of Lean's print of the translation; Lean checks it.
namespace Go.Proofs.Ytlkjoibpfhjhcaa.P
open Go.RowKit Go.Proofs.YtlkjoibpfhjhcaaW.PrintWords Go.Proofs.YtlkjoibpfhjhcaaW.PrintLast Go.Proofs.YtlkjoibpfhjhcaaW.PrintMore
attribute [local go_sem] max2_int min2_int max_two min_two max_three min_three max_four min_four   -- for this text's walks alone
set_option linter.unusedVariables false
set_option linter.unusedSimpArgs false

/-! ### annealref1_Mul: function 24 -/
mutual
def annealref1_Mul.j0 : Nat → Int → Int → Int → Int → Bool → Bool → Option (Int × Bool × Bool × Bool × Bool × Bool)
 |0, _, _, _, _, _, _ => none
 |k + 1, x0, x1, x2, x3, x12, x56 => if x56 = true then ((annealref1_Nan.f x0).bind fun t648 => (some (t648, true, false, false, false, false))) else ((annealref1_inf.f k x0 x2).bind fun t649 => (if t649 = true then (annealref1_Mul.j1 k x0 x1 x2 x3 x12 true) else ((annealref1_inf.f k x0 x3).bind fun t650 => (annealref1_Mul.j1 k x0 x1 x2 x3 x12 t650))))
def annealref1_Mul.j1 : Nat → Int → Int → Int → Int → Bool → Bool → Option (Int × Bool × Bool × Bool × Bool × Bool)
 |0, _, _, _, _, _, _ => none
 |k + 1, x0, x1, x2, x3, x12, x67 => if x67 = true then ((annealref1_Inf.f x0 x12).bind fun t651 => (some (t651, false, false, false, false, false))) else ((annealref1_Unpack.f k x0 x2).bind fun bt652 => ((annealref1_Unpack.f k x0 x3).bind fun bt655 => ((annealref1_Pack.f k x0 x1 x12 (wrap64 (bt652.2.1 + bt655.2.1)) (IntKind.u64.wrap (bt652.2.2 * bt655.2.2)) false).bind fun bt658 => (some (bt658.1, bt658.2.1, bt658.2.2.1, bt658.2.2.2.1, bt658.2.2.2.2.1, bt658.2.2.2.2.2)))))
end
def annealref1_Mul.f (k : Nat) (a0 : Int) (a1 : Int) (a2 : Int) (a3 : Int) : Option (Int × Bool × Bool × Bool × Bool × Bool) := (annealref1_nans.f k a0 (([a2, a3] : List Int))).bind fun bt637 => (if bt637.1 = true then ((annealref1_Nan.f a0).bind fun t639 => (some (t639, bt637.2, false, false, false, false))) else ((annealref1_neg.f a0 a2).bind fun t640 => ((annealref1_neg.f a0 a3).bind fun t641 => ((annealref1_zero.f k a0 a2).bind fun t642 => (if t642 = true then ((annealref1_inf.f k a0 a3).bind fun t643 => (if t643 = true then (annealref1_Mul.j0 k a0 a1 a2 a3 (t640 != t641) true) else ((annealref1_inf.f k a0 a2).bind fun t644 => (if t644 = true then ((annealref1_zero.f k a0 a3).bind fun t645 => (annealref1_Mul.j0 k a0 a1 a2 a3 (t640 != t641) t645)) else (annealref1_Mul.j0 k a0 a1 a2 a3 (t640 != t641) false))))) else ((annealref1_inf.f k a0 a2).bind fun t646 => (if t646 = true then ((annealref1_zero.f k a0 a3).bind fun t647 => (annealref1_Mul.j0 k a0 a1 a2 a3 (t640 != t641) t647)) else (annealref1_Mul.j0 k a0 a1 a2 a3 (t640 != t641) false))))))))
set_option maxHeartbeats 8000000 in
set_option maxRecDepth 100000 in
theorem annealref1_Mul.calls (k : Nat) (a0 : Int) (a1 : Int) (a2 : Int) (a3 : Int) (r1 : Int) (r2 : Bool) (r3 : Bool) (r4 : Bool) (r5 : Bool) (r6 : Bool) (w : World) (h : annealref1_Mul.f k a0 a1 a2 a3 = some (r1, r2, r3, r4, r5, r6)) :
  Calls Try.prog 24 #[.int .i64 a0, .int .i64 a1, .int .u32 a2, .int .u32 a3] w fun e w' => e = .returned (.tuple #[.int .u32 r1, .agg #[.bool r2, .bool r3, .bool r4, .bool r5, .bool r6]]) ∧ Below w.heap.size w w' := by
 have hu27 := Try.underlying27
 have HB := Aside0.mk (Below.refl w.heap.size w)
 have H : ((annealref1_nans.f k a0 (([a2, a3] : List Int))).bind fun bt637 => (if bt637.1 = true then ((annealref1_Nan.f a0).bind fun t639 => (some (t639, bt637.2, false, false, false, false))) else ((annealref1_neg.f a0 a2).bind fun t640 => ((annealref1_neg.f a0 a3).bind fun t641 => ((annealref1_zero.f k a0 a2).bind fun t642 => (if t642 = true then ((annealref1_inf.f k a0 a3).bind fun t643 => (if t643 = true then (annealref1_Mul.j0 k a0 a1 a2 a3 (t640 != t641) true) else ((annealref1_inf.f k a0 a2).bind fun t644 => (if t644 = true then ((annealref1_zero.f k a0 a3).bind fun t645 => (annealref1_Mul.j0 k a0 a1 a2 a3 (t640 != t641) t645)) else (annealref1_Mul.j0 k a0 a1 a2 a3 (t640 != t641) false))))) else ((annealref1_inf.f k a0 a2).bind fun t646 => (if t646 = true then ((annealref1_zero.f k a0 a3).bind fun t647 => (annealref1_Mul.j0 k a0 a1 a2 a3 (t640 != t641) t647)) else (annealref1_Mul.j0 k a0 a1 a2 a3 (t640 != t641) false))))))))) = some (r1, r2, r3, r4, r5, r6) := h
 clear h
 obtain ⟨y634, hy634⟩ : ∃ y_ : List Int, y_ = (([a2, a3] : List Int)) := ⟨_, rfl⟩
 replace H : ((annealref1_nans.f k a0 y634).bind fun bt637 => (if bt637.1 = true then ((annealref1_Nan.f a0).bind fun t639 => (some (t639, bt637.2, false, false, false, false))) else ((annealref1_neg.f a0 a2).bind fun t640 => ((annealref1_neg.f a0 a3).bind fun t641 => ((annealref1_zero.f k a0 a2).bind fun t642 => (if t642 = true then ((annealref1_inf.f k a0 a3).bind fun t643 => (if t643 = true then (annealref1_Mul.j0 k a0 a1 a2 a3 (t640 != t641) true) else ((annealref1_inf.f k a0 a2).bind fun t644 => (if t644 = true then ((annealref1_zero.f k a0 a3).bind fun t645 => (annealref1_Mul.j0 k a0 a1 a2 a3 (t640 != t641) t645)) else (annealref1_Mul.j0 k a0 a1 a2 a3 (t640 != t641) false))))) else ((annealref1_inf.f k a0 a2).bind fun t646 => (if t646 = true then ((annealref1_zero.f k a0 a3).bind fun t647 => (annealref1_Mul.j0 k a0 a1 a2 a3 (t640 != t641) t647)) else (annealref1_Mul.j0 k a0 a1 a2 a3 (t640 != t641) false))))))))) = some (r1, r2, r3, r4, r5, r6) := by first | (rw [hy634]; with_reducible exact H) | (have H2_ := (Option.bind_some _ _).symm.trans H; rw [hy634]; with_reducible exact H2_) | (have H2_ := (Option.bind_some _ _).symm.trans H; with_reducible exact H2_) | with_reducible exact H | (rw [hy634]; exact H) | exact H
 have Ny634 := Aside0.mk hy634
 clear hy634
 replace H := Option.bind_eq_some_iff.mp H
 obtain ⟨⟨t637, t638⟩, A50, H⟩ := H
 replace H : (if t637 = true then ((annealref1_Nan.f a0).bind fun t639 => (some (t639, t638, false, false, false, false))) else ((annealref1_neg.f a0 a2).bind fun t640 => ((annealref1_neg.f a0 a3).bind fun t641 => ((annealref1_zero.f k a0 a2).bind fun t642 => (if t642 = true then ((annealref1_inf.f k a0 a3).bind fun t643 => (if t643 = true then (annealref1_Mul.j0 k a0 a1 a2 a3 (t640 != t641) true) else ((annealref1_inf.f k a0 a2).bind fun t644 => (if t644 = true then ((annealref1_zero.f k a0 a3).bind fun t645 => (annealref1_Mul.j0 k a0 a1 a2 a3 (t640 != t641) t645)) else (annealref1_Mul.j0 k a0 a1 a2 a3 (t640 != t641) false))))) else ((annealref1_inf.f k a0 a2).bind fun t646 => (if t646 = true then ((annealref1_zero.f k a0 a3).bind fun t647 => (annealref1_Mul.j0 k a0 a1 a2 a3 (t640 != t641) t647)) else (annealref1_Mul.j0 k a0 a1 a2 a3 (t640 != t641) false)))))))) = some (r1, r2, r3, r4, r5, r6) := H
 have A5 := Aside0.mk A50
 clear A50
 by_cases c6 : t637 = true
 ·subst c6
  have H1 : ((annealref1_Nan.f a0).bind fun t639 => (some (t639, t638, false, false, false, false))) = some (r1, r2, r3, r4, r5, r6) := by rw [if_pos rfl] at H; exact H
  clear H
  have H := H1
  clear H1
  replace H := Option.bind_eq_some_iff.mp H
  obtain ⟨t639, A70, H⟩ := H
  replace H : (some (t639, t638, false, false, false, false)) = some (r1, r2, r3, r4, r5, r6) := H
  have A7 := Aside0.mk A70
  clear A70
  simp only [Option.some.injEq, Prod.mk.injEq] at H
  obtain ⟨rfl, rfl, rfl, rfl, rfl, rfl⟩ := H
  go_enter Try.func24, Try.ntmps24
  go_wp2_with (first | ((with_reducible refine gate_dst (N := 9) rfl ?_); refine box_event ?hg (N := 9) ?hd (cs := F5) (t := 27) ?hr ?_; (case hd => rfl); (case hg => rfl); (case hr => first | (go_simp; done) | (go_simp; rfl)); intro gb633 hg w8 hbox hb; have n0_ := Aside0.mk (below_step (bl0 HB.out) hb); have n1_ := Aside0.mk (hbox); have n2_ := Aside0.mk ((by rw [hg]; exact (below_size (bl0 HB.out)) : w.heap.size ≤ gb633)); have n3_ := n2_; clear HB; have HB := n0_; have BK633 := n1_; have GW633 := n2_; have GE633 := n3_; clear n0_ n1_ n2_ n3_; clear hb hbox hg) | ((with_reducible refine gate_dst (N := 23) rfl ?_); refine Kd.R_lit (Kd.int .u32) _ 22 ?hg (N := 23) ?hd (xs := ([a2, a3] : List Int)) (inner := [.int .u32 a2, .int .u32 a3]) (ok := fun _ => True) (okp := fun _ => True) ?hr ?hp (fun _ hk => hk) trivial (Below.refl _ _) (Nat.le_refl _) (by simp) ?_; (case hd => rfl); (case hg => rfl); (case hr => first | (go_simp; done) | (go_simp; rfl)); (case hp => exact (Reps.one (show Kd.M (Kd.int .u32) _ _ _ a2 [.int .u32 a2] from rfl) (Reps.one (show Kd.M (Kd.int .u32) _ _ _ a3 [.int .u32 a3] from rfl) (Reps.none _ _)))); intro v635 w9 ho10 hb hg_ hnew_; clear hg_ hnew_; (first | rw [← Ny634.out] at ho10 | (simp only [Int.reduceToNat] at ho10; rw [← Ny634.out] at ho10)); have n0_ := Aside0.mk (Kd.R_lower ho10 (below_size (bl1 HB.out GE633.out))); have n1_ := Aside0.mk (blk_below (g := gb633) (o := .cells #[.bool false, .bool false, .bool false, .bool false, .bool false] 27 (0, 0)) (bv BK633.out) hb); have n2_ := Aside0.mk (below_step (bl1 HB.out GE633.out) hb); clear BK633; clear HB; have HO636 := n0_; have BK633 := n1_; have HB := n2_; clear n0_ n1_ n2_; clear hb ho10; obtain ⟨Ao11, co11, eo11⟩ := Kd.R_slice HO636.out; subst eo11) | ((with_reducible refine gate_callee (f := 42) rfl ?_); refine goesL_ (some 24) rfl rfl Try.func42 (by kernel_rfl) rfl #[.int .i64 a0, .slice Ao11 y634.length co11] rfl gl ?_; (with_reducible refine (annealref1_nans.calls k a0 _ _ y634 true t638 _ ?side1 ?side2 A5.out).mono ?_); (case side1 => repeat (first | exact (Kd.R_reads' HO636.out).2.2 | (with_reducible refine Kd.C_alloc ?_ _) | (with_reducible refine Kd.C_drewN ?_ _) | (with_reducible refine Kd.C_drew ?_))); (case side2 => exact (Kd.R_reads' HO636.out).2.1); rintro e w' ⟨rfl, ⟨nd, rfl⟩⟩; refine ⟨_, rfl, ?_⟩; (try (rw [drewN_self w9]; generalize hq_ : World.drewN w9 _ = w9; have n0_ : Aside0 (Kd.R (Kd.int .u32) 22 w9 w.heap.size (fun _ => True) (.slice Ao11 y634.length co11) y634) := ⟨by rw [← hq_]; exact (by (with_reducible repeat (first | apply Kd.R_alloc | apply Kd.R_drewN | apply Kd.R_drew)); exact HO636.out)⟩; have n1_ : Aside0 (w9.heap[gb633]? = some (.cells #[.bool false, .bool false, .bool false, .bool false, .bool false] 27 (0, 0))) := ⟨by rw [← hq_]; exact (bv BK633.out)⟩; have n2_ : Aside0 (Below w.heap.size w w9) := ⟨by rw [← hq_]; exact (bl1 HB.out GE633.out)⟩; clear HO636 BK633 HB hq_; have HO636 := n0_; have BK633 := n1_; have HB := n2_; clear n0_ n1_ n2_))) | ((with_reducible refine gate_callee (f := 15) rfl ?_); refine goesL_ (some 29) rfl rfl Try.func15 (by kernel_rfl) rfl #[.int .i64 a0] rfl gl ?_; (with_reducible refine (annealref1_Nan.calls a0 t639 _ A7.out).mono ?_); rintro e w' ⟨rfl, ⟨nd, rfl⟩⟩; refine ⟨_, rfl, ?_⟩; (try (rw [drewN_self w9]; generalize hq_ : World.drewN w9 _ = w9; have n0_ : Aside0 (Kd.R (Kd.int .u32) 22 w9 w.heap.size (fun _ => True) (.slice Ao11 y634.length co11) y634) := ⟨by rw [← hq_]; exact (by (with_reducible repeat (first | apply Kd.R_alloc | apply Kd.R_drewN | apply Kd.R_drew)); exact HO636.out)⟩; have n1_ : Aside0 (w9.heap[gb633]? = some (.cells #[.bool false, .bool false, .bool false, .bool false, .bool false] 27 (0, 0))) := ⟨by rw [← hq_]; exact (bv BK633.out)⟩; have n2_ : Aside0 (Below w.heap.size w w9) := ⟨by rw [← hq_]; exact (bl1 HB.out GE633.out)⟩; clear HO636 BK633 HB hq_; have HO636 := n0_; have BK633 := n1_; have HB := n2_; clear n0_ n1_ n2_)); obtain ⟨hcz12_0, hcz12_1, hcz12_2, hcz12_3, hcz12_4⟩ := bc5 BK633.out; obtain ⟨hfz12_0, hfz12_1, hfz12_2, hfz12_3, hfz12_4⟩ := bf5 BK633.out))
  refine bodyPost_ret (results_tc rfl _ _ gb633 27 #[.bool t638, .bool false, .bool false, .bool false, .bool false] (0, 0) _ rfl (by (with_reducible repeat first | apply bd | apply be | apply ba); refine blk_put (cs := #[.bool t638, .bool false, .bool false, .bool false, .bool false]) ?_ 4 _ rfl; (with_reducible repeat first | apply bd | apply be | apply ba); refine blk_put (cs := #[.bool t638, .bool false, .bool false, .bool false, .bool false]) ?_ 3 _ rfl; (with_reducible repeat first | apply bd | apply be | apply ba); refine blk_put (cs := #[.bool t638, .bool false, .bool false, .bool false, .bool false]) ?_ 2 _ rfl; (with_reducible repeat first | apply bd | apply be | apply ba); refine blk_put (cs := #[.bool t638, .bool false, .bool false, .bool false, .bool false]) ?_ 1 _ rfl; (with_reducible repeat first | apply bd | apply be | apply ba); refine blk_put (cs := F5) ?_ 0 _ rfl; (with_reducible repeat first | apply bd | apply be | apply ba); exact BK633.out) Try.underlying27 rfl (by kernel_rfl)) rfl ?_
  exact ⟨by first | rfl | (simp [errW_none, errW_some] <;> rfl) | (simp [*, errW_none, errW_some] <;> rfl), bl1 HB.out GE633.out⟩
 ·replace c6 := Bool.eq_false_iff.mpr c6
  subst c6
  have H1 : ((annealref1_neg.f a0 a2).bind fun t640 => ((annealref1_neg.f a0 a3).bind fun t641 => ((annealref1_zero.f k a0 a2).bind fun t642 => (if t642 = true then ((annealref1_inf.f k a0 a3).bind fun t643 => (if t643 = true then (annealref1_Mul.j0 k a0 a1 a2 a3 (t640 != t641) true) else ((annealref1_inf.f k a0 a2).bind fun t644 => (if t644 = true then ((annealref1_zero.f k a0 a3).bind fun t645 => (annealref1_Mul.j0 k a0 a1 a2 a3 (t640 != t641) t645)) else (annealref1_Mul.j0 k a0 a1 a2 a3 (t640 != t641) false))))) else ((annealref1_inf.f k a0 a2).bind fun t646 => (if t646 = true then ((annealref1_zero.f k a0 a3).bind fun t647 => (annealref1_Mul.j0 k a0 a1 a2 a3 (t640 != t641) t647)) else (annealref1_Mul.j0 k a0 a1 a2 a3 (t640 != t641) false))))))) = some (r1, r2, r3, r4, r5, r6) := by rw [if_neg (show ¬ (false = true) by decide)] at H; exact H
  clear H
  have H := H1
  clear H1
  replace H := Option.bind_eq_some_iff.mp H
  obtain ⟨t640, A130, H⟩ := H
  replace H : ((annealref1_neg.f a0 a3).bind fun t641 => ((annealref1_zero.f k a0 a2).bind fun t642 => (if t642 = true then ((annealref1_inf.f k a0 a3).bind fun t643 => (if t643 = true then (annealref1_Mul.j0 k a0 a1 a2 a3 (t640 != t641) true) else ((annealref1_inf.f k a0 a2).bind fun t644 => (if t644 = true then ((annealref1_zero.f k a0 a3).bind fun t645 => (annealref1_Mul.j0 k a0 a1 a2 a3 (t640 != t641) t645)) else (annealref1_Mul.j0 k a0 a1 a2 a3 (t640 != t641) false))))) else ((annealref1_inf.f k a0 a2).bind fun t646 => (if t646 = true then ((annealref1_zero.f k a0 a3).bind fun t647 => (annealref1_Mul.j0 k a0 a1 a2 a3 (t640 != t641) t647)) else (annealref1_Mul.j0 k a0 a1 a2 a3 (t640 != t641) false)))))) = some (r1, r2, r3, r4, r5, r6) := H
  have A13 := Aside0.mk A130
  clear A130
  replace H := Option.bind_eq_some_iff.mp H
  obtain ⟨t641, A140, H⟩ := H
  replace H : ((annealref1_zero.f k a0 a2).bind fun t642 => (if t642 = true then ((annealref1_inf.f k a0 a3).bind fun t643 => (if t643 = true then (annealref1_Mul.j0 k a0 a1 a2 a3 (t640 != t641) true) else ((annealref1_inf.f k a0 a2).bind fun t644 => (if t644 = true then ((annealref1_zero.f k a0 a3).bind fun t645 => (annealref1_Mul.j0 k a0 a1 a2 a3 (t640 != t641) t645)) else (annealref1_Mul.j0 k a0 a1 a2 a3 (t640 != t641) false))))) else ((annealref1_inf.f k a0 a2).bind fun t646 => (if t646 = true then ((annealref1_zero.f k a0 a3).bind fun t647 => (annealref1_Mul.j0 k a0 a1 a2 a3 (t640 != t641) t647)) else (annealref1_Mul.j0 k a0 a1 a2 a3 (t640 != t641) false))))) = some (r1, r2, r3, r4, r5, r6) := H
  have A14 := Aside0.mk A140
  clear A140
  have HC15 := Aside0.mk H
  clear H
  go_enter Try.func24, Try.ntmps24
  go_upto_region 5 with (first | ((with_reducible refine gate_dst (N := 9) rfl ?_); refine box_event ?hg (N := 9) ?hd (cs := F5) (t := 27) ?hr ?_; (case hd => rfl); (case hg => rfl); (case hr => first | (go_simp; done) | (go_simp; rfl)); intro gb633 hg w16 hbox hb; have n0_ := Aside0.mk (below_step (bl0 HB.out) hb); have n1_ := Aside0.mk (hbox); have n2_ := Aside0.mk ((by rw [hg]; exact (below_size (bl0 HB.out)) : w.heap.size ≤ gb633)); have n3_ := n2_; clear HB; have HB := n0_; have BK633 := n1_; have GW633 := n2_; have GE633 := n3_; clear n0_ n1_ n2_ n3_; clear hb hbox hg) | ((with_reducible refine gate_dst (N := 23) rfl ?_); refine Kd.R_lit (Kd.int .u32) _ 22 ?hg (N := 23) ?hd (xs := ([a2, a3] : List Int)) (inner := [.int .u32 a2, .int .u32 a3]) (ok := fun _ => True) (okp := fun _ => True) ?hr ?hp (fun _ hk => hk) trivial (Below.refl _ _) (Nat.le_refl _) (by simp) ?_; (case hd => rfl); (case hg => rfl); (case hr => first | (go_simp; done) | (go_simp; rfl)); (case hp => exact (Reps.one (show Kd.M (Kd.int .u32) _ _ _ a2 [.int .u32 a2] from rfl) (Reps.one (show Kd.M (Kd.int .u32) _ _ _ a3 [.int .u32 a3] from rfl) (Reps.none _ _)))); intro v635 w17 ho18 hb hg_ hnew_; clear hg_ hnew_; (first | rw [← Ny634.out] at ho18 | (simp only [Int.reduceToNat] at ho18; rw [← Ny634.out] at ho18)); have n0_ := Aside0.mk (Kd.R_lower ho18 (below_size (bl1 HB.out GE633.out))); have n1_ := Aside0.mk (blk_below (g := gb633) (o := .cells #[.bool false, .bool false, .bool false, .bool false, .bool false] 27 (0, 0)) (bv BK633.out) hb); have n2_ := Aside0.mk (below_step (bl1 HB.out GE633.out) hb); clear BK633; clear HB; have HO636 := n0_; have BK633 := n1_; have HB := n2_; clear n0_ n1_ n2_; clear hb ho18; obtain ⟨Ao19, co19, eo19⟩ := Kd.R_slice HO636.out; subst eo19) | ((with_reducible refine gate_callee (f := 42) rfl ?_); refine goesL_ (some 24) rfl rfl Try.func42 (by kernel_rfl) rfl #[.int .i64 a0, .slice Ao19 y634.length co19] rfl gl ?_; (with_reducible refine (annealref1_nans.calls k a0 _ _ y634 false t638 _ ?side1 ?side2 A5.out).mono ?_); (case side1 => repeat (first | exact (Kd.R_reads' HO636.out).2.2 | (with_reducible refine Kd.C_alloc ?_ _) | (with_reducible refine Kd.C_drewN ?_ _) | (with_reducible refine Kd.C_drew ?_))); (case side2 => exact (Kd.R_reads' HO636.out).2.1); rintro e w' ⟨rfl, ⟨nd, rfl⟩⟩; refine ⟨_, rfl, ?_⟩) | ((with_reducible refine gate_callee (f := 46) rfl ?_); refine goesL_ (some 34) rfl rfl Try.func46 (by kernel_rfl) rfl #[.int .i64 a0, .int .u32 a2] rfl gl ?_; (with_reducible refine (annealref1_neg.calls a0 a2 t640 _ A13.out).mono ?_); rintro e w' ⟨rfl, ⟨nd, rfl⟩⟩; refine ⟨_, rfl, ?_⟩) | ((with_reducible refine gate_callee (f := 46) rfl ?_); refine goesL_ (some 37) rfl rfl Try.func46 (by kernel_rfl) rfl #[.int .i64 a0, .int .u32 a3] rfl gl ?_; (with_reducible refine (annealref1_neg.calls a0 a3 t641 _ A14.out).mono ?_); rintro e w' ⟨rfl, ⟨nd, rfl⟩⟩; refine ⟨_, rfl, ?_⟩))
  (try simp only [Act.put, sb, sz, ss])
  go_cut [56] (fun v56 wc => ∃ (kq : Nat) (x56_14 : Bool), v56 = .bool x56_14 ∧ Aside0 (annealref1_Mul.j0 kq a0 a1 a2 a3 (t640 != t641) x56_14 = some (r1, r2, r3, r4, r5, r6)) ∧ Aside0 (kq ≤ k) ∧ Aside0 (wc.heap[gb633]? = some (.cells #[.bool false, .bool false, .bool false, .bool false, .bool false] 27 (0, 0))) ∧ Aside0 (Below w.heap.size w wc))
  case first =>
   have H := HC15.out
   clear HC15
   replace H := Option.bind_eq_some_iff.mp H
   obtain ⟨t642, A200, H⟩ := H
   replace H : (if t642 = true then ((annealref1_inf.f k a0 a3).bind fun t643 => (if t643 = true then (annealref1_Mul.j0 k a0 a1 a2 a3 (t640 != t641) true) else ((annealref1_inf.f k a0 a2).bind fun t644 => (if t644 = true then ((annealref1_zero.f k a0 a3).bind fun t645 => (annealref1_Mul.j0 k a0 a1 a2 a3 (t640 != t641) t645)) else (annealref1_Mul.j0 k a0 a1 a2 a3 (t640 != t641) false))))) else ((annealref1_inf.f k a0 a2).bind fun t646 => (if t646 = true then ((annealref1_zero.f k a0 a3).bind fun t647 => (annealref1_Mul.j0 k a0 a1 a2 a3 (t640 != t641) t647)) else (annealref1_Mul.j0 k a0 a1 a2 a3 (t640 != t641) false)))) = some (r1, r2, r3, r4, r5, r6) := H
   have A20 := Aside0.mk A200
   clear A200
   by_cases c21 : t642 = true
   ·subst c21
    have H1 : ((annealref1_inf.f k a0 a3).bind fun t643 => (if t643 = true then (annealref1_Mul.j0 k a0 a1 a2 a3 (t640 != t641) true) else ((annealref1_inf.f k a0 a2).bind fun t644 => (if t644 = true then ((annealref1_zero.f k a0 a3).bind fun t645 => (annealref1_Mul.j0 k a0 a1 a2 a3 (t640 != t641) t645)) else (annealref1_Mul.j0 k a0 a1 a2 a3 (t640 != t641) false))))) = some (r1, r2, r3, r4, r5, r6) := by rw [if_pos rfl] at H; exact H
    clear H
    have H := H1
    clear H1
    replace H := Option.bind_eq_some_iff.mp H
    obtain ⟨t643, A220, H⟩ := H
    replace H : (if t643 = true then (annealref1_Mul.j0 k a0 a1 a2 a3 (t640 != t641) true) else ((annealref1_inf.f k a0 a2).bind fun t644 => (if t644 = true then ((annealref1_zero.f k a0 a3).bind fun t645 => (annealref1_Mul.j0 k a0 a1 a2 a3 (t640 != t641) t645)) else (annealref1_Mul.j0 k a0 a1 a2 a3 (t640 != t641) false)))) = some (r1, r2, r3, r4, r5, r6) := H
    have A22 := Aside0.mk A220
    clear A220
    by_cases c23 : t643 = true
    ·subst c23
     have H1 : (annealref1_Mul.j0 k a0 a1 a2 a3 (t640 != t641) true) = some (r1, r2, r3, r4, r5, r6) := by rw [if_pos rfl] at H; exact H
     clear H
     have H := H1
     clear H1
     have H' := Aside0.mk H
     clear H
     go_wp2_with (first | ((with_reducible refine gate_callee (f := 51) rfl ?_); refine goesL_ (some 41) rfl rfl Try.func51 (by kernel_rfl) rfl #[.int .i64 a0, .int .u32 a2] rfl gl ?_; (with_reducible refine (annealref1_zero.calls k a0 a2 true _ A20.out).mono ?_); rintro e w' ⟨rfl, ⟨nd, rfl⟩⟩; refine ⟨_, rfl, ?_⟩) | (go_at_call 52; (with_reducible refine (annealref1_inf.calls k a0 a3 true _ A22.out).mono ?_); rintro e w' ⟨rfl, ⟨nd, rfl⟩⟩))
     go_meet
     case rel => exact ⟨_, (true), (by first | rfl | (simp; done) | (simp [*]; done) | (congr 1; (try unfold wrap64); omega) | (congr 1; rw [IntKind.wrap_u64]; omega)), H', ⟨by first | omega | exact Nat.le_refl _⟩, ⟨by (with_reducible repeat first | apply bd | apply be | apply ba); exact BK633.out⟩, ⟨bl1 HB.out GE633.out⟩⟩
    ·replace c23 := Bool.eq_false_iff.mpr c23
     subst c23
     have H1 : ((annealref1_inf.f k a0 a2).bind fun t644 => (if t644 = true then ((annealref1_zero.f k a0 a3).bind fun t645 => (annealref1_Mul.j0 k a0 a1 a2 a3 (t640 != t641) t645)) else (annealref1_Mul.j0 k a0 a1 a2 a3 (t640 != t641) false))) = some (r1, r2, r3, r4, r5, r6) := by rw [if_neg (show ¬ (false = true) by decide)] at H; exact H
     clear H
     have H := H1
     clear H1
     replace H := Option.bind_eq_some_iff.mp H
     obtain ⟨t644, A240, H⟩ := H
     replace H : (if t644 = true then ((annealref1_zero.f k a0 a3).bind fun t645 => (annealref1_Mul.j0 k a0 a1 a2 a3 (t640 != t641) t645)) else (annealref1_Mul.j0 k a0 a1 a2 a3 (t640 != t641) false)) = some (r1, r2, r3, r4, r5, r6) := H
     have A24 := Aside0.mk A240
     clear A240
     by_cases c25 : t644 = true
     ·subst c25
      have H1 : ((annealref1_zero.f k a0 a3).bind fun t645 => (annealref1_Mul.j0 k a0 a1 a2 a3 (t640 != t641) t645)) = some (r1, r2, r3, r4, r5, r6) := by rw [if_pos rfl] at H; exact H
      clear H
      have H := H1
      clear H1
      replace H := Option.bind_eq_some_iff.mp H
      obtain ⟨t645, A260, H⟩ := H
      replace H : (annealref1_Mul.j0 k a0 a1 a2 a3 (t640 != t641) t645) = some (r1, r2, r3, r4, r5, r6) := H
      have A26 := Aside0.mk A260
      clear A260
      have H' := Aside0.mk H
      clear H
      go_wp2_with (first | ((with_reducible refine gate_callee (f := 51) rfl ?_); refine goesL_ (some 41) rfl rfl Try.func51 (by kernel_rfl) rfl #[.int .i64 a0, .int .u32 a2] rfl gl ?_; (with_reducible refine (annealref1_zero.calls k a0 a2 true _ A20.out).mono ?_); rintro e w' ⟨rfl, ⟨nd, rfl⟩⟩; refine ⟨_, rfl, ?_⟩) | (go_at_call 52; (with_reducible refine (annealref1_inf.calls k a0 a3 false _ A22.out).mono ?_); rintro e w' ⟨rfl, ⟨nd, rfl⟩⟩) | (go_at_call 52; (with_reducible refine (annealref1_inf.calls k a0 a2 true _ A24.out).mono ?_); rintro e w' ⟨rfl, ⟨nd, rfl⟩⟩) | (go_at_call 51; (with_reducible refine (annealref1_zero.calls k a0 a3 t645 _ A26.out).mono ?_); rintro e w' ⟨rfl, ⟨nd, rfl⟩⟩))
      go_meet
      case rel => exact ⟨_, (t645), (by first | rfl | (simp; done) | (simp [*]; done) | (congr 1; (try unfold wrap64); omega) | (congr 1; rw [IntKind.wrap_u64]; omega)), H', ⟨by first | omega | exact Nat.le_refl _⟩, ⟨by (with_reducible repeat first | apply bd | apply be | apply ba); exact BK633.out⟩, ⟨bl1 HB.out GE633.out⟩⟩
     ·replace c25 := Bool.eq_false_iff.mpr c25
      subst c25
      have H1 : (annealref1_Mul.j0 k a0 a1 a2 a3 (t640 != t641) false) = some (r1, r2, r3, r4, r5, r6) := by rw [if_neg (show ¬ (false = true) by decide)] at H; exact H
      clear H
      have H := H1
      clear H1
      have H' := Aside0.mk H
      clear H
      go_wp2_with (first | ((with_reducible refine gate_callee (f := 51) rfl ?_); refine goesL_ (some 41) rfl rfl Try.func51 (by kernel_rfl) rfl #[.int .i64 a0, .int .u32 a2] rfl gl ?_; (with_reducible refine (annealref1_zero.calls k a0 a2 true _ A20.out).mono ?_); rintro e w' ⟨rfl, ⟨nd, rfl⟩⟩; refine ⟨_, rfl, ?_⟩) | (go_at_call 52; (with_reducible refine (annealref1_inf.calls k a0 a3 false _ A22.out).mono ?_); rintro e w' ⟨rfl, ⟨nd, rfl⟩⟩) | (go_at_call 52; (with_reducible refine (annealref1_inf.calls k a0 a2 false _ A24.out).mono ?_); rintro e w' ⟨rfl, ⟨nd, rfl⟩⟩))
      go_meet
      case rel => exact ⟨_, (false), (by first | rfl | (simp; done) | (simp [*]; done) | (congr 1; (try unfold wrap64); omega) | (congr 1; rw [IntKind.wrap_u64]; omega)), H', ⟨by first | omega | exact Nat.le_refl _⟩, ⟨by (with_reducible repeat first | apply bd | apply be | apply ba); exact BK633.out⟩, ⟨bl1 HB.out GE633.out⟩⟩
   ·replace c21 := Bool.eq_false_iff.mpr c21
    subst c21
    have H1 : ((annealref1_inf.f k a0 a2).bind fun t646 => (if t646 = true then ((annealref1_zero.f k a0 a3).bind fun t647 => (annealref1_Mul.j0 k a0 a1 a2 a3 (t640 != t641) t647)) else (annealref1_Mul.j0 k a0 a1 a2 a3 (t640 != t641) false))) = some (r1, r2, r3, r4, r5, r6) := by rw [if_neg (show ¬ (false = true) by decide)] at H; exact H
    clear H
    have H := H1
    clear H1
    replace H := Option.bind_eq_some_iff.mp H
    obtain ⟨t646, A270, H⟩ := H
    replace H : (if t646 = true then ((annealref1_zero.f k a0 a3).bind fun t647 => (annealref1_Mul.j0 k a0 a1 a2 a3 (t640 != t641) t647)) else (annealref1_Mul.j0 k a0 a1 a2 a3 (t640 != t641) false)) = some (r1, r2, r3, r4, r5, r6) := H
    have A27 := Aside0.mk A270
    clear A270
    by_cases c28 : t646 = true
    ·subst c28
     have H1 : ((annealref1_zero.f k a0 a3).bind fun t647 => (annealref1_Mul.j0 k a0 a1 a2 a3 (t640 != t641) t647)) = some (r1, r2, r3, r4, r5, r6) := by rw [if_pos rfl] at H; exact H
     clear H
     have H := H1
     clear H1
     replace H := Option.bind_eq_some_iff.mp H
     obtain ⟨t647, A290, H⟩ := H
     replace H : (annealref1_Mul.j0 k a0 a1 a2 a3 (t640 != t641) t647) = some (r1, r2, r3, r4, r5, r6) := H
     have A29 := Aside0.mk A290
     clear A290
     have H' := Aside0.mk H
     clear H
     go_wp2_with (first | ((with_reducible refine gate_callee (f := 51) rfl ?_); refine goesL_ (some 41) rfl rfl Try.func51 (by kernel_rfl) rfl #[.int .i64 a0, .int .u32 a2] rfl gl ?_; (with_reducible refine (annealref1_zero.calls k a0 a2 false _ A20.out).mono ?_); rintro e w' ⟨rfl, ⟨nd, rfl⟩⟩; refine ⟨_, rfl, ?_⟩) | (go_at_call 52; (with_reducible refine (annealref1_inf.calls k a0 a2 true _ A27.out).mono ?_); rintro e w' ⟨rfl, ⟨nd, rfl⟩⟩) | (go_at_call 51; (with_reducible refine (annealref1_zero.calls k a0 a3 t647 _ A29.out).mono ?_); rintro e w' ⟨rfl, ⟨nd, rfl⟩⟩))
     go_meet
     case rel => exact ⟨_, (t647), (by first | rfl | (simp; done) | (simp [*]; done) | (congr 1; (try unfold wrap64); omega) | (congr 1; rw [IntKind.wrap_u64]; omega)), H', ⟨by first | omega | exact Nat.le_refl _⟩, ⟨by (with_reducible repeat first | apply bd | apply be | apply ba); exact BK633.out⟩, ⟨bl1 HB.out GE633.out⟩⟩
    ·replace c28 := Bool.eq_false_iff.mpr c28
     subst c28
     have H1 : (annealref1_Mul.j0 k a0 a1 a2 a3 (t640 != t641) false) = some (r1, r2, r3, r4, r5, r6) := by rw [if_neg (show ¬ (false = true) by decide)] at H; exact H
     clear H
     have H := H1
     clear H1
     have H' := Aside0.mk H
     clear H
     go_wp2_with (first | ((with_reducible refine gate_callee (f := 51) rfl ?_); refine goesL_ (some 41) rfl rfl Try.func51 (by kernel_rfl) rfl #[.int .i64 a0, .int .u32 a2] rfl gl ?_; (with_reducible refine (annealref1_zero.calls k a0 a2 false _ A20.out).mono ?_); rintro e w' ⟨rfl, ⟨nd, rfl⟩⟩; refine ⟨_, rfl, ?_⟩) | (go_at_call 52; (with_reducible refine (annealref1_inf.calls k a0 a2 false _ A27.out).mono ?_); rintro e w' ⟨rfl, ⟨nd, rfl⟩⟩))
     go_meet
     case rel => exact ⟨_, (false), (by first | rfl | (simp; done) | (simp [*]; done) | (congr 1; (try unfold wrap64); omega) | (congr 1; rw [IntKind.wrap_u64]; omega)), H', ⟨by first | omega | exact Nat.le_refl _⟩, ⟨by (with_reducible repeat first | apply bd | apply be | apply ba); exact BK633.out⟩, ⟨bl1 HB.out GE633.out⟩⟩
  case rest =>
   clear HC15
   try clear c1 c2 p2 c4 c5 c6 p6 c15 c21 c23 c24 c25 c28 hcz12_0 hcz12_1 hcz12_2 hcz12_3 hcz12_4 hfz12_0 hfz12_1 hfz12_2 hfz12_3 hfz12_4
   obtain ⟨kq, x56_14, rfl, HA, HJ14, BK633, HB⟩ := hcut
   cases kq with
   |zero => exact absurd HA.out (by simp [annealref1_Mul.j0])
   |succ kj14 =>
    have H := HA.out
    clear HA
    simp only [annealref1_Mul.j0] at H
    by_cases c30 : x56_14 = true
    ·subst c30
     have H1 : ((annealref1_Nan.f a0).bind fun t648 => (some (t648, true, false, false, false, false))) = some (r1, r2, r3, r4, r5, r6) := by rw [if_pos rfl] at H; exact H
     clear H
     have H := H1
     clear H1
     replace H := Option.bind_eq_some_iff.mp H
     obtain ⟨t648, A310, H⟩ := H
     replace H : (some (t648, true, false, false, false, false)) = some (r1, r2, r3, r4, r5, r6) := H
     have A31 := Aside0.mk A310
     clear A310
     simp only [Option.some.injEq, Prod.mk.injEq] at H
     obtain ⟨rfl, rfl, rfl, rfl, rfl, rfl⟩ := H
     go_wp2_with (first | ((with_reducible refine gate_callee (f := 15) rfl ?_); refine goesL_ (some 58) rfl rfl Try.func15 (by kernel_rfl) rfl #[.int .i64 a0] rfl gl ?_; (with_reducible refine (annealref1_Nan.calls a0 t648 _ A31.out).mono ?_); rintro e w' ⟨rfl, ⟨nd, rfl⟩⟩; refine ⟨_, rfl, ?_⟩; (try (rw [drewN_self wc]; generalize hq_ : World.drewN wc _ = wc; have n0_ : Aside0 (wc.heap[gb633]? = some (.cells #[.bool false, .bool false, .bool false, .bool false, .bool false] 27 (0, 0))) := ⟨by rw [← hq_]; exact (bv BK633.out)⟩; have n1_ : Aside0 (Below w.heap.size w wc) := ⟨by rw [← hq_]; exact (bl1 HB.out GE633.out)⟩; clear BK633 HB hq_; have BK633 := n0_; have HB := n1_; clear n0_ n1_)); obtain ⟨hcz32_0, hcz32_1, hcz32_2, hcz32_3, hcz32_4⟩ := bc5 BK633.out; obtain ⟨hfz32_0, hfz32_1, hfz32_2, hfz32_3, hfz32_4⟩ := bf5 BK633.out))
     refine bodyPost_ret (results_tc rfl _ _ gb633 27 #[.bool true, .bool false, .bool false, .bool false, .bool false] (0, 0) _ rfl (by (with_reducible repeat first | apply bd | apply be | apply ba); refine blk_put (cs := #[.bool true, .bool false, .bool false, .bool false, .bool false]) ?_ 4 _ rfl; (with_reducible repeat first | apply bd | apply be | apply ba); refine blk_put (cs := #[.bool true, .bool false, .bool false, .bool false, .bool false]) ?_ 3 _ rfl; (with_reducible repeat first | apply bd | apply be | apply ba); refine blk_put (cs := #[.bool true, .bool false, .bool false, .bool false, .bool false]) ?_ 2 _ rfl; (with_reducible repeat first | apply bd | apply be | apply ba); refine blk_put (cs := #[.bool true, .bool false, .bool false, .bool false, .bool false]) ?_ 1 _ rfl; (with_reducible repeat first | apply bd | apply be | apply ba); refine blk_put (cs := F5) ?_ 0 _ rfl; (with_reducible repeat first | apply bd | apply be | apply ba); exact BK633.out) Try.underlying27 rfl (by kernel_rfl)) rfl ?_
     exact ⟨by first | rfl | (simp [errW_none, errW_some] <;> rfl) | (simp [*, errW_none, errW_some] <;> rfl), bl1 HB.out GE633.out⟩
    ·replace c30 := Bool.eq_false_iff.mpr c30
     subst c30
     have H1 : ((annealref1_inf.f kj14 a0 a2).bind fun t649 => (if t649 = true then (annealref1_Mul.j1 kj14 a0 a1 a2 a3 (t640 != t641) true) else ((annealref1_inf.f kj14 a0 a3).bind fun t650 => (annealref1_Mul.j1 kj14 a0 a1 a2 a3 (t640 != t641) t650)))) = some (r1, r2, r3, r4, r5, r6) := by rw [if_neg (show ¬ (false = true) by decide)] at H; exact H
     clear H
     have H := H1
     clear H1
     have HC33 := Aside0.mk H
     clear H
     go_upto_region 7 with (fail)
     go_cut [67] (fun v67 wc => ∃ (kq : Nat) (x67_32 : Bool), v67 = .bool x67_32 ∧ Aside0 (annealref1_Mul.j1 kq a0 a1 a2 a3 (t640 != t641) x67_32 = some (r1, r2, r3, r4, r5, r6)) ∧ Aside0 (kq ≤ kj14) ∧ Aside0 (wc.heap[gb633]? = some (.cells #[.bool false, .bool false, .bool false, .bool false, .bool false] 27 (0, 0))) ∧ Aside0 (Below w.heap.size w wc))
     case first =>
      have H := HC33.out
      clear HC33
      replace H := Option.bind_eq_some_iff.mp H
      obtain ⟨t649, A340, H⟩ := H
      replace H : (if t649 = true then (annealref1_Mul.j1 kj14 a0 a1 a2 a3 (t640 != t641) true) else ((annealref1_inf.f kj14 a0 a3).bind fun t650 => (annealref1_Mul.j1 kj14 a0 a1 a2 a3 (t640 != t641) t650))) = some (r1, r2, r3, r4, r5, r6) := H
      have A34 := Aside0.mk A340
      clear A340
      by_cases c35 : t649 = true
      ·subst c35
       have H1 : (annealref1_Mul.j1 kj14 a0 a1 a2 a3 (t640 != t641) true) = some (r1, r2, r3, r4, r5, r6) := by rw [if_pos rfl] at H; exact H
       clear H
       have H := H1
       clear H1
       have H' := Aside0.mk H
       clear H
       go_wp2_with (first | ((with_reducible refine gate_callee (f := 52) rfl ?_); refine goesL_ (some 62) rfl rfl Try.func52 (by kernel_rfl) rfl #[.int .i64 a0, .int .u32 a2] rfl gl ?_; (with_reducible refine (annealref1_inf.calls kj14 a0 a2 true _ A34.out).mono ?_); rintro e w' ⟨rfl, ⟨nd, rfl⟩⟩; refine ⟨_, rfl, ?_⟩))
       go_meet
       case rel => exact ⟨_, (true), (by first | rfl | (simp; done) | (simp [*]; done) | (congr 1; (try unfold wrap64); omega) | (congr 1; rw [IntKind.wrap_u64]; omega)), H', ⟨by have := HJ14.out; first | omega | exact Nat.le_refl _⟩, ⟨by (with_reducible repeat first | apply bd | apply be | apply ba); exact BK633.out⟩, ⟨bl1 HB.out GE633.out⟩⟩
      ·replace c35 := Bool.eq_false_iff.mpr c35
       subst c35
       have H1 : ((annealref1_inf.f kj14 a0 a3).bind fun t650 => (annealref1_Mul.j1 kj14 a0 a1 a2 a3 (t640 != t641) t650)) = some (r1, r2, r3, r4, r5, r6) := by rw [if_neg (show ¬ (false = true) by decide)] at H; exact H
       clear H
       have H := H1
       clear H1
       replace H := Option.bind_eq_some_iff.mp H
       obtain ⟨t650, A360, H⟩ := H
       replace H : (annealref1_Mul.j1 kj14 a0 a1 a2 a3 (t640 != t641) t650) = some (r1, r2, r3, r4, r5, r6) := H
       have A36 := Aside0.mk A360
       clear A360
       have H' := Aside0.mk H
       clear H
       go_wp2_with (first | ((with_reducible refine gate_callee (f := 52) rfl ?_); refine goesL_ (some 62) rfl rfl Try.func52 (by kernel_rfl) rfl #[.int .i64 a0, .int .u32 a2] rfl gl ?_; (with_reducible refine (annealref1_inf.calls kj14 a0 a2 false _ A34.out).mono ?_); rintro e w' ⟨rfl, ⟨nd, rfl⟩⟩; refine ⟨_, rfl, ?_⟩) | (go_at_call 52; (with_reducible refine (annealref1_inf.calls kj14 a0 a3 t650 _ A36.out).mono ?_); rintro e w' ⟨rfl, ⟨nd, rfl⟩⟩))
       go_meet
       case rel => exact ⟨_, (t650), (by first | rfl | (simp; done) | (simp [*]; done) | (congr 1; (try unfold wrap64); omega) | (congr 1; rw [IntKind.wrap_u64]; omega)), H', ⟨by have := HJ14.out; first | omega | exact Nat.le_refl _⟩, ⟨by (with_reducible repeat first | apply bd | apply be | apply ba); exact BK633.out⟩, ⟨bl1 HB.out GE633.out⟩⟩
     case rest =>
      clear HC33
      try clear c1 c2 p2 c3 c4 c5 c6 p6 c15 c21 c23 c24 c25 c28 c30 c35 hcz12_0 hcz12_1 hcz12_2 hcz12_3 hcz12_4 hcz32_0 hcz32_1 hcz32_2 hcz32_3 hcz32_4 hfz12_0 hfz12_1 hfz12_2 hfz12_3 hfz12_4 hfz32_0 hfz32_1 hfz32_2 hfz32_3 hfz32_4 p2 p6
      obtain ⟨kq, x67_32, rfl, HA, HJ32, BK633, HB⟩ := hcut
      cases kq with
      |zero => exact absurd HA.out (by simp [annealref1_Mul.j1])
      |succ kj32 =>
       have H := HA.out
       clear HA
       simp only [annealref1_Mul.j1] at H
       by_cases c37 : x67_32 = true
       ·subst c37
        have H1 : ((annealref1_Inf.f a0 (t640 != t641)).bind fun t651 => (some (t651, false, false, false, false, false))) = some (r1, r2, r3, r4, r5, r6) := by rw [if_pos rfl] at H; exact H
        clear H
        have H := H1
        clear H1
        replace H := Option.bind_eq_some_iff.mp H
        obtain ⟨t651, A380, H⟩ := H
        replace H : (some (t651, false, false, false, false, false)) = some (r1, r2, r3, r4, r5, r6) := H
        have A38 := Aside0.mk A380
        clear A380
        simp only [Option.some.injEq, Prod.mk.injEq] at H
        obtain ⟨rfl, rfl, rfl, rfl, rfl, rfl⟩ := H
        go_wp2_with (first | ((with_reducible refine gate_callee (f := 40) rfl ?_); refine goesL_ (some 70) rfl rfl Try.func40 (by kernel_rfl) rfl #[.int .i64 a0, .bool (t640 != t641)] rfl gl ?_; (with_reducible refine (annealref1_Inf.calls a0 (t640 != t641) t651 _ A38.out).mono ?_); rintro e w' ⟨rfl, ⟨nd, rfl⟩⟩; refine ⟨_, rfl, ?_⟩; (try (rw [drewN_self wc]; generalize hq_ : World.drewN wc _ = wc; have n0_ : Aside0 (wc.heap[gb633]? = some (.cells #[.bool false, .bool false, .bool false, .bool false, .bool false] 27 (0, 0))) := ⟨by rw [← hq_]; exact (bv BK633.out)⟩; have n1_ : Aside0 (Below w.heap.size w wc) := ⟨by rw [← hq_]; exact (bl1 HB.out GE633.out)⟩; clear BK633 HB hq_; have BK633 := n0_; have HB := n1_; clear n0_ n1_)); obtain ⟨hcz39_0, hcz39_1, hcz39_2, hcz39_3, hcz39_4⟩ := bc5 BK633.out; obtain ⟨hfz39_0, hfz39_1, hfz39_2, hfz39_3, hfz39_4⟩ := bf5 BK633.out))
        refine bodyPost_ret (results_tc rfl _ _ gb633 27 #[.bool false, .bool false, .bool false, .bool false, .bool false] (0, 0) _ rfl (by (with_reducible repeat first | apply bd | apply be | apply ba); refine blk_put (cs := F5) ?_ 4 _ rfl; (with_reducible repeat first | apply bd | apply be | apply ba); refine blk_put (cs := F5) ?_ 3 _ rfl; (with_reducible repeat first | apply bd | apply be | apply ba); refine blk_put (cs := F5) ?_ 2 _ rfl; (with_reducible repeat first | apply bd | apply be | apply ba); refine blk_put (cs := F5) ?_ 1 _ rfl; (with_reducible repeat first | apply bd | apply be | apply ba); refine blk_put (cs := F5) ?_ 0 _ rfl; (with_reducible repeat first | apply bd | apply be | apply ba); exact BK633.out) Try.underlying27 rfl (by kernel_rfl)) rfl ?_
        exact ⟨by first | rfl | (simp [errW_none, errW_some] <;> rfl) | (simp [*, errW_none, errW_some] <;> rfl), bl1 HB.out GE633.out⟩
       ·replace c37 := Bool.eq_false_iff.mpr c37
        subst c37
        have H1 : ((annealref1_Unpack.f kj32 a0 a2).bind fun bt652 => ((annealref1_Unpack.f kj32 a0 a3).bind fun bt655 => ((annealref1_Pack.f kj32 a0 a1 (t640 != t641) (wrap64 (bt652.2.1 + bt655.2.1)) (IntKind.u64.wrap (bt652.2.2 * bt655.2.2)) false).bind fun bt658 => (some (bt658.1, bt658.2.1, bt658.2.2.1, bt658.2.2.2.1, bt658.2.2.2.2.1, bt658.2.2.2.2.2))))) = some (r1, r2, r3, r4, r5, r6) := by rw [if_neg (show ¬ (false = true) by decide)] at H; exact H
        clear H
        have H := H1
        clear H1
        replace H := Option.bind_eq_some_iff.mp H
        obtain ⟨⟨t652, t653, t654⟩, A400, H⟩ := H
        replace H : ((annealref1_Unpack.f kj32 a0 a3).bind fun bt655 => ((annealref1_Pack.f kj32 a0 a1 (t640 != t641) (wrap64 (t653 + bt655.2.1)) (IntKind.u64.wrap (t654 * bt655.2.2)) false).bind fun bt658 => (some (bt658.1, bt658.2.1, bt658.2.2.1, bt658.2.2.2.1, bt658.2.2.2.2.1, bt658.2.2.2.2.2)))) = some (r1, r2, r3, r4, r5, r6) := H
        have A40 := Aside0.mk A400
        clear A400
        replace H := Option.bind_eq_some_iff.mp H
        obtain ⟨⟨t655, t656, t657⟩, A410, H⟩ := H
        replace H : ((annealref1_Pack.f kj32 a0 a1 (t640 != t641) (wrap64 (t653 + t656)) (IntKind.u64.wrap (t654 * t657)) false).bind fun bt658 => (some (bt658.1, bt658.2.1, bt658.2.2.1, bt658.2.2.2.1, bt658.2.2.2.2.1, bt658.2.2.2.2.2))) = some (r1, r2, r3, r4, r5, r6) := H
        have A41 := Aside0.mk A410
        clear A410
        replace H := Option.bind_eq_some_iff.mp H
        obtain ⟨⟨t658, t659, t660, t661, t662, t663⟩, A420, H⟩ := H
        replace H : (some (t658, t659, t660, t661, t662, t663)) = some (r1, r2, r3, r4, r5, r6) := H
        have A42 := Aside0.mk A420
        clear A420
        simp only [Option.some.injEq, Prod.mk.injEq] at H
        obtain ⟨rfl, rfl, rfl, rfl, rfl, rfl⟩ := H
        go_wp2_with (first | ((with_reducible refine gate_callee (f := 43) rfl ?_); refine goesL_ (some 75) rfl rfl Try.func43 (by kernel_rfl) rfl #[.int .i64 a0, .int .u32 a2] rfl gl ?_; (with_reducible refine (annealref1_Unpack.calls kj32 a0 a2 t652 t653 t654 _ A40.out).mono ?_); rintro e w' ⟨rfl, ⟨nd, rfl⟩⟩; refine ⟨_, rfl, ?_⟩; (try (rw [drewN_self wc]; generalize hq_ : World.drewN wc _ = wc; have n0_ : Aside0 (wc.heap[gb633]? = some (.cells #[.bool false, .bool false, .bool false, .bool false, .bool false] 27 (0, 0))) := ⟨by rw [← hq_]; exact (bv BK633.out)⟩; have n1_ : Aside0 (Below w.heap.size w wc) := ⟨by rw [← hq_]; exact (bl1 HB.out GE633.out)⟩; clear BK633 HB hq_; have BK633 := n0_; have HB := n1_; clear n0_ n1_))) | ((with_reducible refine gate_callee (f := 43) rfl ?_); refine goesL_ (some 82) rfl rfl Try.func43 (by kernel_rfl) rfl #[.int .i64 a0, .int .u32 a3] rfl gl ?_; (with_reducible refine (annealref1_Unpack.calls kj32 a0 a3 t655 t656 t657 _ A41.out).mono ?_); rintro e w' ⟨rfl, ⟨nd, rfl⟩⟩; refine ⟨_, rfl, ?_⟩; (try (rw [drewN_self wc]; generalize hq_ : World.drewN wc _ = wc; have n0_ : Aside0 (wc.heap[gb633]? = some (.cells #[.bool false, .bool false, .bool false, .bool false, .bool false] 27 (0, 0))) := ⟨by rw [← hq_]; exact (bv BK633.out)⟩; have n1_ : Aside0 (Below w.heap.size w wc) := ⟨by rw [← hq_]; exact (bl1 HB.out GE633.out)⟩; clear BK633 HB hq_; have BK633 := n0_; have HB := n1_; clear n0_ n1_))) | ((with_reducible refine gate_callee (f := 44) rfl ?_); refine goesL_ (some 95) rfl rfl Try.func44 (by kernel_rfl) rfl #[.int .i64 a0, .int .i64 a1, .bool (t640 != t641), .int .i64 (wrap64 (t653 + t656)), .int .u64 (IntKind.u64.wrap (t654 * t657)), .bool false] rfl gl ?_; (with_reducible refine (annealref1_Pack.calls kj32 a0 a1 (t640 != t641) (wrap64 (t653 + t656)) (IntKind.u64.wrap (t654 * t657)) false t658 t659 t660 t661 t662 t663 _ A42.out).mono ?_); rintro e w43 ⟨rfl, hb⟩; refine ⟨_, rfl, ?_⟩; have n0_ := Aside0.mk (blk_below (g := gb633) (o := .cells #[.bool false, .bool false, .bool false, .bool false, .bool false] 27 (0, 0)) (bv BK633.out) hb); have n1_ := Aside0.mk (below_step (bl1 HB.out GE633.out) hb); clear BK633; clear HB; have BK633 := n0_; have HB := n1_; clear n0_ n1_; obtain ⟨hcz44_0, hcz44_1, hcz44_2, hcz44_3, hcz44_4⟩ := bc5 BK633.out; obtain ⟨hfz44_0, hfz44_1, hfz44_2, hfz44_3, hfz44_4⟩ := bf5 BK633.out))
        refine bodyPost_ret (results_tc rfl _ _ gb633 27 #[.bool t659, .bool t660, .bool t661, .bool t662, .bool t663] (0, 0) _ rfl (by (with_reducible repeat first | apply bd | apply be | apply ba); refine blk_put (cs := #[.bool t659, .bool t660, .bool t661, .bool t662, .bool false]) ?_ 4 _ rfl; (with_reducible repeat first | apply bd | apply be | apply ba); refine blk_put (cs := #[.bool t659, .bool t660, .bool t661, .bool false, .bool false]) ?_ 3 _ rfl; (with_reducible repeat first | apply bd | apply be | apply ba); refine blk_put (cs := #[.bool t659, .bool t660, .bool false, .bool false, .bool false]) ?_ 2 _ rfl; (with_reducible repeat first | apply bd | apply be | apply ba); refine blk_put (cs := #[.bool t659, .bool false, .bool false, .bool false, .bool false]) ?_ 1 _ rfl; (with_reducible repeat first | apply bd | apply be | apply ba); refine blk_put (cs := F5) ?_ 0 _ rfl; (with_reducible repeat first | apply bd | apply be | apply ba); exact BK633.out) Try.underlying27 rfl (by kernel_rfl)) rfl ?_
        exact ⟨by first | rfl | (simp [errW_none, errW_some] <;> rfl) | (simp [*, errW_none, errW_some] <;> rfl), bl1 HB.out GE633.out⟩

end Go.Proofs.Ytlkjoibpfhjhcaa.P
