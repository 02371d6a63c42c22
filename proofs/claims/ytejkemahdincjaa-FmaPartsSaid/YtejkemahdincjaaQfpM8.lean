import Derived.Test.YtejkemahdincjaaQfpZ
import Derived.Test.YtejkemahdincjaaQfpM4
import Derived.Test.YtejkemahdincjaaQfpM7
import Derived.Test.YtejkemahdincjaaQfpM6
import Derived.Test.YtejkemahdincjaaQfpM3
import Derived.Test.YtejkemahdincjaaProg
import Derived.Test.YtejkemahdincjaaQfpM5
import Derived.Test.YtejkemahdincjaaQfpM1
import Derived.Test.YtejkemahdincjaaQfpWMore
-- Printed by a program of this session's out of Lean's print of the translation; Lean checks it.
set_option linter.unusedVariables false
set_option linter.unusedSimpArgs false
namespace Go.Proofs.Ytejkemahdincjaa.P
open Go.RowKit Go.Proofs.YtejkemahdincjaaW.PrintWords Go.Proofs.YtejkemahdincjaaW.PrintLast Go.Proofs.YtejkemahdincjaaW.PrintMore
attribute [local go_sem] max2_int min2_int max_two min_two max_three min_three max_four min_four

attribute [local go_sem high] eqA29
-- NEED 3
/-! ### anneallaw5_known: function 14 -/
def anneallaw5_known.f (k : Nat)  : Option (Bool) := (prod_Fma.f k 2 0 1073741824 1077936128 1065353216).bind fun bt616 => ((prod_Mul.f k 0 0 31744 0).bind fun bt623 => (if bt616.1 = 1088421888 then (if (!bt616.2.1 && (!bt616.2.2.1 && (!bt616.2.2.2.1 && (!bt616.2.2.2.2.1 && (!bt616.2.2.2.2.2))))) = true then (if bt623.1 = 32256 then (some (bt623.2.1 && (!bt623.2.2.1 && (!bt623.2.2.2.1 && (!bt623.2.2.2.2.1 && (!bt623.2.2.2.2.2)))))) else (some false)) else (some false)) else (some false)))
theorem anneallaw5_known.mono : ∀ k, LeO (anneallaw5_known.f k ) (anneallaw5_known.f (k + 1) ) := by
 intro  k
 unfold anneallaw5_known.f
 repeat' first
   |(with_reducible exact prod_Fma.mono _ _ _ _ _ _)
   |(with_reducible exact prod_Mul.mono _ _ _ _ _)
   |(with_reducible exact LeO.refl _)
   |(with_reducible exact LeO.none _)
   |(with_reducible refine LeO.ite ?_ ?_)
   |(with_reducible refine LeO.bind ?_ (fun _ => ?_))
   |exact prod_Fma.mono _ _ _ _ _ _
   |exact prod_Mul.mono _ _ _ _ _
   |exact LeO.none _
   |refine LeO.ite ?_ ?_
   |refine LeO.bind ?_ (fun _ => ?_)
set_option maxHeartbeats 8000000 in
set_option maxRecDepth 100000 in
theorem anneallaw5_known.calls (k : Nat)  (r : Bool) (w : World) (h : anneallaw5_known.f k  = some r) :
  Calls Try.prog 14 #[] w fun e w' => e = .returned (.bool r) ∧ Below w.heap.size w w' := by
 have hu29 := Try.underlying29
 have HB := Aside0.mk (Below.refl w.heap.size w)
 have H : ((prod_Fma.f k 2 0 1073741824 1077936128 1065353216).bind fun bt616 => ((prod_Mul.f k 0 0 31744 0).bind fun bt623 => (if bt616.1 = 1088421888 then (if (!bt616.2.1 && (!bt616.2.2.1 && (!bt616.2.2.2.1 && (!bt616.2.2.2.2.1 && (!bt616.2.2.2.2.2))))) = true then (if bt623.1 = 32256 then (some (bt623.2.1 && (!bt623.2.2.1 && (!bt623.2.2.2.1 && (!bt623.2.2.2.2.1 && (!bt623.2.2.2.2.2)))))) else (some false)) else (some false)) else (some false)))) = some r := h
 clear h
 replace H := Option.bind_eq_some_iff.mp H
 obtain ⟨⟨t616, t617, t618, t619, t620, t621⟩, A10, H⟩ := H
 replace H : ((prod_Mul.f k 0 0 31744 0).bind fun bt623 => (if t616 = 1088421888 then (if (!t617 && (!t618 && (!t619 && (!t620 && (!t621))))) = true then (if bt623.1 = 32256 then (some (bt623.2.1 && (!bt623.2.2.1 && (!bt623.2.2.2.1 && (!bt623.2.2.2.2.1 && (!bt623.2.2.2.2.2)))))) else (some false)) else (some false)) else (some false))) = some r := H
 have A1 := Aside0.mk A10
 clear A10
 replace H := Option.bind_eq_some_iff.mp H
 obtain ⟨⟨t623, t624, t625, t626, t627, t628⟩, A20, H⟩ := H
 replace H : (if t616 = 1088421888 then (if (!t617 && (!t618 && (!t619 && (!t620 && (!t621))))) = true then (if t623 = 32256 then (some (t624 && (!t625 && (!t626 && (!t627 && (!t628)))))) else (some false)) else (some false)) else (some false)) = some r := H
 have A2 := Aside0.mk A20
 clear A20
 by_cases c3 : t616 = 1088421888
 ·rw [if_pos c3] at H
  have c3b0 : (t616 == 1088421888) = true := beq_iff_eq.mpr c3
  have c3b1 : (t616 != 1088421888) = false := bne_eq_false_iff_eq.mpr c3
  clear c3
  by_cases c4 : (!t617 && (!t618 && (!t619 && (!t620 && (!t621))))) = true
  ·rw [if_pos c4] at H
   have c4b0 : (!t617 && (!t618 && (!t619 && (!t620 && (!t621))))) = true := c4
   clear c4
   by_cases c5 : t623 = 32256
   ·rw [if_pos c5] at H
    have c5b0 : (t623 == 32256) = true := beq_iff_eq.mpr c5
    have c5b1 : (t623 != 32256) = false := bne_eq_false_iff_eq.mpr c5
    clear c5
    obtain rfl := Option.some.inj H
    go_enter Try.func14, Try.ntmps14
    go_wp2_with (first | ((with_reducible refine gate_callee (f := 18) rfl ?_); refine goesL_ (some 6) rfl rfl Try.func18 (by kernel_rfl) rfl #[.int .i64 2, .int .i64 0, .int .u32 1073741824, .int .u32 1077936128, .int .u32 1065353216] rfl gl ?_; (with_reducible refine (prod_Fma.calls k 2 0 1073741824 1077936128 1065353216 t616 t617 t618 t619 t620 t621 _ A1.out).mono ?_); rintro e w6 ⟨rfl, hb⟩; refine ⟨_, rfl, ?_⟩; have n0_ := Aside0.mk (below_step (bl0 HB.out) hb); clear HB; have HB := n0_; clear n0_) | ((with_reducible refine gate_dst (N := 2) rfl ?_); refine box_event ?hg (N := 2) ?hd (cs := F5) (t := 29) ?hr ?_; (case hd => rfl); (case hg => rfl); (case hr => first | (go_simp; done) | (go_simp; rfl)); intro gb622 hg w7 hbox hb; have n0_ := Aside0.mk (below_step (bl0 HB.out) hb); have n1_ := Aside0.mk (hbox); have n2_ := Aside0.mk ((by rw [hg]; exact (below_size (bl0 HB.out)) : w.heap.size ≤ gb622)); have n3_ := n2_; clear HB; have HB := n0_; have BK622 := n1_; have GW622 := n2_; have GE622 := n3_; clear n0_ n1_ n2_ n3_; clear hb hbox hg; obtain ⟨hcz8_0, hcz8_1, hcz8_2, hcz8_3, hcz8_4⟩ := bc5 BK622.out; obtain ⟨hfz8_0, hfz8_1, hfz8_2, hfz8_3, hfz8_4⟩ := bf5 BK622.out) | ((with_reducible refine gate_callee (f := 21) rfl ?_); refine goesL_ (some 10) rfl rfl Try.func21 (by kernel_rfl) rfl #[.int .i64 0, .int .i64 0, .int .u32 31744, .int .u32 0] rfl gl ?_; (with_reducible refine (prod_Mul.calls k 0 0 31744 0 t623 t624 t625 t626 t627 t628 _ A2.out).mono ?_); rintro e w9 ⟨rfl, hb⟩; refine ⟨_, rfl, ?_⟩; have n0_ := Aside0.mk (blk_below (g := gb622) (o := o5_ t617 t618 t619 t620 t621 29) (by (with_reducible repeat first | apply bd | apply be | apply ba); refine blk_put (cs := q5_ t617 t618 t619 t620 false) ?_ 4 _ rfl; (with_reducible repeat first | apply bd | apply be | apply ba); refine blk_put (cs := q5_ t617 t618 t619 false false) ?_ 3 _ rfl; (with_reducible repeat first | apply bd | apply be | apply ba); refine blk_put (cs := q5_ t617 t618 false false false) ?_ 2 _ rfl; (with_reducible repeat first | apply bd | apply be | apply ba); refine blk_put (cs := q5_ t617 false false false false) ?_ 1 _ rfl; (with_reducible repeat first | apply bd | apply be | apply ba); refine blk_put (cs := F5) ?_ 0 _ rfl; (with_reducible repeat first | apply bd | apply be | apply ba); exact BK622.out) hb); have n1_ := Aside0.mk (below_step (bl1 HB.out GE622.out) hb); clear BK622; clear HB; have BK622 := n0_; have HB := n1_; clear n0_ n1_) | ((with_reducible refine gate_dst (N := 4) rfl ?_); refine box_event ?hg (N := 4) ?hd (cs := F5) (t := 29) ?hr ?_; (case hd => rfl); (case hg => rfl); (case hr => first | (go_simp; done) | (go_simp; rfl)); intro gb629 hg w10 hbox hb; have n0_ := Aside0.mk (blk_below (g := gb622) (o := o5_ t617 t618 t619 t620 t621 29) (bv BK622.out) hb); have n1_ := Aside0.mk (below_step (bl1 HB.out GE622.out) hb); have n2_ := Aside0.mk (hbox); have n3_ := Aside0.mk ((by rw [hg]; exact (below_size (bl1 HB.out GE622.out)) : w.heap.size ≤ gb629)); have n4_ := n3_; have n5_ := Aside0.mk ((by rw [hg]; exact Nat.ne_of_lt (blk_lt (g := gb622) (o := o5_ t617 t618 t619 t620 t621 29) (bv BK622.out)) : gb622 ≠ gb629)); have n6_ := Aside0.mk (Ne.symm n5_.out); clear BK622; clear HB; have BK622 := n0_; have HB := n1_; have BK629 := n2_; have GW629 := n3_; have GE629 := n4_; have NB622_629 := n5_; have NB629_622 := n6_; clear n0_ n1_ n2_ n3_ n4_ n5_ n6_; clear hb hbox hg; have hnb11 := NB629_622.out; have hnc11 := NB622_629.out; obtain ⟨hcz12_0, hcz12_1, hcz12_2, hcz12_3, hcz12_4⟩ := bc5 BK629.out; obtain ⟨hfz12_0, hfz12_1, hfz12_2, hfz12_3, hfz12_4⟩ := bf5 BK629.out; obtain ⟨hcz13_0, hcz13_1, hcz13_2, hcz13_3, hcz13_4⟩ := bc5 BK622.out; obtain ⟨hfz13_0, hfz13_1, hfz13_2, hfz13_3, hfz13_4⟩ := bf5 BK622.out))
    go_ret
    exact ⟨by first | rfl | (simp [errW_none, errW_some] <;> rfl) | (simp [*, errW_none, errW_some] <;> rfl), bl2 HB.out GE622.out GE629.out⟩
   ·rw [if_neg c5] at H
    have c5b0 : (t623 == 32256) = false := beq_eq_false_iff_ne.mpr c5
    have c5b1 : (t623 != 32256) = true := bne_iff_ne.mpr c5
    obtain rfl := Option.some.inj H
    go_enter Try.func14, Try.ntmps14
    go_wp2_with (first | ((with_reducible refine gate_callee (f := 18) rfl ?_); refine goesL_ (some 6) rfl rfl Try.func18 (by kernel_rfl) rfl #[.int .i64 2, .int .i64 0, .int .u32 1073741824, .int .u32 1077936128, .int .u32 1065353216] rfl gl ?_; (with_reducible refine (prod_Fma.calls k 2 0 1073741824 1077936128 1065353216 t616 t617 t618 t619 t620 t621 _ A1.out).mono ?_); rintro e w14 ⟨rfl, hb⟩; refine ⟨_, rfl, ?_⟩; have n0_ := Aside0.mk (below_step (bl0 HB.out) hb); clear HB; have HB := n0_; clear n0_) | ((with_reducible refine gate_dst (N := 2) rfl ?_); refine box_event ?hg (N := 2) ?hd (cs := F5) (t := 29) ?hr ?_; (case hd => rfl); (case hg => rfl); (case hr => first | (go_simp; done) | (go_simp; rfl)); intro gb622 hg w15 hbox hb; have n0_ := Aside0.mk (below_step (bl0 HB.out) hb); have n1_ := Aside0.mk (hbox); have n2_ := Aside0.mk ((by rw [hg]; exact (below_size (bl0 HB.out)) : w.heap.size ≤ gb622)); have n3_ := n2_; clear HB; have HB := n0_; have BK622 := n1_; have GW622 := n2_; have GE622 := n3_; clear n0_ n1_ n2_ n3_; clear hb hbox hg; obtain ⟨hcz16_0, hcz16_1, hcz16_2, hcz16_3, hcz16_4⟩ := bc5 BK622.out; obtain ⟨hfz16_0, hfz16_1, hfz16_2, hfz16_3, hfz16_4⟩ := bf5 BK622.out) | ((with_reducible refine gate_callee (f := 21) rfl ?_); refine goesL_ (some 10) rfl rfl Try.func21 (by kernel_rfl) rfl #[.int .i64 0, .int .i64 0, .int .u32 31744, .int .u32 0] rfl gl ?_; (with_reducible refine (prod_Mul.calls k 0 0 31744 0 t623 t624 t625 t626 t627 t628 _ A2.out).mono ?_); rintro e w17 ⟨rfl, hb⟩; refine ⟨_, rfl, ?_⟩; have n0_ := Aside0.mk (blk_below (g := gb622) (o := o5_ t617 t618 t619 t620 t621 29) (by (with_reducible repeat first | apply bd | apply be | apply ba); refine blk_put (cs := q5_ t617 t618 t619 t620 false) ?_ 4 _ rfl; (with_reducible repeat first | apply bd | apply be | apply ba); refine blk_put (cs := q5_ t617 t618 t619 false false) ?_ 3 _ rfl; (with_reducible repeat first | apply bd | apply be | apply ba); refine blk_put (cs := q5_ t617 t618 false false false) ?_ 2 _ rfl; (with_reducible repeat first | apply bd | apply be | apply ba); refine blk_put (cs := q5_ t617 false false false false) ?_ 1 _ rfl; (with_reducible repeat first | apply bd | apply be | apply ba); refine blk_put (cs := F5) ?_ 0 _ rfl; (with_reducible repeat first | apply bd | apply be | apply ba); exact BK622.out) hb); have n1_ := Aside0.mk (below_step (bl1 HB.out GE622.out) hb); clear BK622; clear HB; have BK622 := n0_; have HB := n1_; clear n0_ n1_) | ((with_reducible refine gate_dst (N := 4) rfl ?_); refine box_event ?hg (N := 4) ?hd (cs := F5) (t := 29) ?hr ?_; (case hd => rfl); (case hg => rfl); (case hr => first | (go_simp; done) | (go_simp; rfl)); intro gb629 hg w18 hbox hb; have n0_ := Aside0.mk (blk_below (g := gb622) (o := o5_ t617 t618 t619 t620 t621 29) (bv BK622.out) hb); have n1_ := Aside0.mk (below_step (bl1 HB.out GE622.out) hb); have n2_ := Aside0.mk (hbox); have n3_ := Aside0.mk ((by rw [hg]; exact (below_size (bl1 HB.out GE622.out)) : w.heap.size ≤ gb629)); have n4_ := n3_; have n5_ := Aside0.mk ((by rw [hg]; exact Nat.ne_of_lt (blk_lt (g := gb622) (o := o5_ t617 t618 t619 t620 t621 29) (bv BK622.out)) : gb622 ≠ gb629)); have n6_ := Aside0.mk (Ne.symm n5_.out); clear BK622; clear HB; have BK622 := n0_; have HB := n1_; have BK629 := n2_; have GW629 := n3_; have GE629 := n4_; have NB622_629 := n5_; have NB629_622 := n6_; clear n0_ n1_ n2_ n3_ n4_ n5_ n6_; clear hb hbox hg; have hnb19 := NB629_622.out; have hnc19 := NB622_629.out; obtain ⟨hcz20_0, hcz20_1, hcz20_2, hcz20_3, hcz20_4⟩ := bc5 BK629.out; obtain ⟨hfz20_0, hfz20_1, hfz20_2, hfz20_3, hfz20_4⟩ := bf5 BK629.out; obtain ⟨hcz21_0, hcz21_1, hcz21_2, hcz21_3, hcz21_4⟩ := bc5 BK622.out; obtain ⟨hfz21_0, hfz21_1, hfz21_2, hfz21_3, hfz21_4⟩ := bf5 BK622.out))
    go_ret
    exact ⟨by first | rfl | (simp [errW_none, errW_some] <;> rfl) | (simp [*, errW_none, errW_some] <;> rfl), bl2 HB.out GE622.out GE629.out⟩
  ·rw [if_neg c4] at H
   have c4b0 : (!t617 && (!t618 && (!t619 && (!t620 && (!t621))))) = false := by simpa using c4
   clear c4
   obtain rfl := Option.some.inj H
   go_enter Try.func14, Try.ntmps14
   go_wp2_with (first | ((with_reducible refine gate_callee (f := 18) rfl ?_); refine goesL_ (some 6) rfl rfl Try.func18 (by kernel_rfl) rfl #[.int .i64 2, .int .i64 0, .int .u32 1073741824, .int .u32 1077936128, .int .u32 1065353216] rfl gl ?_; (with_reducible refine (prod_Fma.calls k 2 0 1073741824 1077936128 1065353216 t616 t617 t618 t619 t620 t621 _ A1.out).mono ?_); rintro e w22 ⟨rfl, hb⟩; refine ⟨_, rfl, ?_⟩; have n0_ := Aside0.mk (below_step (bl0 HB.out) hb); clear HB; have HB := n0_; clear n0_) | ((with_reducible refine gate_dst (N := 2) rfl ?_); refine box_event ?hg (N := 2) ?hd (cs := F5) (t := 29) ?hr ?_; (case hd => rfl); (case hg => rfl); (case hr => first | (go_simp; done) | (go_simp; rfl)); intro gb622 hg w23 hbox hb; have n0_ := Aside0.mk (below_step (bl0 HB.out) hb); have n1_ := Aside0.mk (hbox); have n2_ := Aside0.mk ((by rw [hg]; exact (below_size (bl0 HB.out)) : w.heap.size ≤ gb622)); have n3_ := n2_; clear HB; have HB := n0_; have BK622 := n1_; have GW622 := n2_; have GE622 := n3_; clear n0_ n1_ n2_ n3_; clear hb hbox hg; obtain ⟨hcz24_0, hcz24_1, hcz24_2, hcz24_3, hcz24_4⟩ := bc5 BK622.out; obtain ⟨hfz24_0, hfz24_1, hfz24_2, hfz24_3, hfz24_4⟩ := bf5 BK622.out) | ((with_reducible refine gate_callee (f := 21) rfl ?_); refine goesL_ (some 10) rfl rfl Try.func21 (by kernel_rfl) rfl #[.int .i64 0, .int .i64 0, .int .u32 31744, .int .u32 0] rfl gl ?_; (with_reducible refine (prod_Mul.calls k 0 0 31744 0 t623 t624 t625 t626 t627 t628 _ A2.out).mono ?_); rintro e w25 ⟨rfl, hb⟩; refine ⟨_, rfl, ?_⟩; have n0_ := Aside0.mk (blk_below (g := gb622) (o := o5_ t617 t618 t619 t620 t621 29) (by (with_reducible repeat first | apply bd | apply be | apply ba); refine blk_put (cs := q5_ t617 t618 t619 t620 false) ?_ 4 _ rfl; (with_reducible repeat first | apply bd | apply be | apply ba); refine blk_put (cs := q5_ t617 t618 t619 false false) ?_ 3 _ rfl; (with_reducible repeat first | apply bd | apply be | apply ba); refine blk_put (cs := q5_ t617 t618 false false false) ?_ 2 _ rfl; (with_reducible repeat first | apply bd | apply be | apply ba); refine blk_put (cs := q5_ t617 false false false false) ?_ 1 _ rfl; (with_reducible repeat first | apply bd | apply be | apply ba); refine blk_put (cs := F5) ?_ 0 _ rfl; (with_reducible repeat first | apply bd | apply be | apply ba); exact BK622.out) hb); have n1_ := Aside0.mk (below_step (bl1 HB.out GE622.out) hb); clear BK622; clear HB; have BK622 := n0_; have HB := n1_; clear n0_ n1_) | ((with_reducible refine gate_dst (N := 4) rfl ?_); refine box_event ?hg (N := 4) ?hd (cs := F5) (t := 29) ?hr ?_; (case hd => rfl); (case hg => rfl); (case hr => first | (go_simp; done) | (go_simp; rfl)); intro gb629 hg w26 hbox hb; have n0_ := Aside0.mk (blk_below (g := gb622) (o := o5_ t617 t618 t619 t620 t621 29) (bv BK622.out) hb); have n1_ := Aside0.mk (below_step (bl1 HB.out GE622.out) hb); have n2_ := Aside0.mk (hbox); have n3_ := Aside0.mk ((by rw [hg]; exact (below_size (bl1 HB.out GE622.out)) : w.heap.size ≤ gb629)); have n4_ := n3_; have n5_ := Aside0.mk ((by rw [hg]; exact Nat.ne_of_lt (blk_lt (g := gb622) (o := o5_ t617 t618 t619 t620 t621 29) (bv BK622.out)) : gb622 ≠ gb629)); have n6_ := Aside0.mk (Ne.symm n5_.out); clear BK622; clear HB; have BK622 := n0_; have HB := n1_; have BK629 := n2_; have GW629 := n3_; have GE629 := n4_; have NB622_629 := n5_; have NB629_622 := n6_; clear n0_ n1_ n2_ n3_ n4_ n5_ n6_; clear hb hbox hg; have hnb27 := NB629_622.out; have hnc27 := NB622_629.out; obtain ⟨hcz28_0, hcz28_1, hcz28_2, hcz28_3, hcz28_4⟩ := bc5 BK629.out; obtain ⟨hfz28_0, hfz28_1, hfz28_2, hfz28_3, hfz28_4⟩ := bf5 BK629.out; obtain ⟨hcz29_0, hcz29_1, hcz29_2, hcz29_3, hcz29_4⟩ := bc5 BK622.out; obtain ⟨hfz29_0, hfz29_1, hfz29_2, hfz29_3, hfz29_4⟩ := bf5 BK622.out))
   go_ret
   exact ⟨by first | rfl | (simp [errW_none, errW_some] <;> rfl) | (simp [*, errW_none, errW_some] <;> rfl), bl2 HB.out GE622.out GE629.out⟩
 ·rw [if_neg c3] at H
  have c3b0 : (t616 == 1088421888) = false := beq_eq_false_iff_ne.mpr c3
  have c3b1 : (t616 != 1088421888) = true := bne_iff_ne.mpr c3
  obtain rfl := Option.some.inj H
  go_enter Try.func14, Try.ntmps14
  go_wp2_with (first | ((with_reducible refine gate_callee (f := 18) rfl ?_); refine goesL_ (some 6) rfl rfl Try.func18 (by kernel_rfl) rfl #[.int .i64 2, .int .i64 0, .int .u32 1073741824, .int .u32 1077936128, .int .u32 1065353216] rfl gl ?_; (with_reducible refine (prod_Fma.calls k 2 0 1073741824 1077936128 1065353216 t616 t617 t618 t619 t620 t621 _ A1.out).mono ?_); rintro e w30 ⟨rfl, hb⟩; refine ⟨_, rfl, ?_⟩; have n0_ := Aside0.mk (below_step (bl0 HB.out) hb); clear HB; have HB := n0_; clear n0_) | ((with_reducible refine gate_dst (N := 2) rfl ?_); refine box_event ?hg (N := 2) ?hd (cs := F5) (t := 29) ?hr ?_; (case hd => rfl); (case hg => rfl); (case hr => first | (go_simp; done) | (go_simp; rfl)); intro gb622 hg w31 hbox hb; have n0_ := Aside0.mk (below_step (bl0 HB.out) hb); have n1_ := Aside0.mk (hbox); have n2_ := Aside0.mk ((by rw [hg]; exact (below_size (bl0 HB.out)) : w.heap.size ≤ gb622)); have n3_ := n2_; clear HB; have HB := n0_; have BK622 := n1_; have GW622 := n2_; have GE622 := n3_; clear n0_ n1_ n2_ n3_; clear hb hbox hg; obtain ⟨hcz32_0, hcz32_1, hcz32_2, hcz32_3, hcz32_4⟩ := bc5 BK622.out; obtain ⟨hfz32_0, hfz32_1, hfz32_2, hfz32_3, hfz32_4⟩ := bf5 BK622.out) | ((with_reducible refine gate_callee (f := 21) rfl ?_); refine goesL_ (some 10) rfl rfl Try.func21 (by kernel_rfl) rfl #[.int .i64 0, .int .i64 0, .int .u32 31744, .int .u32 0] rfl gl ?_; (with_reducible refine (prod_Mul.calls k 0 0 31744 0 t623 t624 t625 t626 t627 t628 _ A2.out).mono ?_); rintro e w33 ⟨rfl, hb⟩; refine ⟨_, rfl, ?_⟩; have n0_ := Aside0.mk (blk_below (g := gb622) (o := o5_ t617 t618 t619 t620 t621 29) (by (with_reducible repeat first | apply bd | apply be | apply ba); refine blk_put (cs := q5_ t617 t618 t619 t620 false) ?_ 4 _ rfl; (with_reducible repeat first | apply bd | apply be | apply ba); refine blk_put (cs := q5_ t617 t618 t619 false false) ?_ 3 _ rfl; (with_reducible repeat first | apply bd | apply be | apply ba); refine blk_put (cs := q5_ t617 t618 false false false) ?_ 2 _ rfl; (with_reducible repeat first | apply bd | apply be | apply ba); refine blk_put (cs := q5_ t617 false false false false) ?_ 1 _ rfl; (with_reducible repeat first | apply bd | apply be | apply ba); refine blk_put (cs := F5) ?_ 0 _ rfl; (with_reducible repeat first | apply bd | apply be | apply ba); exact BK622.out) hb); have n1_ := Aside0.mk (below_step (bl1 HB.out GE622.out) hb); clear BK622; clear HB; have BK622 := n0_; have HB := n1_; clear n0_ n1_) | ((with_reducible refine gate_dst (N := 4) rfl ?_); refine box_event ?hg (N := 4) ?hd (cs := F5) (t := 29) ?hr ?_; (case hd => rfl); (case hg => rfl); (case hr => first | (go_simp; done) | (go_simp; rfl)); intro gb629 hg w34 hbox hb; have n0_ := Aside0.mk (blk_below (g := gb622) (o := o5_ t617 t618 t619 t620 t621 29) (bv BK622.out) hb); have n1_ := Aside0.mk (below_step (bl1 HB.out GE622.out) hb); have n2_ := Aside0.mk (hbox); have n3_ := Aside0.mk ((by rw [hg]; exact (below_size (bl1 HB.out GE622.out)) : w.heap.size ≤ gb629)); have n4_ := n3_; have n5_ := Aside0.mk ((by rw [hg]; exact Nat.ne_of_lt (blk_lt (g := gb622) (o := o5_ t617 t618 t619 t620 t621 29) (bv BK622.out)) : gb622 ≠ gb629)); have n6_ := Aside0.mk (Ne.symm n5_.out); clear BK622; clear HB; have BK622 := n0_; have HB := n1_; have BK629 := n2_; have GW629 := n3_; have GE629 := n4_; have NB622_629 := n5_; have NB629_622 := n6_; clear n0_ n1_ n2_ n3_ n4_ n5_ n6_; clear hb hbox hg; have hnb35 := NB629_622.out; have hnc35 := NB622_629.out; obtain ⟨hcz36_0, hcz36_1, hcz36_2, hcz36_3, hcz36_4⟩ := bc5 BK629.out; obtain ⟨hfz36_0, hfz36_1, hfz36_2, hfz36_3, hfz36_4⟩ := bf5 BK629.out))
  go_ret
  exact ⟨by first | rfl | (simp [errW_none, errW_some] <;> rfl) | (simp [*, errW_none, errW_some] <;> rfl), bl2 HB.out GE622.out GE629.out⟩


-- NEED 0
/-! ### anneallaw5_form: function 15 -/
def anneallaw5_form.f (a0 : Int) : Option (Int) := (some (([0, 1, 2] : List Int) : List Int)).bind fun y630 => (if 0 ≤ (Int.tmod a0 3) then (if (Int.tmod a0 3) < (y630.length : Int) then (some (rd y630 (Int.tmod a0 3))) else (none)) else (none))
set_option maxHeartbeats 8000000 in
set_option maxRecDepth 100000 in
theorem anneallaw5_form.calls (a0 : Int) (r : Int) (w : World) (h : anneallaw5_form.f a0 = some r) :
  Calls Try.prog 15 #[.int .u8 a0] w fun e w' => e = .returned (.int .i64 r) ∧ Below w.heap.size w w' := by
 have HB := Aside0.mk (Below.refl w.heap.size w)
 have H : ((some (([0, 1, 2] : List Int) : List Int)).bind fun y630 => (if 0 ≤ (Int.tmod a0 3) then (if (Int.tmod a0 3) < (y630.length : Int) then (some (rd y630 (Int.tmod a0 3))) else (none)) else (none))) = some r := h
 clear h
 obtain ⟨y630, hy630⟩ : ∃ y_ : List Int, y_ = (([0, 1, 2] : List Int)) := ⟨_, rfl⟩
 replace H : (if 0 ≤ (Int.tmod a0 3) then (if (Int.tmod a0 3) < (y630.length : Int) then (some (rd y630 (Int.tmod a0 3))) else (none)) else (none)) = some r := by first | (rw [hy630]; with_reducible exact H) | (have H2_ := (Option.bind_some _ _).symm.trans H; rw [hy630]; with_reducible exact H2_) | (have H2_ := (Option.bind_some _ _).symm.trans H; with_reducible exact H2_) | with_reducible exact H | (rw [hy630]; exact H) | exact H
 have Ny630 := Aside0.mk hy630
 clear hy630
 obtain ⟨ji2, hji2⟩ : ∃ j_ : Int, (Int.tmod a0 3) = j_ := ⟨_, rfl⟩
 replace H : (if 0 ≤ (ji2) then (if (ji2) < (y630.length : Int) then (some (rd y630 (ji2))) else (none)) else (none)) = some r := by first | (rw [hji2] at H; exact H) | (simp only [hji2] at H ⊢; exact H)
 by_cases c3 : 0 ≤ (ji2)
 ·rw [if_pos c3] at H
  have c3b0 : decide (0 ≤ (ji2)) = true := decide_eq_true c3
  clear c3
  by_cases c4 : (ji2) < (y630.length : Int)
  ·rw [if_pos c4] at H
   have c4b0 : decide ((ji2) < (y630.length : Int)) = true := decide_eq_true c4
   clear c4
   obtain rfl := Option.some.inj H
   go_enter Try.func15, Try.ntmps15
   go_wp2_with (first | ((with_reducible refine gate_dst (N := 3) rfl ?_); refine Kd.R_lit (Kd.int .i64) _ 3 ?hg (N := 3) ?hd (xs := ([0, 1, 2] : List Int)) (inner := [.int .i64 0, .int .i64 1, .int .i64 2]) (ok := fun _ => True) (okp := fun _ => True) ?hr ?hp (fun _ hk => hk) trivial (Below.refl _ _) (Nat.le_refl _) (by simp) ?_; (case hd => rfl); (case hg => rfl); (case hr => first | (go_simp; done) | (go_simp; rfl)); (case hp => exact (Reps.one (show Kd.M (Kd.int .i64) _ _ _ 0 [.int .i64 0] from rfl) (Reps.one (show Kd.M (Kd.int .i64) _ _ _ 1 [.int .i64 1] from rfl) (Reps.one (show Kd.M (Kd.int .i64) _ _ _ 2 [.int .i64 2] from rfl) (Reps.none _ _))))); intro v631 w5 ho6 hb hg_ hnew_; clear hg_ hnew_; (first | rw [← Ny630.out] at ho6 | (simp only [Int.reduceToNat] at ho6; rw [← Ny630.out] at ho6)); have n0_ := Aside0.mk (Kd.R_lower ho6 (below_size (bl0 HB.out))); have n1_ := Aside0.mk (below_step (bl0 HB.out) hb); clear HB; have HO632 := n0_; have HB := n1_; clear n0_ n1_; clear hb ho6; obtain ⟨Ao7, co7, eo7⟩ := Kd.R_slice HO632.out; subst eo7; have p633 : 0 ≤ ((ji2) : Int) := of_decide_eq_true (by first | (with_reducible assumption) | assumption); have q633 : (ji2) < (y630.length : Int) := of_decide_eq_true (by first | (with_reducible assumption) | assumption); obtain ⟨ad633, e633, hx633_0⟩ := Kd.at_int (Kd.R_reads' HO632.out).2.2 (ji2) p633 q633; cases e633; replace p633 := eq_true p633; replace q633 := eq_true q633))
   go_ret
   exact ⟨by first | rfl | (simp [errW_none, errW_some] <;> rfl) | (simp only [← hji2]; first | rfl | (simp [errW_none, errW_some] <;> rfl)) | (simp [*, errW_none, errW_some] <;> rfl), bl0 HB.out⟩
  ·rw [if_neg c4] at H
   exact absurd H (by simp)
 ·rw [if_neg c3] at H
  exact absurd H (by simp)


-- NEED 1
/-! ### annealref1_FromInt: function 20 -/
def annealref1_FromInt.f (k : Nat) (a0 : Int) (a1 : Int) (a2 : Int) : Option (Int × Bool × Bool × Bool × Bool × Bool) := if a2 < 0 then ((annealref1_Pack.f k a0 a1 true 0 (IntKind.u64.wrap (-(IntKind.u64.wrap (a2)))) false).bind fun bt716 => (some (bt716.1, bt716.2.1, bt716.2.2.1, bt716.2.2.2.1, bt716.2.2.2.2.1, bt716.2.2.2.2.2))) else ((annealref1_Pack.f k a0 a1 false 0 (IntKind.u64.wrap (a2)) false).bind fun bt722 => (some (bt722.1, bt722.2.1, bt722.2.2.1, bt722.2.2.2.1, bt722.2.2.2.2.1, bt722.2.2.2.2.2)))
theorem annealref1_FromInt.mono : ∀ a0 a1 a2 k, LeO (annealref1_FromInt.f k a0 a1 a2) (annealref1_FromInt.f (k + 1) a0 a1 a2) := by
 intro a0 a1 a2 k
 unfold annealref1_FromInt.f
 repeat' first
   |(with_reducible exact annealref1_Pack.mono _ _ _ _ _ _ _)
   |(with_reducible exact LeO.refl _)
   |(with_reducible exact LeO.none _)
   |(with_reducible refine LeO.ite ?_ ?_)
   |(with_reducible refine LeO.bind ?_ (fun _ => ?_))
   |exact annealref1_Pack.mono _ _ _ _ _ _ _
   |exact LeO.none _
   |refine LeO.ite ?_ ?_
   |refine LeO.bind ?_ (fun _ => ?_)
set_option maxHeartbeats 8000000 in
set_option maxRecDepth 100000 in
theorem annealref1_FromInt.calls (k : Nat) (a0 : Int) (a1 : Int) (a2 : Int) (r1 : Int) (r2 : Bool) (r3 : Bool) (r4 : Bool) (r5 : Bool) (r6 : Bool) (w : World) (h : annealref1_FromInt.f k a0 a1 a2 = some (r1, r2, r3, r4, r5, r6)) :
  Calls Try.prog 20 #[.int .i64 a0, .int .i64 a1, .int .i64 a2] w fun e w' => e = .returned (.tuple #[.int .u32 r1, .agg #[.bool r2, .bool r3, .bool r4, .bool r5, .bool r6]]) ∧ Below w.heap.size w w' := by
 have hu29 := Try.underlying29
 have HB := Aside0.mk (Below.refl w.heap.size w)
 have H : (if a2 < 0 then ((annealref1_Pack.f k a0 a1 true 0 (IntKind.u64.wrap (-(IntKind.u64.wrap (a2)))) false).bind fun bt716 => (some (bt716.1, bt716.2.1, bt716.2.2.1, bt716.2.2.2.1, bt716.2.2.2.2.1, bt716.2.2.2.2.2))) else ((annealref1_Pack.f k a0 a1 false 0 (IntKind.u64.wrap (a2)) false).bind fun bt722 => (some (bt722.1, bt722.2.1, bt722.2.2.1, bt722.2.2.2.1, bt722.2.2.2.2.1, bt722.2.2.2.2.2)))) = some (r1, r2, r3, r4, r5, r6) := h
 clear h
 by_cases c4 : a2 < 0
 ·rw [if_pos c4] at H
  have c4b0 : decide (a2 < 0) = true := decide_eq_true c4
  clear c4
  replace H := Option.bind_eq_some_iff.mp H
  obtain ⟨⟨t716, t717, t718, t719, t720, t721⟩, A50, H⟩ := H
  replace H : (some (t716, t717, t718, t719, t720, t721)) = some (r1, r2, r3, r4, r5, r6) := H
  have A5 := Aside0.mk A50
  clear A50
  simp only [Option.some.injEq, Prod.mk.injEq] at H
  obtain ⟨rfl, rfl, rfl, rfl, rfl, rfl⟩ := H
  go_enter Try.func20, Try.ntmps20
  go_wp2_with (first | ((with_reducible refine gate_dst (N := 7) rfl ?_); refine box_event ?hg (N := 7) ?hd (cs := F5) (t := 29) ?hr ?_; (case hd => rfl); (case hg => rfl); (case hr => first | (go_simp; done) | (go_simp; rfl)); intro gb715 hg w6 hbox hb; have n0_ := Aside0.mk (below_step (bl0 HB.out) hb); have n1_ := Aside0.mk (hbox); have n2_ := Aside0.mk ((by rw [hg]; exact (below_size (bl0 HB.out)) : w.heap.size ≤ gb715)); have n3_ := n2_; clear HB; have HB := n0_; have BK715 := n1_; have GW715 := n2_; have GE715 := n3_; clear n0_ n1_ n2_ n3_; clear hb hbox hg) | ((with_reducible refine gate_callee (f := 43) rfl ?_); refine goesL_ (some 15) rfl rfl Try.func43 (by kernel_rfl) rfl #[.int .i64 a0, .int .i64 a1, .bool true, .int .i64 0, .int .u64 (IntKind.u64.wrap (-(IntKind.u64.wrap (a2)))), .bool false] rfl gl ?_; (with_reducible refine (annealref1_Pack.calls k a0 a1 true 0 (IntKind.u64.wrap (-(IntKind.u64.wrap (a2)))) false t716 t717 t718 t719 t720 t721 _ A5.out).mono ?_); rintro e w7 ⟨rfl, hb⟩; refine ⟨_, rfl, ?_⟩; have n0_ := Aside0.mk (blk_below (g := gb715) (o := o5_ false false false false false 29) (bv BK715.out) hb); have n1_ := Aside0.mk (below_step (bl1 HB.out GE715.out) hb); clear BK715; clear HB; have BK715 := n0_; have HB := n1_; clear n0_ n1_; obtain ⟨hcz8_0, hcz8_1, hcz8_2, hcz8_3, hcz8_4⟩ := bc5 BK715.out; obtain ⟨hfz8_0, hfz8_1, hfz8_2, hfz8_3, hfz8_4⟩ := bf5 BK715.out))
  refine bodyPost_ret (results_tc rfl _ _ gb715 29 #[.bool t717, .bool t718, .bool t719, .bool t720, .bool t721] (0, 0) _ rfl (by (with_reducible repeat first | apply bd | apply be | apply ba); refine blk_put (cs := q5_ t717 t718 t719 t720 false) ?_ 4 _ rfl; (with_reducible repeat first | apply bd | apply be | apply ba); refine blk_put (cs := q5_ t717 t718 t719 false false) ?_ 3 _ rfl; (with_reducible repeat first | apply bd | apply be | apply ba); refine blk_put (cs := q5_ t717 t718 false false false) ?_ 2 _ rfl; (with_reducible repeat first | apply bd | apply be | apply ba); refine blk_put (cs := q5_ t717 false false false false) ?_ 1 _ rfl; (with_reducible repeat first | apply bd | apply be | apply ba); refine blk_put (cs := F5) ?_ 0 _ rfl; (with_reducible repeat first | apply bd | apply be | apply ba); exact BK715.out) Try.underlying29 rfl (by kernel_rfl)) rfl ?_
  exact ⟨by first | rfl | (simp [errW_none, errW_some] <;> rfl) | (simp [*, errW_none, errW_some] <;> rfl), bl1 HB.out GE715.out⟩
 ·rw [if_neg c4] at H
  have c4b0 : decide (a2 < 0) = false := decide_eq_false c4
  clear c4
  replace H := Option.bind_eq_some_iff.mp H
  obtain ⟨⟨t722, t723, t724, t725, t726, t727⟩, A90, H⟩ := H
  replace H : (some (t722, t723, t724, t725, t726, t727)) = some (r1, r2, r3, r4, r5, r6) := H
  have A9 := Aside0.mk A90
  clear A90
  simp only [Option.some.injEq, Prod.mk.injEq] at H
  obtain ⟨rfl, rfl, rfl, rfl, rfl, rfl⟩ := H
  go_enter Try.func20, Try.ntmps20
  go_wp2_with (first | ((with_reducible refine gate_dst (N := 7) rfl ?_); refine box_event ?hg (N := 7) ?hd (cs := F5) (t := 29) ?hr ?_; (case hd => rfl); (case hg => rfl); (case hr => first | (go_simp; done) | (go_simp; rfl)); intro gb715 hg w10 hbox hb; have n0_ := Aside0.mk (below_step (bl0 HB.out) hb); have n1_ := Aside0.mk (hbox); have n2_ := Aside0.mk ((by rw [hg]; exact (below_size (bl0 HB.out)) : w.heap.size ≤ gb715)); have n3_ := n2_; clear HB; have HB := n0_; have BK715 := n1_; have GW715 := n2_; have GE715 := n3_; clear n0_ n1_ n2_ n3_; clear hb hbox hg) | ((with_reducible refine gate_callee (f := 43) rfl ?_); refine goesL_ (some 22) rfl rfl Try.func43 (by kernel_rfl) rfl #[.int .i64 a0, .int .i64 a1, .bool false, .int .i64 0, .int .u64 (IntKind.u64.wrap (a2)), .bool false] rfl gl ?_; (with_reducible refine (annealref1_Pack.calls k a0 a1 false 0 (IntKind.u64.wrap (a2)) false t722 t723 t724 t725 t726 t727 _ A9.out).mono ?_); rintro e w11 ⟨rfl, hb⟩; refine ⟨_, rfl, ?_⟩; have n0_ := Aside0.mk (blk_below (g := gb715) (o := o5_ false false false false false 29) (bv BK715.out) hb); have n1_ := Aside0.mk (below_step (bl1 HB.out GE715.out) hb); clear BK715; clear HB; have BK715 := n0_; have HB := n1_; clear n0_ n1_; obtain ⟨hcz12_0, hcz12_1, hcz12_2, hcz12_3, hcz12_4⟩ := bc5 BK715.out; obtain ⟨hfz12_0, hfz12_1, hfz12_2, hfz12_3, hfz12_4⟩ := bf5 BK715.out))
  refine bodyPost_ret (results_tc rfl _ _ gb715 29 #[.bool t723, .bool t724, .bool t725, .bool t726, .bool t727] (0, 0) _ rfl (by (with_reducible repeat first | apply bd | apply be | apply ba); refine blk_put (cs := q5_ t723 t724 t725 t726 false) ?_ 4 _ rfl; (with_reducible repeat first | apply bd | apply be | apply ba); refine blk_put (cs := q5_ t723 t724 t725 false false) ?_ 3 _ rfl; (with_reducible repeat first | apply bd | apply be | apply ba); refine blk_put (cs := q5_ t723 t724 false false false) ?_ 2 _ rfl; (with_reducible repeat first | apply bd | apply be | apply ba); refine blk_put (cs := q5_ t723 false false false false) ?_ 1 _ rfl; (with_reducible repeat first | apply bd | apply be | apply ba); refine blk_put (cs := F5) ?_ 0 _ rfl; (with_reducible repeat first | apply bd | apply be | apply ba); exact BK715.out) Try.underlying29 rfl (by kernel_rfl)) rfl ?_
  exact ⟨by first | rfl | (simp [errW_none, errW_some] <;> rfl) | (simp [*, errW_none, errW_some] <;> rfl), bl1 HB.out GE715.out⟩

end Go.Proofs.Ytejkemahdincjaa.P

/- Entries of functions. -/
namespace Go.Proofs.Ytejkemahdincjaa.L
open Go.RowKit Go.Proofs.Ytejkemahdincjaa.P Go.Proofs.Ytejkemahdincjaa.Ek Go.Proofs.YtejkemahdincjaaW.PrintWords Go.Proofs.YtejkemahdincjaaW.PrintLast Go.Proofs.YtejkemahdincjaaW.PrintMore
noncomputable def format_Turn.c : Fc := mkFc [hI .i64, hI .u32] [hI .u32] (T := Int) (fun y => ((y, ()), ())) fun n x => format_Turn.f x.1.1 x.2.1.1
theorem format_Turn.ok : FcOk Try.prog 41 format_Turn.c := old_ok Try.func41 (by kernel_rfl) (by kernel_rfl) (by decide) (fun _ => giveR_ok (by decide) _) fun n x y h m w => (format_Turn.calls x.1.1 x.2.1.1 y w h).mono fun e w' he => ⟨he.1, he.2.below⟩
noncomputable def sum_Sub.cls : Cls := [(25, sum_Nans.c), (41, format_Turn.c), (10, sum_Add.c)]
theorem sum_Sub.clsOk : ClsOk Try.prog sum_Sub.cls := ClsOk.cons sum_Nans.ok (ClsOk.cons format_Turn.ok (ClsOk.cons sum_Add.ok (ClsOk.nil)))
noncomputable def sum_Sub.K (v : SV) : Option (Int × Bool × Bool × Bool × Bool × Bool) := (takeR [hI .u32, .agg [.b, .b, .b, .b, .b]] v).map (fun z => (z.1.1, z.2.1.1, z.2.1.2.1, z.2.1.2.2.1, z.2.1.2.2.2.1, z.2.1.2.2.2.2.1))
noncomputable def sum_Sub.cuts : List Nat := []
noncomputable def sum_Sub.f (k : Nat) (a0 : Int) (a1 : Int) (a2 : Int) (a3 : Int) : Option (Int × Bool × Bool × Bool × Bool × Bool) := evF Try.prog sum_Sub.cls Try.f12 sum_Sub.cuts k [.one (.i .i64 (.x a0)), .one (.i .i64 (.x a1)), .one (.i .u32 (.x a2)), .one (.i .u32 (.x a3))] sum_Sub.K
noncomputable def sum_Sub.c : Fc := mkFc [hI .i64, hI .i64, hI .u32, hI .u32] [hI .u32, .agg [.b, .b, .b, .b, .b]] (T := Int × Bool × Bool × Bool × Bool × Bool) (fun y => ((y.1, ()), (y.2.1, y.2.2.1, y.2.2.2.1, y.2.2.2.2.1, y.2.2.2.2.2, ()), ())) fun n x => sum_Sub.f n x.1.1 x.2.1.1 x.2.2.1.1 x.2.2.2.1.1
theorem sum_Sub.ok : FcOk Try.prog 12 sum_Sub.c := mkOk sum_Sub.clsOk Try.func12 (by kernel_rfl) (by kernel_rfl) (by decide) (fun _ => rfl) (fun _ _ => rfl)
noncomputable def anneallaw5_known.c : Fc := mkFc [] [hB] (T := Bool) (fun y => ((y, ()), ())) fun n x => anneallaw5_known.f n 
theorem anneallaw5_known.ok : FcOk Try.prog 14 anneallaw5_known.c := old_ok Try.func14 (by kernel_rfl) (by kernel_rfl) (by decide) (fun _ => giveR_ok (by decide) _) fun n x y h m w => (anneallaw5_known.calls n  y w h).mono fun e w' he => ⟨he.1, he.2⟩
noncomputable def anneallaw5_form.c : Fc := mkFc [hI .u8] [hI .i64] (T := Int) (fun y => ((y, ()), ())) fun n x => anneallaw5_form.f x.1.1
theorem anneallaw5_form.ok : FcOk Try.prog 15 anneallaw5_form.c := old_ok Try.func15 (by kernel_rfl) (by kernel_rfl) (by decide) (fun _ => giveR_ok (by decide) _) fun n x y h m w => (anneallaw5_form.calls x.1.1 y w h).mono fun e w' he => ⟨he.1, he.2⟩
noncomputable def annealref1_FromInt.c : Fc := mkFc [hI .i64, hI .i64, hI .i64] [hI .u32, .agg [.b, .b, .b, .b, .b]] (T := Int × Bool × Bool × Bool × Bool × Bool) (fun y => ((y.1, ()), (y.2.1, y.2.2.1, y.2.2.2.1, y.2.2.2.2.1, y.2.2.2.2.2, ()), ())) fun n x => annealref1_FromInt.f n x.1.1 x.2.1.1 x.2.2.1.1
theorem annealref1_FromInt.ok : FcOk Try.prog 20 annealref1_FromInt.c := old_ok Try.func20 (by kernel_rfl) (by kernel_rfl) (by decide) (fun _ => giveR_ok (by decide) _) fun n x y h m w => (annealref1_FromInt.calls n x.1.1 x.2.1.1 x.2.2.1.1 y.1 y.2.1 y.2.2.1 y.2.2.2.1 y.2.2.2.2.1 y.2.2.2.2.2 w h).mono fun e w' he => ⟨he.1, he.2⟩
noncomputable def annealref1_Add.c : Fc := mkFc [hI .i64, hI .i64, hI .u32, hI .u32] [hI .u32, .agg [.b, .b, .b, .b, .b]] (T := Int × Bool × Bool × Bool × Bool × Bool) (fun y => ((y.1, ()), (y.2.1, y.2.2.1, y.2.2.2.1, y.2.2.2.2.1, y.2.2.2.2.2, ()), ())) fun n x => annealref1_Add.f n x.1.1 x.2.1.1 x.2.2.1.1 x.2.2.2.1.1
theorem annealref1_Add.ok : FcOk Try.prog 11 annealref1_Add.c := old_ok Try.func11 (by kernel_rfl) (by kernel_rfl) (by decide) (fun _ => giveR_ok (by decide) _) fun n x y h m w => (annealref1_Add.calls n x.1.1 x.2.1.1 x.2.2.1.1 x.2.2.2.1.1 y.1 y.2.1 y.2.2.1 y.2.2.2.1 y.2.2.2.2.1 y.2.2.2.2.2 w h).mono fun e w' he => ⟨he.1, he.2⟩
noncomputable def anneallaw5_FmaParts.cls : Cls := [(14, anneallaw5_known.c), (15, anneallaw5_form.c), (8, annealseat_Num.c), (20, annealref1_FromInt.c), (21, prod_Mul.c), (22, annealref1_Zero.c), (18, prod_Fma.c), (11, annealref1_Add.c)]
theorem anneallaw5_FmaParts.clsOk : ClsOk Try.prog anneallaw5_FmaParts.cls := ClsOk.cons anneallaw5_known.ok (ClsOk.cons anneallaw5_form.ok (ClsOk.cons annealseat_Num.ok (ClsOk.cons annealref1_FromInt.ok (ClsOk.cons prod_Mul.ok (ClsOk.cons annealref1_Zero.ok (ClsOk.cons prod_Fma.ok (ClsOk.cons annealref1_Add.ok (ClsOk.nil))))))))
noncomputable def anneallaw5_FmaParts.K (v : SV) : Option (Bool) := (takeR [hB] v).map (fun z => (z.1.1))
noncomputable def anneallaw5_FmaParts.cuts : List Nat := []
noncomputable def anneallaw5_FmaParts.f (k : Nat) (a0 : Int) (a1 : Int) (a2 : Int) (a3 : Int) : Option (Bool) := evF Try.prog anneallaw5_FmaParts.cls Try.f5 anneallaw5_FmaParts.cuts k [.one (.i .u8 (.x a0)), .one (.i .u8 (.x a1)), .one (.i .u32 (.x a2)), .one (.i .u32 (.x a3))] anneallaw5_FmaParts.K
noncomputable def anneallaw5_FmaParts.c : Fc := mkFc [hI .u8, hI .u8, hI .u32, hI .u32] [hB] (T := Bool) (fun y => ((y, ()), ())) fun n x => anneallaw5_FmaParts.f n x.1.1 x.2.1.1 x.2.2.1.1 x.2.2.2.1.1
theorem anneallaw5_FmaParts.ok : FcOk Try.prog 5 anneallaw5_FmaParts.c := mkOk anneallaw5_FmaParts.clsOk Try.func5 (by kernel_rfl) (by kernel_rfl) (by decide) (fun _ => rfl) (fun _ _ => rfl)
/- Functions' trees, printed by a tool of mine out of the reckoner; Lean's kernel checks each. -/
set_option maxRecDepth 100000
theorem sum_Sub.eq (n0 : Nat) (a0 : Int) (a1 : Int) (a2 : Int) (a3 : Int) : sum_Sub.f n0 a0 a1 a2 a3 = ((sum_Nans.f n0 a0 [a2, a3]).bind fun t0 => (if Prod.snd (Prod.snd (Prod.snd (Prod.snd (Prod.snd (Prod.snd t0))))) = true then (some ((Prod.fst t0, Prod.fst (Prod.snd t0), Prod.fst (Prod.snd (Prod.snd t0)), Prod.fst (Prod.snd (Prod.snd (Prod.snd t0))), Prod.fst (Prod.snd (Prod.snd (Prod.snd (Prod.snd t0)))), Prod.fst (Prod.snd (Prod.snd (Prod.snd (Prod.snd (Prod.snd t0)))))))) else ((format_Turn.f a0 a3).bind fun t1 => ((Ytejkemahdincjaa.L.sum_Add.f n0 a0 a1 a2 t1).bind fun t2 => (some ((Prod.fst t2, Prod.fst (Prod.snd t2), Prod.fst (Prod.snd (Prod.snd t2)), Prod.fst (Prod.snd (Prod.snd (Prod.snd t2))), Prod.fst (Prod.snd (Prod.snd (Prod.snd (Prod.snd t2)))), Prod.snd (Prod.snd (Prod.snd (Prod.snd (Prod.snd t2))))))))))) := by kernel_rfl
theorem anneallaw5_FmaParts.eq (n0 : Nat) (a0 : Int) (a1 : Int) (a2 : Int) (a3 : Int) : anneallaw5_FmaParts.f n0 a0 a1 a2 a3 = ((anneallaw5_known.f n0).bind fun t0 => (if t0 = true then ((anneallaw5_form.f a0).bind fun t1 => ((Ytejkemahdincjaa.L.annealseat_Num.f n0 t1 a2).bind fun t2 => ((Ytejkemahdincjaa.L.annealseat_Num.f n0 t1 a3).bind fun t3 => ((annealref1_FromInt.f n0 t1 (wrap64 (Int.tmod a1 5)) 1).bind fun t4 => ((Ytejkemahdincjaa.L.prod_Mul.f n0 t1 (wrap64 (Int.tmod a1 5)) t2 t3).bind fun t5 => ((annealref1_Zero.f t1 true).bind fun t6 => ((annealref1_Zero.f t1 !bits BinOp.and IntKind.u32 (bits BinOp.xor IntKind.u32 t2 t3) t6 == 0).bind fun t7 => ((Ytejkemahdincjaa.L.prod_Fma.f n0 t1 (wrap64 (Int.tmod a1 5)) t2 t3 t7).bind fun t8 => ((annealref1_Add.f n0 t1 (wrap64 (Int.tmod a1 5)) t2 t3).bind fun t9 => ((Ytejkemahdincjaa.L.prod_Fma.f n0 t1 (wrap64 (Int.tmod a1 5)) (Prod.fst t4) t2 t3).bind fun t10 => (if Prod.fst t5 = Prod.fst t8 then (if (Prod.fst (Prod.snd t5) == Prod.fst (Prod.snd t8) && (Prod.fst (Prod.snd (Prod.snd t5)) == Prod.fst (Prod.snd (Prod.snd t8)) && (Prod.fst (Prod.snd (Prod.snd (Prod.snd t5))) == Prod.fst (Prod.snd (Prod.snd (Prod.snd t8))) && (Prod.fst (Prod.snd (Prod.snd (Prod.snd (Prod.snd t5)))) == Prod.fst (Prod.snd (Prod.snd (Prod.snd (Prod.snd t8)))) && (Prod.snd (Prod.snd (Prod.snd (Prod.snd (Prod.snd t5)))) == Prod.snd (Prod.snd (Prod.snd (Prod.snd (Prod.snd t8)))) && true))))) = true then (if Prod.fst t9 = Prod.fst t10 then (some (Prod.fst (Prod.snd t9) == Prod.fst (Prod.snd t10) && (Prod.fst (Prod.snd (Prod.snd t9)) == Prod.fst (Prod.snd (Prod.snd t10)) && (Prod.fst (Prod.snd (Prod.snd (Prod.snd t9))) == Prod.fst (Prod.snd (Prod.snd (Prod.snd t10))) && (Prod.fst (Prod.snd (Prod.snd (Prod.snd (Prod.snd t9)))) == Prod.fst (Prod.snd (Prod.snd (Prod.snd (Prod.snd t10)))) && (Prod.snd (Prod.snd (Prod.snd (Prod.snd (Prod.snd t9)))) == Prod.snd (Prod.snd (Prod.snd (Prod.snd (Prod.snd t10)))) && true)))))) else (some (false))) else (some (false))) else (some (false))))))))))))) else (some (false)))) := by kernel_rfl
end Go.Proofs.Ytejkemahdincjaa.L

-- Printed by a program of this session's out of Lean's print of the translation; Lean checks it.
namespace Go.Proofs.Ytejkemahdincjaa.P
open Go.RowKit Go.Proofs.YtejkemahdincjaaW.PrintWords Go.Proofs.YtejkemahdincjaaW.PrintLast Go.Proofs.YtejkemahdincjaaW.PrintMore
attribute [local go_sem] max2_int min2_int max_two min_two max_three min_three max_four min_four

-- NEED 3
/-! ### sum_Sub: function 12 -/
def sum_Sub.f (k : Nat) (a0 : Int) (a1 : Int) (a2 : Int) (a3 : Int) : Option (Int × Bool × Bool × Bool × Bool × Bool) := (sum_Nans.f k a0 (([a2, a3] : List Int))).bind fun bt275 => (if bt275.2.2.2.2.2.2 = true then (some (bt275.1, bt275.2.1, bt275.2.2.1, bt275.2.2.2.1, bt275.2.2.2.2.1, bt275.2.2.2.2.2.1)) else ((format_Turn.f a0 a3).bind fun t283 => ((sum_Add.f k a0 a1 a2 t283).bind fun bt284 => (some (bt284.1, bt284.2.1, bt284.2.2.1, bt284.2.2.2.1, bt284.2.2.2.2.1, bt284.2.2.2.2.2)))))

attribute [local go_sem high] eqA29
-- NEED 3
/-! ### anneallaw5_FmaParts: function 5 -/
noncomputable def anneallaw5_FmaParts.f (k : Nat) (a0 : Int) (a1 : Int) (a2 : Int) (a3 : Int) : Option (Bool) := (anneallaw5_known.f k).bind fun t728 => (if t728 = true then ((anneallaw5_form.f a0).bind fun t729 => ((annealseat_Num.f t729 a2).bind fun t730 => ((annealseat_Num.f t729 a3).bind fun t731 => ((annealref1_FromInt.f k t729 (wrap64 (Int.tmod a1 5)) 1).bind fun bt732 => ((prod_Mul.f k t729 (wrap64 (Int.tmod a1 5)) t730 t731).bind fun bt739 => ((annealref1_Zero.f t729 true).bind fun t746 => ((annealref1_Zero.f t729 ((Go.bits .and .u32 (Go.bits .xor .u32 t730 t731) t746) != 0)).bind fun t747 => ((prod_Fma.f k t729 (wrap64 (Int.tmod a1 5)) t730 t731 t747).bind fun bt748 => ((annealref1_Add.f k t729 (wrap64 (Int.tmod a1 5)) t730 t731).bind fun bt755 => ((prod_Fma.f k t729 (wrap64 (Int.tmod a1 5)) bt732.1 t730 t731).bind fun bt762 => (if bt739.1 = bt748.1 then (if (bt739.2.1 == bt748.2.1 && (bt739.2.2.1 == bt748.2.2.1 && (bt739.2.2.2.1 == bt748.2.2.2.1 && (bt739.2.2.2.2.1 == bt748.2.2.2.2.1 && (bt739.2.2.2.2.2 == bt748.2.2.2.2.2))))) = true then (if bt755.1 = bt762.1 then (some (bt755.2.1 == bt762.2.1 && (bt755.2.2.1 == bt762.2.2.1 && (bt755.2.2.2.1 == bt762.2.2.2.1 && (bt755.2.2.2.2.1 == bt762.2.2.2.2.1 && (bt755.2.2.2.2.2 == bt762.2.2.2.2.2)))))) else (some false)) else (some false)) else (some false)))))))))))) else (some false))
def anneallaw5_FmaParts.Pure : Prop := ∀ (a0 : Int) (a1 : Int) (a2 : Int) (a3 : Int), (Lit.int .u8 a0).wf = true → (Lit.int .u8 a1).wf = true → (Lit.int .u32 a2).wf = true → (Lit.int .u32 a3).wf = true → ∃ k, anneallaw5_FmaParts.f k a0 a1 a2 a3 = some true

/- What the reckoner tells of printed functions. -/
set_option maxRecDepth 100000
set_option maxHeartbeats 4000000 in
theorem sum_Sub.le {k n : Nat} (hk : k ≤ n) {a0 : Int} {a1 : Int} {a2 : Int} {a3 : Int} : LeO (sum_Sub.f k a0 a1 a2 a3) (L.sum_Sub.f n a0 a1 a2 a3) := by
 unfold sum_Sub.f
 rw [L.sum_Sub.eq]
 try simp only [Bool.and_true]
 repeat' first
  |(with_reducible exact LeO.refl _)
  |exact LeO.none _
  |(with_reducible exact fun r h => at_rounds (sum_Nans.mono _ _) hk h)
  |(with_reducible exact sum_Add.le hk)
  |(with_reducible refine LeO.bind ?_ (fun _ => ?_))
  |(with_reducible refine LeO.ite3 Iff.rfl (fun _ => ?_) (fun _ => ?_))
  |exact fun r h => at_rounds (sum_Nans.mono _ _) hk h
  |exact sum_Add.le hk
  |exact LeO.refl _
  |(with_reducible refine LeO.pos (by assumption) ?_)
  |(with_reducible refine LeO.neg (by assumption) ?_)
  |(with_reducible refine LeO.posl (by assumption) ?_)
  |(with_reducible refine LeO.negl (by assumption) ?_)
  |(with_reducible refine LeO.ite3 (by omega) (fun _ => ?_) (fun _ => ?_))
theorem sum_Sub.calls (k : Nat) (a0 : Int) (a1 : Int) (a2 : Int) (a3 : Int) (r1 : Int) (r2 : Bool) (r3 : Bool) (r4 : Bool) (r5 : Bool) (r6 : Bool) (w : World) (h : sum_Sub.f k a0 a1 a2 a3 = some (r1, r2, r3, r4, r5, r6)) :
  Calls Try.prog 12 #[.int .i64 a0, .int .i64 a1, .int .u32 a2, .int .u32 a3] w fun e w' => e = .returned (.tuple #[.int .u32 r1, .agg #[.bool r2, .bool r3, .bool r4, .bool r5, .bool r6]]) ∧ Below w.heap.size w w' :=
 Go.Proofs.Ytejkemahdincjaa.Ek.calls_of L.sum_Sub.ok k ((a0, ()), (a1, ()), (a2, ()), (a3, ()), ()) (r1, r2, r3, r4, r5, r6) rfl (sum_Sub.le (Nat.le_refl _) _ h) w
set_option maxHeartbeats 4000000 in
theorem anneallaw5_FmaParts.le {k n : Nat} (hk : k = n) {a0 : Int} {a1 : Int} {a2 : Int} {a3 : Int} : LeO (anneallaw5_FmaParts.f k a0 a1 a2 a3) (L.anneallaw5_FmaParts.f n a0 a1 a2 a3) := by
 subst hk
 have hk := Nat.le_refl k
 unfold anneallaw5_FmaParts.f
 rw [L.anneallaw5_FmaParts.eq]
 try simp only [Bool.and_true]
 repeat' first
  |(with_reducible exact LeO.refl _)
  |exact LeO.none _
  |(with_reducible exact fun r h => at_rounds (anneallaw5_known.mono) hk h)
  |(with_reducible exact annealseat_Num.le hk)
  |(with_reducible exact fun r h => at_rounds (annealref1_FromInt.mono _ _ _) hk h)
  |(with_reducible exact prod_Mul.le hk)
  |(with_reducible exact prod_Fma.le hk)
  |(with_reducible refine LeO.bind ?_ (fun _ => ?_))
  |(with_reducible refine LeO.ite3 Iff.rfl (fun _ => ?_) (fun _ => ?_))
  |exact fun r h => at_rounds (anneallaw5_known.mono) hk h
  |exact annealseat_Num.le hk
  |exact fun r h => at_rounds (annealref1_FromInt.mono _ _ _) hk h
  |exact prod_Mul.le hk
  |exact prod_Fma.le hk
  |exact LeO.refl _
  |(with_reducible refine LeO.pos (by assumption) ?_)
  |(with_reducible refine LeO.neg (by assumption) ?_)
  |(with_reducible refine LeO.posl (by assumption) ?_)
  |(with_reducible refine LeO.negl (by assumption) ?_)
  |(with_reducible refine LeO.ite3 (by omega) (fun _ => ?_) (fun _ => ?_))
theorem anneallaw5_FmaParts.calls (k : Nat) (a0 : Int) (a1 : Int) (a2 : Int) (a3 : Int) (r : Bool) (w : World) (h : anneallaw5_FmaParts.f k a0 a1 a2 a3 = some r) :
  Calls Try.prog 5 #[.int .u8 a0, .int .u8 a1, .int .u32 a2, .int .u32 a3] w fun e w' => e = .returned (.bool r) ∧ Below w.heap.size w w' :=
 Go.Proofs.Ytejkemahdincjaa.Ek.calls_of L.anneallaw5_FmaParts.ok k ((a0, ()), (a1, ()), (a2, ()), (a3, ()), ()) r rfl (anneallaw5_FmaParts.le (rfl) _ h) w
theorem anneallaw5_FmaParts.walk (P : anneallaw5_FmaParts.Pure) (a0 : Int) (a1 : Int) (a2 : Int) (a3 : Int) (w : World) (w0 : (Lit.int .u8 a0).wf = true) (w1 : (Lit.int .u8 a1).wf = true) (w2 : (Lit.int .u32 a2).wf = true) (w3 : (Lit.int .u32 a3).wf = true) :
  Calls Try.prog 5 #[.int .u8 a0, .int .u8 a1, .int .u32 a2, .int .u32 a3] w fun e w' => e = .returned (.bool true) ∧ Below w.heap.size w w' := by
 obtain ⟨k, h⟩ := P a0 a1 a2 a3 w0 w1 w2 w3
 refine (anneallaw5_FmaParts.calls k a0 a1 a2 a3 true w h).mono ?_
 rintro e w' ⟨rfl, hd⟩
 exact ⟨rfl, hd⟩
end Go.Proofs.Ytejkemahdincjaa.P

/- Functions' trees, printed by a tool of mine out of the reckoner; Lean's kernel checks each. -/
namespace Go.Proofs.Ytejkemahdincjaa.E
open Go.RowKit Go.Proofs.Ytejkemahdincjaa.P Go.Proofs.Ytejkemahdincjaa.Ek Go.Proofs.YtejkemahdincjaaW.PrintWords Go.Proofs.YtejkemahdincjaaW.PrintLast Go.Proofs.YtejkemahdincjaaW.PrintMore
set_option maxRecDepth 100000
theorem annealref1_spread.eq (n0 : Nat) (a0 : Bool) (a1 : Int) (a2 : Int) : annealref1_spread.f n0 a0 a1 a2 = (if 0 ≤ Int.tmod (wrap64 (a1 + 298)) 64 then (if 0 ≤ wrap64 (Int.tdiv (wrap64 (a1 + 298)) 64) then (if wrap64 (Int.tdiv (wrap64 (a1 + 298)) 64) < 10 then (if 0 < Int.tmod (wrap64 (a1 + 298)) 64 then (if wrap64 (Int.tdiv (wrap64 (a1 + 298)) 64) < 9 then (if 0 ≤ wrap64 (64 - Int.tmod (wrap64 (a1 + 298)) 64) then (if 0 ≤ wrap64 (wrap64 (Int.tdiv (wrap64 (a1 + 298)) 64) + 1) then (if wrap64 (wrap64 (Int.tdiv (wrap64 (a1 + 298)) 64) + 1) < 10 then (some ((a0, List.set (List.set (List.replicate 10 0) (Int.toNat (wrap64 (Int.tdiv (wrap64 (a1 + 298)) 64))) (shl IntKind.u64 a2 (Int.tmod (wrap64 (a1 + 298)) 64))) (Int.toNat (wrap64 (wrap64 (Int.tdiv (wrap64 (a1 + 298)) 64) + 1))) (shr IntKind.u64 a2 (wrap64 (64 - Int.tmod (wrap64 (a1 + 298)) 64)))))) else none) else none) else none) else (some ((a0, List.set (List.replicate 10 0) (Int.toNat (wrap64 (Int.tdiv (wrap64 (a1 + 298)) 64))) (shl IntKind.u64 a2 (Int.tmod (wrap64 (a1 + 298)) 64)))))) else (some ((a0, List.set (List.replicate 10 0) (Int.toNat (wrap64 (Int.tdiv (wrap64 (a1 + 298)) 64))) (shl IntKind.u64 a2 (Int.tmod (wrap64 (a1 + 298)) 64)))))) else none) else none) else none) := by kernel_rfl
noncomputable def annealref1_below.l2 (k n0 : Nat) (x0 : Int) (x1 : Bool) (x2 : List Int) (x3 : Bool) (x4 : List Int) := evIn Try.prog annealref1_below.cls Try.f83 annealref1_below.cuts [1, 0, 1, 0] [n0] k ⟨[(5, (.pv (.one (.i .i64 (.x x0))))), (3, (.pv (.one (.p 1 0)))), (2, (.pv (.one (.p 0 0))))], [(1, (62, [(.c (.b (.q x1))), (.a .u64 x2 10)])), (0, (62, [(.c (.b (.q x3))), (.a .u64 x4 10)]))], 2⟩ annealref1_below.K
theorem annealref1_below.eq (n0 : Nat) (a0_0 : Bool) (a0_1 : List Int) (a1_0 : Bool) (a1_1 : List Int) : annealref1_below.f n0 a0_0 a0_1 a1_0 a1_1 = (annealref1_below.l2 n0 n0 (Int.ofNat 9) (a1_0) (a1_1) (a0_0) (a0_1)) := by kernel_rfl
theorem annealref1_below.l2_eq (k n0 : Nat) (x0 : Int) (x1 : Bool) (x2 : List Int) (x3 : Bool) (x4 : List Int) : annealref1_below.l2 (k + 1) n0 x0 x1 x2 x3 x4 = (if 0 ≤ x0 then (if 0 ≤ x0 then (if x0 < 10 then (if 0 ≤ x0 then (if x0 < 10 then (if rd x4 x0 = rd x2 x0 then (annealref1_below.l2 k n0 (wrap64 (x0 - 1)) (x1) (x2) (x3) (x4)) else (if 0 ≤ x0 then (if x0 < 10 then (if 0 ≤ x0 then (if x0 < 10 then (some (decide (rd x4 x0 < rd x2 x0))) else none) else none) else none) else none)) else none) else none) else none) else none) else (some (false))) := by kernel_rfl
noncomputable def annealref1_minus.l5 (k n0 : Nat) (x0 : Int) (x1 : Int) (x2 : Bool) (x3 : List Int) (x4 : Bool) (x5 : List Int) (x6 : Bool) (x7 : List Int) := evIn Try.prog annealref1_minus.cls Try.f80 annealref1_minus.cuts [1, 1, 1, 0, 1, 0] [n0] k ⟨[(6, (.pv (.one (.i .i64 (.x x0))))), (5, (.pv (.one (.i .u64 (.x x1))))), (4, (.pv (.one (.p 2 0)))), (3, (.pv (.one (.p 1 0)))), (2, (.pv (.one (.p 0 0))))], [(2, (62, [(.c (.b (.q x2))), (.a .u64 x3 10)])), (1, (62, [(.c (.b (.q x4))), (.a .u64 x5 10)])), (0, (62, [(.c (.b (.q x6))), (.a .u64 x7 10)]))], 3⟩ annealref1_minus.K
theorem annealref1_minus.eq (n0 : Nat) (a0_0 : Bool) (a0_1 : List Int) (a1_0 : Bool) (a1_1 : List Int) : annealref1_minus.f n0 a0_0 a0_1 a1_0 a1_1 = ((annealref1_below.f n0 a0_0 a0_1 a1_0 a1_1).bind fun t0 => (if t0 = true then (annealref1_minus.l5 n0 n0 (Int.ofNat 0) (Int.ofNat 0) (false) (0 :: List.replicate 9 0) (a0_0) (a0_1) (a1_0) (a1_1)) else (annealref1_minus.l5 n0 n0 (Int.ofNat 0) (Int.ofNat 0) (false) (0 :: List.replicate 9 0) (a1_0) (a1_1) (a0_0) (a0_1)))) := by kernel_rfl
theorem annealref1_minus.l5_eq (k n0 : Nat) (x0 : Int) (x1 : Int) (x2 : Bool) (x3 : List Int) (x4 : Bool) (x5 : List Int) (x6 : Bool) (x7 : List Int) : annealref1_minus.l5 (k + 1) n0 x0 x1 x2 x3 x4 x5 x6 x7 = (if x0 < 10 then (if 0 ≤ x0 then (if x0 < 10 then (if 0 ≤ x0 then (if x0 < 10 then (if 0 ≤ x0 then (if x0 < 10 then (if 0 ≤ x0 then (if x0 < 10 then (if rd x7 x0 < rd x5 x0 then (if 0 ≤ x0 then (if x0 < 10 then (annealref1_minus.l5 k n0 (wrap64 (x0 + 1)) (Int.ofNat 1) (x2) (x3) (x4) (x5) (x6) (List.set x7 (Int.toNat x0) (IntKind.wrap IntKind.u64 (IntKind.wrap IntKind.u64 (rd x7 x0 - rd x5 x0) - x1)))) else none) else none) else (if IntKind.wrap IntKind.u64 (rd x7 x0 - rd x5 x0) < x1 then (if 0 ≤ x0 then (if x0 < 10 then (annealref1_minus.l5 k n0 (wrap64 (x0 + 1)) (Int.ofNat 1) (x2) (x3) (x4) (x5) (x6) (List.set x7 (Int.toNat x0) (IntKind.wrap IntKind.u64 (IntKind.wrap IntKind.u64 (rd x7 x0 - rd x5 x0) - x1)))) else none) else none) else (if 0 ≤ x0 then (if x0 < 10 then (annealref1_minus.l5 k n0 (wrap64 (x0 + 1)) (Int.ofNat 0) (x2) (x3) (x4) (x5) (x6) (List.set x7 (Int.toNat x0) (IntKind.wrap IntKind.u64 (IntKind.wrap IntKind.u64 (rd x7 x0 - rd x5 x0) - x1)))) else none) else none))) else none) else none) else none) else none) else none) else none) else none) else none) else (some ((x6, x7)))) := by kernel_rfl
noncomputable def annealref1_plus.l5 (k n0 : Nat) (x0 : Int) (x1 : Int) (x2 : Bool) (x3 : List Int) (x4 : Bool) (x5 : List Int) (x6 : Bool) (x7 : List Int) := evIn Try.prog annealref1_plus.cls Try.f68 annealref1_plus.cuts [1, 1, 1, 0, 1, 0] [n0] k ⟨[(6, (.pv (.one (.i .i64 (.x x0))))), (5, (.pv (.one (.i .u64 (.x x1))))), (4, (.pv (.one (.p 2 0)))), (3, (.pv (.one (.p 1 0)))), (2, (.pv (.one (.p 0 0))))], [(2, (62, [(.c (.b (.q x2))), (.a .u64 x3 10)])), (1, (62, [(.c (.b (.q x4))), (.a .u64 x5 10)])), (0, (62, [(.c (.b (.q x6))), (.a .u64 x7 10)]))], 3⟩ annealref1_plus.K
theorem annealref1_plus.eq (n0 : Nat) (a0_0 : Bool) (a0_1 : List Int) (a1_0 : Bool) (a1_1 : List Int) : annealref1_plus.f n0 a0_0 a0_1 a1_0 a1_1 = (if (a0_0 == a1_0) = true then (annealref1_plus.l5 n0 n0 (Int.ofNat 0) (Int.ofNat 0) (false) (0 :: List.replicate 9 0) (a1_0) (a1_1) (a0_0) (a0_1)) else ((annealref1_minus.f n0 a0_0 a0_1 a1_0 a1_1).bind fun t0 => (some ((Prod.fst t0, Prod.snd t0))))) := by kernel_rfl
theorem annealref1_plus.l5_eq (k n0 : Nat) (x0 : Int) (x1 : Int) (x2 : Bool) (x3 : List Int) (x4 : Bool) (x5 : List Int) (x6 : Bool) (x7 : List Int) : annealref1_plus.l5 (k + 1) n0 x0 x1 x2 x3 x4 x5 x6 x7 = (if x0 < 10 then (if 0 ≤ x0 then (if x0 < 10 then (if 0 ≤ x0 then (if x0 < 10 then (if 0 ≤ x0 then (if x0 < 10 then (if IntKind.wrap IntKind.u64 (rd x7 x0 + rd x5 x0) < rd x7 x0 then (if 0 ≤ x0 then (if x0 < 10 then (annealref1_plus.l5 k n0 (wrap64 (x0 + 1)) (Int.ofNat 1) (x2) (x3) (x4) (x5) (x6) (List.set x7 (Int.toNat x0) (IntKind.wrap IntKind.u64 (IntKind.wrap IntKind.u64 (rd x7 x0 + rd x5 x0) + x1)))) else none) else none) else (if IntKind.wrap IntKind.u64 (IntKind.wrap IntKind.u64 (rd x7 x0 + rd x5 x0) + x1) < IntKind.wrap IntKind.u64 (rd x7 x0 + rd x5 x0) then (if 0 ≤ x0 then (if x0 < 10 then (annealref1_plus.l5 k n0 (wrap64 (x0 + 1)) (Int.ofNat 1) (x2) (x3) (x4) (x5) (x6) (List.set x7 (Int.toNat x0) (IntKind.wrap IntKind.u64 (IntKind.wrap IntKind.u64 (rd x7 x0 + rd x5 x0) + x1)))) else none) else none) else (if 0 ≤ x0 then (if x0 < 10 then (annealref1_plus.l5 k n0 (wrap64 (x0 + 1)) (Int.ofNat 0) (x2) (x3) (x4) (x5) (x6) (List.set x7 (Int.toNat x0) (IntKind.wrap IntKind.u64 (IntKind.wrap IntKind.u64 (rd x7 x0 + rd x5 x0) + x1)))) else none) else none))) else none) else none) else none) else none) else none) else none) else (some ((x6, x7)))) := by kernel_rfl
theorem annealref1_nought.eq (n0 : Nat) (a0_0 : Bool) (a0_1 : List Int) : annealref1_nought.f n0 a0_0 a0_1 = (some (a0_1 ++ [] == List.replicate 10 0 ++ [])) := by kernel_rfl
noncomputable def annealref1_rounded.l2 (k n0 : Nat) (x0 : Int) (x1 : Int) (x2 : Int) (x3 : Bool) (x4 : Bool) (x5 : Bool) (x6 : Bool) (x7 : Bool) (x8 : Bool) (x9 : List Int) := evIn Try.prog annealref1_rounded.cls Try.f70 annealref1_rounded.cuts [1, 1, 0, 0] [n0] k ⟨[(8, (.pv (.one (.i .i64 (.x x0))))), (7, (.pv (.one (.p 1 0)))), (5, (.pv (.one (.p 0 0)))), (1, (.pv (.one (.i .i64 (.x x1))))), (0, (.pv (.one (.i .i64 (.x x2)))))], [(1, (29, [(.c (.b (.q x3))), (.c (.b (.q x4))), (.c (.b (.q x5))), (.c (.b (.q x6))), (.c (.b (.q x7)))])), (0, (62, [(.c (.b (.q x8))), (.a .u64 x9 10)]))], 2⟩ annealref1_rounded.K
noncomputable def annealref1_rounded.l19 (k n0 : Nat) (x0 : Int) (x1 : Bool) (x2 : Int) (x3 : Int) (x4 : Int) (x5 : Int) (x6 : Int) (x7 : Bool) (x8 : Bool) (x9 : Bool) (x10 : Bool) (x11 : Bool) (x12 : Bool) (x13 : List Int) := evIn Try.prog annealref1_rounded.cls Try.f70 annealref1_rounded.cuts [1, 1, 1, 1, 1, 1, 1, 0, 1, 0, 1, 1, 1, 1, 1, 1, 1, 1, 0] [n0] k ⟨[(15, (.pv (.one (.i .i64 (.x x0))))), (12, (.pv (.one (.b (.q x1))))), (11, (.pv (.one (.i .i64 (.x x2))))), (10, (.pv (.one (.i .u64 (.x x3))))), (8, (.pv (.one (.i .i64 (.x x4))))), (7, (.pv (.one (.p 1 0)))), (5, (.pv (.one (.p 0 0)))), (1, (.pv (.one (.i .i64 (.x x5))))), (0, (.pv (.one (.i .i64 (.x x6)))))], [(1, (29, [(.c (.b (.q x7))), (.c (.b (.q x8))), (.c (.b (.q x9))), (.c (.b (.q x10))), (.c (.b (.q x11)))])), (0, (62, [(.c (.b (.q x12))), (.a .u64 x13 10)]))], 2⟩ annealref1_rounded.K
theorem annealref1_rounded.eq (n0 : Nat) (a0 : Int) (a1 : Int) (a2_0 : Bool) (a2_1 : List Int) : annealref1_rounded.f n0 a0 a1 a2_0 a2_1 = (annealref1_rounded.l2 n0 n0 (Int.ofNat 9) (a1) (a0) (false) (false) (false) (false) (false) (a2_0) (a2_1)) := by kernel_rfl
theorem annealref1_rounded.l2_eq (k n0 : Nat) (x0 : Int) (x1 : Int) (x2 : Int) (x3 : Bool) (x4 : Bool) (x5 : Bool) (x6 : Bool) (x7 : Bool) (x8 : Bool) (x9 : List Int) : annealref1_rounded.l2 (k + 1) n0 x0 x1 x2 x3 x4 x5 x6 x7 x8 x9 = (if 0 ≤ x0 then (if x0 < 10 then (if rd x9 x0 = 0 then (annealref1_rounded.l2 k n0 (wrap64 (x0 - 1)) (x1) (x2) (x3) (x4) (x5) (x6) (x7) (x8) (x9)) else (if 0 ≤ x0 then (if x0 < 10 then ((annealref1_Len.f n0 (rd x9 x0)).bind fun t0 => (if 0 ≤ x0 then (if x0 < 10 then (if 0 < x0 then (if 0 ≤ wrap64 (64 - t0) then (if 0 ≤ wrap64 (x0 - 1) then (if wrap64 (x0 - 1) < 10 then (if 0 ≤ t0 then (if t0 = 64 then (if 0 ≤ x0 then (if x0 < 10 then (if 0 ≤ wrap64 (x0 - 1) then (if wrap64 (x0 - 1) < 10 then (if t0 < 64 then (if 0 ≤ wrap64 (64 - t0) then (annealref1_rounded.l19 n0 n0 (Int.ofNat 0) (!(shl IntKind.u64 (rd x9 (wrap64 (x0 - 1))) (wrap64 (64 - t0)) == 0)) (wrap64 (wrap64 (wrap64 (64 * x0) - 298) - wrap64 (64 - t0))) (rd x9 x0) (x0) (x1) (x2) (x3) (x4) (x5) (x6) (x7) (x8) (x9)) else none) else (annealref1_rounded.l19 n0 n0 (Int.ofNat 0) (!(rd x9 (wrap64 (x0 - 1)) == 0)) (wrap64 (wrap64 (wrap64 (64 * x0) - 298) - wrap64 (64 - t0))) (rd x9 x0) (x0) (x1) (x2) (x3) (x4) (x5) (x6) (x7) (x8) (x9))) else none) else none) else none) else none) else (if 0 ≤ wrap64 (x0 - 1) then (if wrap64 (x0 - 1) < 10 then (if t0 < 64 then (if 0 ≤ wrap64 (64 - t0) then (annealref1_rounded.l19 n0 n0 (Int.ofNat 0) (!(shl IntKind.u64 (rd x9 (wrap64 (x0 - 1))) (wrap64 (64 - t0)) == 0)) (wrap64 (wrap64 (wrap64 (64 * x0) - 298) - wrap64 (64 - t0))) (bits BinOp.or IntKind.u64 (shl IntKind.u64 (rd x9 x0) (wrap64 (64 - t0))) (shr IntKind.u64 (rd x9 (wrap64 (x0 - 1))) t0)) (x0) (x1) (x2) (x3) (x4) (x5) (x6) (x7) (x8) (x9)) else none) else (annealref1_rounded.l19 n0 n0 (Int.ofNat 0) (!(rd x9 (wrap64 (x0 - 1)) == 0)) (wrap64 (wrap64 (wrap64 (64 * x0) - 298) - wrap64 (64 - t0))) (bits BinOp.or IntKind.u64 (shl IntKind.u64 (rd x9 x0) (wrap64 (64 - t0))) (shr IntKind.u64 (rd x9 (wrap64 (x0 - 1))) t0)) (x0) (x1) (x2) (x3) (x4) (x5) (x6) (x7) (x8) (x9))) else none) else none)) else none) else none) else none) else none) else ((annealref1_Pack.f n0 x2 x1 x8 (wrap64 (wrap64 (64 * x0) - 298)) (rd x9 x0) false).bind fun t1 => (some ((Prod.fst t1, Prod.fst (Prod.snd t1), Prod.fst (Prod.snd (Prod.snd t1)), Prod.fst (Prod.snd (Prod.snd (Prod.snd t1))), Prod.fst (Prod.snd (Prod.snd (Prod.snd (Prod.snd t1)))), Prod.snd (Prod.snd (Prod.snd (Prod.snd (Prod.snd t1))))))))) else none) else none)) else none) else none)) else none) else none) := by kernel_rfl
theorem annealref1_rounded.l19_eq (k n0 : Nat) (x0 : Int) (x1 : Bool) (x2 : Int) (x3 : Int) (x4 : Int) (x5 : Int) (x6 : Int) (x7 : Bool) (x8 : Bool) (x9 : Bool) (x10 : Bool) (x11 : Bool) (x12 : Bool) (x13 : List Int) : annealref1_rounded.l19 (k + 1) n0 x0 x1 x2 x3 x4 x5 x6 x7 x8 x9 x10 x11 x12 x13 = (if x0 < wrap64 (x4 - 1) then (if x1 = true then (annealref1_rounded.l19 k n0 (wrap64 (x0 + 1)) (true) (x2) (x3) (x4) (x5) (x6) (x7) (x8) (x9) (x10) (x11) (x12) (x13)) else (if 0 ≤ x0 then (if x0 < 10 then (annealref1_rounded.l19 k n0 (wrap64 (x0 + 1)) (!(rd x13 x0 == 0)) (x2) (x3) (x4) (x5) (x6) (x7) (x8) (x9) (x10) (x11) (x12) (x13)) else none) else none)) else ((annealref1_Pack.f n0 x6 x5 x12 x2 x3 x1).bind fun t0 => (some ((Prod.fst t0, Prod.fst (Prod.snd t0), Prod.fst (Prod.snd (Prod.snd t0)), Prod.fst (Prod.snd (Prod.snd (Prod.snd t0))), Prod.fst (Prod.snd (Prod.snd (Prod.snd (Prod.snd t0)))), Prod.snd (Prod.snd (Prod.snd (Prod.snd (Prod.snd t0))))))))) := by kernel_rfl
theorem annealref1_total.eq (n0 : Nat) (a0 : Int) (a1 : Int) (a2_0 : Bool) (a2_1 : List Int) (a3_0 : Bool) (a3_1 : List Int) : annealref1_total.f n0 a0 a1 a2_0 a2_1 a3_0 a3_1 = ((annealref1_plus.f n0 a2_0 a2_1 a3_0 a3_1).bind fun t0 => ((Ytejkemahdincjaa.E.annealref1_nought.f n0 (Prod.fst t0) (Prod.snd t0)).bind fun t1 => (if t1 = true then ((annealref1_Zero.f a0 (a1 == 3)).bind fun t2 => (some ((t2, false, false, false, false, false)))) else ((annealref1_rounded.f n0 a0 a1 (Prod.fst t0) (Prod.snd t0)).bind fun t2 => (some ((Prod.fst t2, Prod.fst (Prod.snd t2), Prod.fst (Prod.snd (Prod.snd t2)), Prod.fst (Prod.snd (Prod.snd (Prod.snd t2))), Prod.fst (Prod.snd (Prod.snd (Prod.snd (Prod.snd t2)))), Prod.snd (Prod.snd (Prod.snd (Prod.snd (Prod.snd t2))))))))))) := by kernel_rfl
noncomputable def annealref1_Add.j6 (n0 : Nat) (x0 : Int) (x1 : Int) (x2 : Int) (x3 : Int) (x4 : Bool) (x5 : Bool) (x6 : Bool) (x7 : Bool) (x8 : Bool) := evInJ Try.prog annealref1_Add.cls Try.f11 annealref1_Add.cuts [1, 1, 1] [n0] n0 ⟨[(9, (.pv (.one (.p 0 0)))), (3, (.pv (.one (.i .u32 (.x x0))))), (2, (.pv (.one (.i .u32 (.x x1))))), (1, (.pv (.one (.i .i64 (.x x2))))), (0, (.pv (.one (.i .i64 (.x x3)))))], [(0, (29, [(.c (.b (.q x4))), (.c (.b (.q x5))), (.c (.b (.q x6))), (.c (.b (.q x7))), (.c (.b (.q x8)))]))], 1⟩ annealref1_Add.K
noncomputable def annealref1_Add.j12 (n0 : Nat) (x0 : Int) (x1 : Int) (x2 : Int) (x3 : Int) (x4 : Bool) (x5 : Bool) (x6 : Bool) (x7 : Bool) (x8 : Bool) := evInJ Try.prog annealref1_Add.cls Try.f11 annealref1_Add.cuts [1, 1, 1, 1, 1, 1] [n0] n0 ⟨[(9, (.pv (.one (.p 0 0)))), (3, (.pv (.one (.i .u32 (.x x0))))), (2, (.pv (.one (.i .u32 (.x x1))))), (1, (.pv (.one (.i .i64 (.x x2))))), (0, (.pv (.one (.i .i64 (.x x3)))))], [(0, (29, [(.c (.b (.q x4))), (.c (.b (.q x5))), (.c (.b (.q x6))), (.c (.b (.q x7))), (.c (.b (.q x8)))]))], 1⟩ annealref1_Add.K
theorem annealref1_Add.eq (n0 : Nat) (a0 : Int) (a1 : Int) (a2 : Int) (a3 : Int) : annealref1_Add.f n0 a0 a1 a2 a3 = ((annealref1_nans.f n0 a0 [a2, a3]).bind fun t0 => (if Prod.fst t0 = true then ((annealref1_Nan.f a0).bind fun t1 => (some ((t1, Prod.snd t0, false, false, false, false)))) else ((annealref1_inf.f n0 a0 a2).bind fun t1 => (if t1 = true then ((annealref1_inf.f n0 a0 a3).bind fun t2 => (if t2 = true then ((annealref1_neg.f a0 a2).bind fun t3 => ((annealref1_neg.f a0 a3).bind fun t4 => (if (t3 == t4) = true then (annealref1_Add.j6 n0 (a3) (a2) (a1) (a0) (false) (false) (false) (false) (false)) else ((annealref1_Nan.f a0).bind fun t5 => (some ((t5, true, false, false, false, false))))))) else (annealref1_Add.j6 n0 (a3) (a2) (a1) (a0) (false) (false) (false) (false) (false)))) else (annealref1_Add.j6 n0 (a3) (a2) (a1) (a0) (false) (false) (false) (false) (false)))))) := by kernel_rfl
theorem annealref1_Add.j6_eq (n0 : Nat) (x0 : Int) (x1 : Int) (x2 : Int) (x3 : Int) (x4 : Bool) (x5 : Bool) (x6 : Bool) (x7 : Bool) (x8 : Bool) : annealref1_Add.j6 n0 x0 x1 x2 x3 x4 x5 x6 x7 x8 = ((annealref1_inf.f n0 x3 x1).bind fun t0 => (if t0 = true then ((annealref1_Mask.f x3).bind fun t1 => (some ((bits BinOp.and IntKind.u32 x1 t1, false, false, false, false, false)))) else ((annealref1_inf.f n0 x3 x0).bind fun t1 => (if t1 = true then ((annealref1_Mask.f x3).bind fun t2 => (some ((bits BinOp.and IntKind.u32 x0 t2, false, false, false, false, false)))) else ((annealref1_zero.f n0 x3 x1).bind fun t2 => (if t2 = true then ((annealref1_zero.f n0 x3 x0).bind fun t3 => (if t3 = true then ((annealref1_neg.f x3 x1).bind fun t4 => ((annealref1_neg.f x3 x0).bind fun t5 => (if (t4 == t5) = true then ((annealref1_Mask.f x3).bind fun t6 => (some ((bits BinOp.and IntKind.u32 x1 t6, false, false, false, false, false)))) else (annealref1_Add.j12 n0 (x0) (x1) (x2) (x3) (x4) (x5) (x6) (x7) (x8))))) else (annealref1_Add.j12 n0 (x0) (x1) (x2) (x3) (x4) (x5) (x6) (x7) (x8)))) else (annealref1_Add.j12 n0 (x0) (x1) (x2) (x3) (x4) (x5) (x6) (x7) (x8)))))))) := by kernel_rfl
theorem annealref1_Add.j12_eq (n0 : Nat) (x0 : Int) (x1 : Int) (x2 : Int) (x3 : Int) (x4 : Bool) (x5 : Bool) (x6 : Bool) (x7 : Bool) (x8 : Bool) : annealref1_Add.j12 n0 x0 x1 x2 x3 x4 x5 x6 x7 x8 = ((annealref1_Unpack.f n0 x3 x1).bind fun t0 => ((annealref1_spread.f n0 (Prod.fst t0) (Prod.fst (Prod.snd t0)) (Prod.snd (Prod.snd t0))).bind fun t1 => ((annealref1_Unpack.f n0 x3 x0).bind fun t2 => ((annealref1_spread.f n0 (Prod.fst t2) (Prod.fst (Prod.snd t2)) (Prod.snd (Prod.snd t2))).bind fun t3 => ((annealref1_total.f n0 x3 x2 (Prod.fst t1) (Prod.snd t1) (Prod.fst t3) (Prod.snd t3)).bind fun t4 => (some ((Prod.fst t4, Prod.fst (Prod.snd t4), Prod.fst (Prod.snd (Prod.snd t4)), Prod.fst (Prod.snd (Prod.snd (Prod.snd t4))), Prod.fst (Prod.snd (Prod.snd (Prod.snd (Prod.snd t4)))), Prod.snd (Prod.snd (Prod.snd (Prod.snd (Prod.snd t4)))))))))))) := by kernel_rfl
noncomputable def annealref1_Fma.j2 (n0 : Nat) (x0 : Bool) (x1 : Int) (x2 : Int) (x3 : Int) (x4 : Int) (x5 : Int) (x6 : Bool) (x7 : Bool) (x8 : Bool) (x9 : Bool) (x10 : Bool) := evInJ Try.prog annealref1_Fma.cls Try.f19 annealref1_Fma.cuts [1, 1] [n0] n0 ⟨[(12, (.pv (.one (.b (.q x0))))), (11, (.pv (.one (.p 0 0)))), (4, (.pv (.one (.i .u32 (.x x1))))), (3, (.pv (.one (.i .u32 (.x x2))))), (2, (.pv (.one (.i .u32 (.x x3))))), (1, (.pv (.one (.i .i64 (.x x4))))), (0, (.pv (.one (.i .i64 (.x x5)))))], [(0, (29, [(.c (.b (.q x6))), (.c (.b (.q x7))), (.c (.b (.q x8))), (.c (.b (.q x9))), (.c (.b (.q x10)))]))], 1⟩ annealref1_Fma.K
noncomputable def annealref1_Fma.j5 (n0 : Nat) (x0 : Int) (x1 : Int) (x2 : Int) (x3 : Int) (x4 : Int) (x5 : Bool) (x6 : Bool) (x7 : Bool) (x8 : Bool) (x9 : Bool) := evInJ Try.prog annealref1_Fma.cls Try.f19 annealref1_Fma.cuts [1, 1, 1] [n0] n0 ⟨[(11, (.pv (.one (.p 0 0)))), (4, (.pv (.one (.i .u32 (.x x0))))), (3, (.pv (.one (.i .u32 (.x x1))))), (2, (.pv (.one (.i .u32 (.x x2))))), (1, (.pv (.one (.i .i64 (.x x3))))), (0, (.pv (.one (.i .i64 (.x x4)))))], [(0, (29, [(.c (.b (.q x5))), (.c (.b (.q x6))), (.c (.b (.q x7))), (.c (.b (.q x8))), (.c (.b (.q x9)))]))], 1⟩ annealref1_Fma.K
noncomputable def annealref1_Fma.j14 (n0 : Nat) (x0 : Bool) (x1 : Int) (x2 : Int) (x3 : Int) (x4 : Int) (x5 : Int) (x6 : Bool) (x7 : Bool) (x8 : Bool) (x9 : Bool) (x10 : Bool) := evInJ Try.prog annealref1_Fma.cls Try.f19 annealref1_Fma.cuts [1, 1, 1, 1, 1, 1, 1] [n0] n0 ⟨[(15, (.pv (.one (.b (.q x0))))), (11, (.pv (.one (.p 0 0)))), (4, (.pv (.one (.i .u32 (.x x1))))), (3, (.pv (.one (.i .u32 (.x x2))))), (2, (.pv (.one (.i .u32 (.x x3))))), (1, (.pv (.one (.i .i64 (.x x4))))), (0, (.pv (.one (.i .i64 (.x x5)))))], [(0, (29, [(.c (.b (.q x6))), (.c (.b (.q x7))), (.c (.b (.q x8))), (.c (.b (.q x9))), (.c (.b (.q x10)))]))], 1⟩ annealref1_Fma.K
theorem annealref1_Fma.eq (n0 : Nat) (a0 : Int) (a1 : Int) (a2 : Int) (a3 : Int) (a4 : Int) : annealref1_Fma.f n0 a0 a1 a2 a3 a4 = ((annealref1_zero.f n0 a0 a2).bind fun t0 => (if t0 = true then ((annealref1_inf.f n0 a0 a3).bind fun t1 => (if t1 = true then (annealref1_Fma.j2 n0 (true) (a4) (a3) (a2) (a1) (a0) (false) (false) (false) (false) (false)) else ((annealref1_inf.f n0 a0 a2).bind fun t2 => (if t2 = true then ((annealref1_zero.f n0 a0 a3).bind fun t3 => (annealref1_Fma.j2 n0 (t3) (a4) (a3) (a2) (a1) (a0) (false) (false) (false) (false) (false))) else (annealref1_Fma.j2 n0 (false) (a4) (a3) (a2) (a1) (a0) (false) (false) (false) (false) (false)))))) else ((annealref1_inf.f n0 a0 a2).bind fun t1 => (if t1 = true then ((annealref1_zero.f n0 a0 a3).bind fun t2 => (annealref1_Fma.j2 n0 (t2) (a4) (a3) (a2) (a1) (a0) (false) (false) (false) (false) (false))) else (annealref1_Fma.j2 n0 (false) (a4) (a3) (a2) (a1) (a0) (false) (false) (false) (false) (false)))))) := by kernel_rfl
theorem annealref1_Fma.j14_eq (n0 : Nat) (x0 : Bool) (x1 : Int) (x2 : Int) (x3 : Int) (x4 : Int) (x5 : Int) (x6 : Bool) (x7 : Bool) (x8 : Bool) (x9 : Bool) (x10 : Bool) : annealref1_Fma.j14 n0 x0 x1 x2 x3 x4 x5 x6 x7 x8 x9 x10 = ((annealref1_Unpack.f n0 x5 x3).bind fun t0 => ((annealref1_Unpack.f n0 x5 x2).bind fun t1 => ((annealref1_spread.f n0 x0 (wrap64 (Prod.fst (Prod.snd t0) + Prod.fst (Prod.snd t1))) (IntKind.wrap IntKind.u64 (Prod.snd (Prod.snd t0) * Prod.snd (Prod.snd t1)))).bind fun t2 => ((annealref1_Unpack.f n0 x5 x1).bind fun t3 => ((annealref1_spread.f n0 (Prod.fst t3) (Prod.fst (Prod.snd t3)) (Prod.snd (Prod.snd t3))).bind fun t4 => ((annealref1_total.f n0 x5 x4 (Prod.fst t2) (Prod.snd t2) (Prod.fst t4) (Prod.snd t4)).bind fun t5 => (some ((Prod.fst t5, Prod.fst (Prod.snd t5), Prod.fst (Prod.snd (Prod.snd t5)), Prod.fst (Prod.snd (Prod.snd (Prod.snd t5))), Prod.fst (Prod.snd (Prod.snd (Prod.snd (Prod.snd t5)))), Prod.snd (Prod.snd (Prod.snd (Prod.snd (Prod.snd t5))))))))))))) := by kernel_rfl
theorem annealref1_Sub.eq (n0 : Nat) (a0 : Int) (a1 : Int) (a2 : Int) (a3 : Int) : annealref1_Sub.f n0 a0 a1 a2 a3 = ((annealref1_Minus.f n0 a0 a3).bind fun t0 => ((annealref1_Add.f n0 a0 a1 a2 t0).bind fun t1 => (some ((Prod.fst t1, Prod.fst (Prod.snd t1), Prod.fst (Prod.snd (Prod.snd t1)), Prod.fst (Prod.snd (Prod.snd (Prod.snd t1))), Prod.fst (Prod.snd (Prod.snd (Prod.snd (Prod.snd t1)))), Prod.snd (Prod.snd (Prod.snd (Prod.snd (Prod.snd t1))))))))) := by kernel_rfl
end Go.Proofs.Ytejkemahdincjaa.E

/- Plain facts about whole numbers in their kinds: wraps, shifts, bits, as numbers from nought on. -/
namespace Go.Proofs.Ytejkemahdincjaa.Num
open Go.RowKit Go.Proofs.YtejkemahdincjaaW.PrintWords Go.Proofs.YtejkemahdincjaaW.PrintLast Go.Proofs.YtejkemahdincjaaW.PrintMore

theorem u64_wrap (n : Int) : IntKind.u64.wrap n = n % 18446744073709551616 := by simp [IntKind.wrap, IntKind.bits, IntKind.signed]
theorem u32_wrap (n : Int) : IntKind.u32.wrap n = n % 4294967296 := by simp [IntKind.wrap, IntKind.bits, IntKind.signed]
theorem i64_wrap (n : Int) : IntKind.i64.wrap n = wrap64 n := by rw [i64_w]
theorem u64_nat (n : Nat) : IntKind.u64.wrap (n : Int) = ((n % 18446744073709551616 : Nat) : Int) := by rw [u64_wrap]; omega
theorem u64_id (n : Nat) (h : n < 18446744073709551616) : IntKind.u64.wrap (n : Int) = (n : Int) := by rw [u64_wrap]; omega
theorem w64_id (n : Int) (h : -9223372036854775808 ≤ n) (h' : n ≤ 9223372036854775807) : wrap64 n = n := by unfold wrap64; omega
theorem wf_u32 {n : Int} (h : (Lit.int .u32 n).wf = true) : 0 ≤ n ∧ n < 4294967296 := by
 simp [Lit.wf, IntKind.min, IntKind.max, IntKind.bits, IntKind.signed] at h; omega
theorem wf_u8 {n : Int} (h : (Lit.int .u8 n).wf = true) : 0 ≤ n ∧ n < 256 := by
 simp [Lit.wf, IntKind.min, IntKind.max, IntKind.bits, IntKind.signed] at h; omega
theorem nat_of {n : Int} (h : 0 ≤ n) : ∃ m : Nat, n = (m : Int) := ⟨n.toNat, by omega⟩

theorem pow_cast (n : Nat) : ((2 ^ n : Nat) : Int) = (2 : Int) ^ n := by simp

theorem shr_nat (k : IntKind) (v n : Nat) (hv : v < 2 ^ k.bits) : shr k (v : Int) (n : Int) = ((v / 2 ^ n : Nat) : Int) := by
 unfold shr
 rw [Int.toNat_natCast]
 by_cases h : n ≤ k.bits
 ·rw [Nat.min_eq_left h]; simp
 ·rw [Nat.min_eq_right (by omega), Nat.div_eq_of_lt (show v < 2 ^ n from Nat.lt_of_lt_of_le hv (Nat.pow_le_pow_right (by decide) (by omega)))]
  have : v / 2 ^ k.bits = 0 := Nat.div_eq_of_lt hv
  have e : ((v : Int) / 2 ^ k.bits) = ((v / 2 ^ k.bits : Nat) : Int) := by simp
  rw [e, this]
theorem shr_u64 (v n : Nat) (hv : v < 18446744073709551616) : shr .u64 (v : Int) (n : Int) = ((v / 2 ^ n : Nat) : Int) := shr_nat .u64 v n hv
theorem shr_u32 (v n : Nat) (hv : v < 4294967296) : shr .u32 (v : Int) (n : Int) = ((v / 2 ^ n : Nat) : Int) := shr_nat .u32 v n hv
theorem shl_u64 (v n : Nat) : shl .u64 (v : Int) (n : Int) = ((v * 2 ^ n % 18446744073709551616 : Nat) : Int) := by
 unfold shl
 rw [Int.toNat_natCast]
 by_cases h : n ≤ 64
 ·rw [show IntKind.u64.bits = 64 from rfl, Nat.min_eq_left h, show (v : Int) * 2 ^ n = ((v * 2 ^ n : Nat) : Int) by simp, u64_nat]
 ·have e : (2 : Nat) ^ n = 18446744073709551616 * 2 ^ (n - 64) := by rw [show 18446744073709551616 = 2 ^ 64 from rfl, ← Nat.pow_add]; congr 1; omega
  rw [Nat.min_eq_right (show IntKind.u64.bits ≤ n by show 64 ≤ n; omega), show (v : Int) * 2 ^ IntKind.u64.bits = ((v * 18446744073709551616 : Nat) : Int) by simp [IntKind.bits], u64_nat, Nat.mul_mod_left, e, ← Nat.mul_assoc, Nat.mul_comm v, Nat.mul_assoc, Nat.mul_mod_right]
theorem shl_u32 (v n : Nat) : shl .u32 (v : Int) (n : Int) = ((v * 2 ^ n % 4294967296 : Nat) : Int) := by
 unfold shl
 rw [Int.toNat_natCast]
 by_cases h : n ≤ 32
 ·rw [show IntKind.u32.bits = 32 from rfl, Nat.min_eq_left h, show (v : Int) * 2 ^ n = ((v * 2 ^ n : Nat) : Int) by simp, u32_wrap]; omega
 ·have e : (2 : Nat) ^ n = 4294967296 * 2 ^ (n - 32) := by rw [show 4294967296 = 2 ^ 32 from rfl, ← Nat.pow_add]; congr 1; omega
  rw [Nat.min_eq_right (show IntKind.u32.bits ≤ n by show 32 ≤ n; omega), show (v : Int) * 2 ^ IntKind.u32.bits = ((v * 4294967296 : Nat) : Int) by simp [IntKind.bits], u32_wrap, e, ← Nat.mul_assoc, Nat.mul_comm v, Nat.mul_assoc, Nat.mul_mod_right]; omega

theorem wraps_u64 (n : Int) (h₀ : 0 ≤ n) (h₁ : n < 2 ^ 64) : IntKind.u64.wrap n = n := by rw [u64_wrap]; omega
theorem wraps_u32 (n : Int) (h₀ : 0 ≤ n) (h₁ : n < 2 ^ 32) : IntKind.u32.wrap n = n := by rw [u32_wrap]; omega
theorem and_u64 (a b : Nat) (ha : a < 18446744073709551616) (hb : b < 18446744073709551616) : Go.bits .and .u64 a b = ((a &&& b : Nat) : Int) := (bits_nat .u64 64 (by decide) wraps_u64 a b ha hb).1
theorem or_u64 (a b : Nat) (ha : a < 18446744073709551616) (hb : b < 18446744073709551616) : Go.bits .or .u64 a b = ((a ||| b : Nat) : Int) := (bits_nat .u64 64 (by decide) wraps_u64 a b ha hb).2
theorem and_u32 (a b : Nat) (ha : a < 4294967296) (hb : b < 4294967296) : Go.bits .and .u32 a b = ((a &&& b : Nat) : Int) := (bits_nat .u32 32 (by decide) wraps_u32 a b ha hb).1
theorem or_u32 (a b : Nat) (ha : a < 4294967296) (hb : b < 4294967296) : Go.bits .or .u32 a b = ((a ||| b : Nat) : Int) := (bits_nat .u32 32 (by decide) wraps_u32 a b ha hb).2
theorem xor_u32 (a b : Nat) (ha : a < 4294967296) (hb : b < 4294967296) : Go.bits .xor .u32 a b = ((a ^^^ b : Nat) : Int) := by
 have e : (BitVec.ofInt 32 (a : Int) ^^^ BitVec.ofInt 32 (b : Int)).toNat = a ^^^ b := by
  rw [BitVec.toNat_xor, BitVec.ofInt_natCast, BitVec.ofInt_natCast, BitVec.toNat_ofNat, BitVec.toNat_ofNat, Nat.mod_eq_of_lt ha, Nat.mod_eq_of_lt hb]
 show IntKind.u32.wrap (((BitVec.ofInt 32 (a : Int) ^^^ BitVec.ofInt 32 (b : Int)).toNat : Nat) : Int) = _
 rw [e]
 exact wraps_u32 _ (Int.natCast_nonneg _) (by exact_mod_cast Nat.xor_lt_two_pow (n := 32) ha hb)
theorem mask_u64 (a n : Nat) (ha : a < 18446744073709551616) (hn : n ≤ 64) : Go.bits .and .u64 a ((2 ^ n - 1 : Nat) : Int) = ((a % 2 ^ n : Nat) : Int) := by
 have h : 2 ^ n - 1 < 18446744073709551616 := by
  have := Nat.pow_le_pow_right (show 0 < 2 by decide) hn
  have : 0 < 2 ^ n := Nat.two_pow_pos n
  omega
 rw [and_u64 a _ ha h, Nat.and_two_pow_sub_one_eq_mod]
theorem and1_u64 (a : Nat) (ha : a < 18446744073709551616) : Go.bits .and .u64 a 1 = ((a % 2 : Nat) : Int) := mask_u64 a 1 ha (by decide)
theorem or_add (a b n : Nat) (ha : a % 2 ^ n = 0) (hb : b < 2 ^ n) : a ||| b = a + b := by
 have hq : a = 2 ^ n * (a / 2 ^ n) := by have := Nat.div_add_mod a (2 ^ n); omega
 have := Nat.two_pow_add_eq_or_of_lt hb (a / 2 ^ n)
 rw [← hq] at this
 exact this.symm
end Go.Proofs.Ytejkemahdincjaa.Num

/- What the functions of layer 1 compute, as plain numbers. -/
namespace Go.Proofs.Ytejkemahdincjaa.BitsF
open Go.RowKit Go.Proofs.Ytejkemahdincjaa.P Go.Proofs.Ytejkemahdincjaa.Num Go.Proofs.YtejkemahdincjaaW.PrintWords Go.Proofs.YtejkemahdincjaaW.PrintLast Go.Proofs.YtejkemahdincjaaW.PrintMore

def shiftN (v : Nat) (n : Int) : Nat × Bool :=
 if 0 ≤ n then (v / 2 ^ n.toNat, decide (v % 2 ^ n.toNat ≠ 0)) else (v * 2 ^ (-n).toNat % 18446744073709551616, decide (18446744073709551616 ≤ v * 2 ^ (-n).toNat))
theorem shiftN_right (v n : Nat) : shiftN v (n : Int) = (v / 2 ^ n, decide (v % 2 ^ n ≠ 0)) := by
 unfold shiftN; rw [if_pos (by omega)]; simp
theorem shiftN_left (v n : Nat) (hv : v < 18446744073709551616) : shiftN v (-(n : Int)) = (v * 2 ^ n % 18446744073709551616, decide (18446744073709551616 ≤ v * 2 ^ n)) := by
 unfold shiftN
 by_cases h : n = 0
 ·subst h; simp [Nat.mod_one]; omega
 ·rw [if_neg (by omega)]; simp

theorem pow_big {n : Nat} (h : 64 ≤ n) : 18446744073709551616 ≤ 2 ^ n := by
 have : 2 ^ 64 ≤ 2 ^ n := Nat.pow_le_pow_right (by decide) h
 omega
theorem pow_dvd {n : Nat} (h : n ≤ 64) : 2 ^ n * 2 ^ (64 - n) = 18446744073709551616 := by
 rw [← Nat.pow_add, show n + (64 - n) = 64 by omega]
theorem back_ne (v n : Nat) : decide (v / 2 ^ n * 2 ^ n ≠ v) = decide (v % 2 ^ n ≠ 0) := by
 have := Nat.div_add_mod v (2 ^ n)
 rw [Nat.mul_comm] at this
 congr 1
 apply propext
 constructor <;> intro h <;> omega
theorem left_back (v n : Nat) (hn : n ≤ 64) : decide ((v * 2 ^ n % 18446744073709551616) / 2 ^ n ≠ v) = decide (18446744073709551616 ≤ v * 2 ^ n) := by
 have hp : 0 < 2 ^ n := Nat.two_pow_pos n
 have e : v * 2 ^ n % 18446744073709551616 = (v % 2 ^ (64 - n)) * 2 ^ n := by
  rw [← pow_dvd hn, Nat.mul_comm (2 ^ n), Nat.mul_mod_mul_right]
 rw [e, Nat.mul_div_cancel _ hp]
 congr 1
 apply propext
 have hq : 0 < 2 ^ (64 - n) := Nat.two_pow_pos _
 have d := pow_dvd hn
 constructor
 ·intro h
  have : 2 ^ (64 - n) ≤ v := by
   apply Nat.le_of_not_lt; intro hlt; exact h (Nat.mod_eq_of_lt hlt)
  calc 18446744073709551616 = 2 ^ (64 - n) * 2 ^ n := by rw [Nat.mul_comm]; exact d.symm
   _ ≤ v * 2 ^ n := Nat.mul_le_mul_right _ this
 ·intro h h'
  have hlt : v < 2 ^ (64 - n) := by rw [← h']; exact Nat.mod_lt _ hq
  have : v * 2 ^ n < 2 ^ (64 - n) * 2 ^ n := Nat.mul_lt_mul_of_pos_right hlt hp
  rw [Nat.mul_comm (2 ^ (64 - n)), d] at this
  omega
theorem bne_cast (a b : Nat) : (((a : Int) != (b : Int)) : Bool) = decide (a ≠ b) := by
 by_cases h : a = b
 ·subst h; simp
 ·rw [bne_iff_ne.mpr (by omega)]; simp [h]

theorem shift_f (v : Nat) (hv : v < 18446744073709551616) (n : Int) (h1 : -9223372036854775808 ≤ n) (h2 : n ≤ 9223372036854775807) (k : Nat) :
  bits_Shift.f (k + 1) (v : Int) n = some ((((shiftN v n).1 : Nat) : Int), (shiftN v n).2) := by
 unfold bits_Shift.f
 by_cases c : n ≥ 64
 ·rw [if_pos c]
  simp only [bits_Shift.j0, if_true]
  obtain ⟨m, rfl⟩ := nat_of (show 0 ≤ n by omega)
  rw [shiftN_right]
  have := pow_big (show 64 ≤ m by omega)
  rw [Nat.div_eq_of_lt (by omega), Nat.mod_eq_of_lt (by omega), ← bne_cast]; rfl
 ·rw [if_neg c]
  by_cases c' : n ≤ -64
  ·rw [decide_eq_true c']
   simp only [bits_Shift.j0, if_true]
   obtain ⟨m, hm⟩ := nat_of (show 0 ≤ -n by omega)
   obtain rfl : n = -(m : Int) := by omega
   rw [shiftN_left _ _ hv]
   have hb := pow_big (show 64 ≤ m by omega)
   have e : (2 : Nat) ^ m = 18446744073709551616 * 2 ^ (m - 64) := by rw [show 18446744073709551616 = 2 ^ 64 from rfl, ← Nat.pow_add]; congr 1; omega
   have e1 : v * 2 ^ m % 18446744073709551616 = 0 := by rw [e, ← Nat.mul_assoc, Nat.mul_comm v, Nat.mul_assoc, Nat.mul_mod_right]
   have e2 : decide (18446744073709551616 ≤ v * 2 ^ m) = decide (v ≠ 0) := by
    congr 1; apply propext
    constructor
    ·intro h h0; subst h0; omega
    ·intro h
     calc 18446744073709551616 ≤ 2 ^ m := hb
      _ = 1 * 2 ^ m := (Nat.one_mul _).symm
      _ ≤ v * 2 ^ m := Nat.mul_le_mul_right _ (by omega)
   simp only [e1, e2]
   rw [← bne_cast]; rfl
  ·rw [decide_eq_false c']
   simp only [bits_Shift.j0, Bool.false_eq_true, if_false]
   by_cases c0 : n ≥ 0
   ·rw [if_pos c0]
    obtain ⟨m, rfl⟩ := nat_of c0
    rw [u64_id _ (by omega), if_pos (by omega), shr_u64 _ _ hv, shl_u64, bne_cast, shiftN_right]
    have hle : v / 2 ^ m * 2 ^ m ≤ v := Nat.div_mul_le_self _ _
    rw [Nat.mod_eq_of_lt (by omega), back_ne]
   ·rw [if_neg c0]
    obtain ⟨m, hm⟩ := nat_of (show 0 ≤ -n by omega)
    obtain rfl : n = -(m : Int) := by omega
    rw [Int.neg_neg, w64_id _ (by omega) (by omega), u64_id _ (by omega), if_pos (by omega), shl_u64, shr_u64 _ _ (Nat.mod_lt _ (by decide)), bne_cast, shiftN_left _ _ hv, left_back _ _ (by omega)]
theorem shift_ev (v : Nat) (hv : v < 18446744073709551616) (n : Int) (h1 : -9223372036854775808 ≤ n) (h2 : n ≤ 9223372036854775807) :
  Ev (fun k => bits_Shift.f k (v : Int) n) ((((shiftN v n).1 : Nat) : Int), (shiftN v n).2) := Ev.of (bits_Shift.mono _ _) (shift_f v hv n h1 h2 0)

def lenN (v : Nat) : Nat := if v = 0 then 0 else v.log2 + 1
theorem lenN_lt (v : Nat) : v < 2 ^ lenN v := by
 unfold lenN
 by_cases h : v = 0
 ·subst h; decide
 ·rw [if_neg h]; exact (Nat.log2_lt h).mp (Nat.lt_succ_self _)
theorem lenN_le (v : Nat) (h : v ≠ 0) : 2 ^ (lenN v - 1) ≤ v := by
 unfold lenN
 rw [if_neg h, Nat.add_sub_cancel]
 exact (Nat.le_log2 h).mp (Nat.le_refl _)
theorem lenN_pos (v : Nat) (h : v ≠ 0) : 1 ≤ lenN v := by unfold lenN; rw [if_neg h]; omega
theorem lenN_of (v n : Nat) (h : v < 2 ^ n) (h' : n = 0 ∨ 2 ^ (n - 1) ≤ v) : lenN v = n := by
 by_cases hv : v = 0
 ·subst hv
  rcases h' with h' | h'
  ·subst h'; rfl
  ·have := Nat.two_pow_pos (n - 1); omega
 ·have hn : n ≠ 0 := by intro e; subst e; simp at h; omega
  have h' := h'.resolve_left hn
  unfold lenN; rw [if_neg hv]
  have a := (Nat.log2_lt hv).mpr h
  have b := (Nat.le_log2 hv).mpr h'
  omega
theorem lenN_bound (v n : Nat) (h : v < 2 ^ n) : lenN v ≤ n := by
 by_cases hv : v = 0
 ·subst hv; exact Nat.zero_le _
 ·unfold lenN; rw [if_neg hv]; exact (Nat.log2_lt hv).mpr h
theorem lenN_ge (v n : Nat) (h : 2 ^ n ≤ v) : n < lenN v := by
 have hv : v ≠ 0 := by have := Nat.two_pow_pos n; omega
 unfold lenN; rw [if_neg hv]; have := (Nat.le_log2 hv).mpr h; omega
theorem lenN_div (v n : Nat) (h : 2 ^ n ≤ v) : lenN (v / 2 ^ n) + n = lenN v := by
 have hp := Nat.two_pow_pos n
 have hq : v / 2 ^ n ≠ 0 := by have := Nat.div_pos h hp; omega
 symm
 apply lenN_of
 ·rw [Nat.pow_add, Nat.mul_comm]
  exact Nat.lt_mul_of_div_lt (lenN_lt _) hp |> fun z => by rw [Nat.mul_comm] at z; exact z
 ·right
  have h1 := lenN_pos _ hq
  rw [show lenN (v / 2 ^ n) + n - 1 = lenN (v / 2 ^ n) - 1 + n by omega, Nat.pow_add]
  exact (Nat.le_div_iff_mul_le hp).mp (lenN_le _ hq)
theorem lenN_mul (v n : Nat) (h : v ≠ 0) : lenN (v * 2 ^ n) = lenN v + n := by
 have hp := Nat.two_pow_pos n
 have := lenN_div (v * 2 ^ n) n (Nat.le_mul_of_pos_left _ (by omega))
 rw [Nat.mul_div_cancel _ hp] at this
 omega
theorem lenN_half (v : Nat) (h : v ≠ 0) : lenN v = lenN (v / 2) + 1 := by
 by_cases h1 : v = 1
 ·subst h1; decide
 ·have := lenN_div v 1 (by omega)
  rw [Nat.pow_one] at this; omega
theorem tab_all : ∀ i : Fin 256, bt (⟨#[0, 1, 2, 2, 3, 3, 3, 3, 4, 4, 4, 4, 4, 4, 4, 4, 5, 5, 5, 5, 5, 5, 5, 5, 5, 5, 5, 5, 5, 5, 5, 5, 6, 6, 6, 6, 6, 6, 6, 6, 6, 6, 6, 6, 6, 6, 6, 6, 6, 6, 6, 6, 6, 6, 6, 6, 6, 6, 6, 6, 6, 6, 6, 6, 7, 7, 7, 7, 7, 7, 7, 7, 7, 7, 7, 7, 7, 7, 7, 7, 7, 7, 7, 7, 7, 7, 7, 7, 7, 7, 7, 7, 7, 7, 7, 7, 7, 7, 7, 7, 7, 7, 7, 7, 7, 7, 7, 7, 7, 7, 7, 7, 7, 7, 7, 7, 7, 7, 7, 7, 7, 7, 7, 7, 7, 7, 7, 7, 8, 8, 8, 8, 8, 8, 8, 8, 8, 8, 8, 8, 8, 8, 8, 8, 8, 8, 8, 8, 8, 8, 8, 8, 8, 8, 8, 8, 8, 8, 8, 8, 8, 8, 8, 8, 8, 8, 8, 8, 8, 8, 8, 8, 8, 8, 8, 8, 8, 8, 8, 8, 8, 8, 8, 8, 8, 8, 8, 8, 8, 8, 8, 8, 8, 8, 8, 8, 8, 8, 8, 8, 8, 8, 8, 8, 8, 8, 8, 8, 8, 8, 8, 8, 8, 8, 8, 8, 8, 8, 8, 8, 8, 8, 8, 8, 8, 8, 8, 8, 8, 8, 8, 8, 8, 8, 8, 8, 8, 8, 8, 8, 8, 8, 8, 8, 8, 8, 8, 8, 8, 8, 8, 8, 8, 8, 8, 8]⟩ : ByteArray) ((i.val : Nat) : Int) = (lenN i.val : Int) := by decide +kernel
theorem tab_len (i : Nat) (h : i < 256) : bt (⟨#[0, 1, 2, 2, 3, 3, 3, 3, 4, 4, 4, 4, 4, 4, 4, 4, 5, 5, 5, 5, 5, 5, 5, 5, 5, 5, 5, 5, 5, 5, 5, 5, 6, 6, 6, 6, 6, 6, 6, 6, 6, 6, 6, 6, 6, 6, 6, 6, 6, 6, 6, 6, 6, 6, 6, 6, 6, 6, 6, 6, 6, 6, 6, 6, 7, 7, 7, 7, 7, 7, 7, 7, 7, 7, 7, 7, 7, 7, 7, 7, 7, 7, 7, 7, 7, 7, 7, 7, 7, 7, 7, 7, 7, 7, 7, 7, 7, 7, 7, 7, 7, 7, 7, 7, 7, 7, 7, 7, 7, 7, 7, 7, 7, 7, 7, 7, 7, 7, 7, 7, 7, 7, 7, 7, 7, 7, 7, 7, 8, 8, 8, 8, 8, 8, 8, 8, 8, 8, 8, 8, 8, 8, 8, 8, 8, 8, 8, 8, 8, 8, 8, 8, 8, 8, 8, 8, 8, 8, 8, 8, 8, 8, 8, 8, 8, 8, 8, 8, 8, 8, 8, 8, 8, 8, 8, 8, 8, 8, 8, 8, 8, 8, 8, 8, 8, 8, 8, 8, 8, 8, 8, 8, 8, 8, 8, 8, 8, 8, 8, 8, 8, 8, 8, 8, 8, 8, 8, 8, 8, 8, 8, 8, 8, 8, 8, 8, 8, 8, 8, 8, 8, 8, 8, 8, 8, 8, 8, 8, 8, 8, 8, 8, 8, 8, 8, 8, 8, 8, 8, 8, 8, 8, 8, 8, 8, 8, 8, 8, 8, 8, 8, 8, 8, 8, 8, 8]⟩ : ByteArray) (i : Int) = (lenN i : Int) := tab_all ⟨i, h⟩
theorem lenN_small (v : Nat) (h : v < 18446744073709551616) : lenN v ≤ 64 := lenN_bound v 64 h
set_option maxRecDepth 100000 in
theorem len_j0 (k x c : Nat) (hx : x < 4294967296) (hc : c ≤ 64) : bits_Len64.j0 (k + 1) (x : Int) (c : Int) = some ((c + lenN x : Nat) : Int) := by
 rw [bits_Len64.j0]
 have e1 : (x : Int) / 65536 = ((x / 65536 : Nat) : Int) := by omega
 have e2 : (x : Int) / 65536 / 256 = ((x / 65536 / 256 : Nat) : Int) := by omega
 have e3 : (x : Int) / 256 = ((x / 256 : Nat) : Int) := by omega
 by_cases c1 : (x : Int) ≥ 65536
 ·rw [if_pos c1]
  by_cases c2 : (x : Int) / 65536 ≥ 256
  ·rw [if_pos c2, e2, show ((x / 65536 / 256 : Nat) : Int) % 256 = ((x / 65536 / 256 : Nat) : Int) by omega, if_pos (by omega), if_pos (by omega), tab_len _ (by omega)]
   have h := lenN_div x 24 (by omega)
   rw [show x / 2 ^ 24 = x / 65536 / 256 by omega] at h
   have b := lenN_bound (x / 65536 / 256) 8 (by omega)
   rw [w64_id (c + 16) (by omega) (by omega), w64_id (c + 16 + 8) (by omega) (by omega), w64_id (lenN _) (by omega) (by omega), w64_id _ (by omega) (by omega)]
   congr 1; omega
  ·rw [if_neg c2, e1, show ((x / 65536 : Nat) : Int) % 256 = ((x / 65536 : Nat) : Int) by omega, if_pos (by omega), if_pos (by omega), tab_len _ (by omega)]
   have h := lenN_div x 16 (by omega)
   rw [show x / 2 ^ 16 = x / 65536 by omega] at h
   have b := lenN_bound (x / 65536) 8 (by omega)
   rw [w64_id (c + 16) (by omega) (by omega), w64_id (lenN _) (by omega) (by omega), w64_id _ (by omega) (by omega)]
   congr 1; omega
 ·rw [if_neg c1]
  by_cases c2 : (x : Int) ≥ 256
  ·rw [if_pos c2, e3, show ((x / 256 : Nat) : Int) % 256 = ((x / 256 : Nat) : Int) by omega, if_pos (by omega), if_pos (by omega), tab_len _ (by omega)]
   have h := lenN_div x 8 (by omega)
   rw [show x / 2 ^ 8 = x / 256 by omega] at h
   have b := lenN_bound (x / 256) 8 (by omega)
   rw [w64_id (c + 8) (by omega) (by omega), w64_id (lenN _) (by omega) (by omega), w64_id _ (by omega) (by omega)]
   congr 1; omega
  ·rw [if_neg c2, show (x : Int) % 256 = (x : Int) by omega, if_pos (by omega), if_pos (by omega), tab_len _ (by omega)]
   have b := lenN_bound x 8 (by omega)
   rw [w64_id (lenN _) (by omega) (by omega), w64_id _ (by omega) (by omega)]
   congr 1
theorem len64_f (k v : Nat) (hv : v < 18446744073709551616) : bits_Len64.f (k + 1) (v : Int) = some (lenN v : Int) := by
 unfold bits_Len64.f
 by_cases c : (v : Int) ≥ 4294967296
 ·rw [if_pos c, show (v : Int) / 4294967296 = ((v / 4294967296 : Nat) : Int) by omega]
  have h := len_j0 k (v / 4294967296) 32 (by omega) (by decide)
  have e := lenN_div v 32 (by omega)
  rw [show v / 2 ^ 32 = v / 4294967296 by omega] at e
  rw [show ((32 : Nat) : Int) = 32 from rfl] at h
  rw [h]; congr 1; omega
 ·rw [if_neg c]
  have h := len_j0 k v 0 (by omega) (by decide)
  rw [show ((0 : Nat) : Int) = 0 from rfl] at h
  rw [h, Nat.zero_add]
theorem len_f (k v : Nat) (hv : v < 18446744073709551616) : bits_Len.f (k + 1) (v : Int) = some (lenN v : Int) := by
 unfold bits_Len.f; rw [len64_f k v hv]; rfl
theorem len_ev (v : Nat) (hv : v < 18446744073709551616) : Ev (fun k => bits_Len.f k (v : Int)) (lenN v : Int) := Ev.of (bits_Len.mono _) (len_f 0 v hv)

def cutN (v : Nat) (n : Int) : Nat := if n < 1 then 0 else v % 2 ^ n.toNat
theorem cut_mask (v n : Nat) (hv : v < 18446744073709551616) (hn : n < 64) : Go.bits .and .u64 (v : Int) (IntKind.u64.wrap (shl .u64 1 (n : Int) - 1)) = ((v % 2 ^ n : Nat) : Int) := by
 have hp : 2 ^ n ≤ 2 ^ 63 := Nat.pow_le_pow_right (by decide) (by omega)
 have h0 := Nat.two_pow_pos n
 rw [show (1 : Int) = ((1 : Nat) : Int) from rfl, shl_u64, Nat.one_mul, Nat.mod_eq_of_lt (by omega), show ((2 ^ n : Nat) : Int) - ((1 : Nat) : Int) = ((2 ^ n - 1 : Nat) : Int) by omega, u64_id _ (by omega), mask_u64 _ _ hv (by omega)]
theorem cut_f (v : Nat) (hv : v < 18446744073709551616) (n : Int) (h2 : n ≤ 9223372036854775807) : bits_Cut.f (v : Int) n = some (cutN v n : Int) := by
 unfold bits_Cut.f cutN
 by_cases c : n < 1
 ·rw [if_pos c, if_pos c]; rfl
 ·rw [if_neg c, if_neg c]
  obtain ⟨m, rfl⟩ := nat_of (show 0 ≤ n by omega)
  by_cases c' : (m : Int) ≥ 64
  ·rw [if_pos c', Int.toNat_natCast, Nat.mod_eq_of_lt (by have := pow_big (show 64 ≤ m by omega); omega)]
  ·rw [if_neg c', u64_id _ (by omega), if_pos (by omega), cut_mask _ _ hv (by omega), Int.toNat_natCast]
end Go.Proofs.Ytejkemahdincjaa.BitsF

/- Whole numbers in limbs of 64 bits; rounds of two kinds: plain numbers alone. -/
namespace Go.Proofs.Ytejkemahdincjaa.Round
open Go.RowKit Go.Proofs.Ytejkemahdincjaa.P Go.Proofs.Ytejkemahdincjaa.Num Go.Proofs.Ytejkemahdincjaa.BitsF Go.Proofs.YtejkemahdincjaaW.PrintWords Go.Proofs.YtejkemahdincjaaW.PrintLast Go.Proofs.YtejkemahdincjaaW.PrintMore

def Ev2 {α : Type} (g : Nat → Nat → Option α) (r : α) : Prop := ∃ K, ∀ k n, K ≤ k → K ≤ n → g k n = some r
theorem Ev2.of {α : Type} {g : Nat → Option α} {r : α} (h : Ev g r) : Ev2 (fun _ n => g n) r := by
 obtain ⟨K, h⟩ := h
 exact ⟨K, fun _ n _ hn => h n hn⟩
theorem Ev2.now {α : Type} (r : α) : Ev2 (fun _ _ => some r) r := ⟨0, fun _ _ _ _ => rfl⟩
theorem Ev2.step {α : Type} {g f : Nat → Nat → Option α} {r : α} (h : ∀ k n, g (k + 1) n = f k n) (k : Ev2 f r) : Ev2 g r := by
 obtain ⟨K, k⟩ := k
 refine ⟨K + 1, fun m n hm hn => ?_⟩
 obtain ⟨q, rfl⟩ : ∃ q, m = q + 1 := ⟨m - 1, by omega⟩
 rw [h]; exact k q n (by omega) (by omega)
theorem Ev2.congr {α : Type} {g f : Nat → Nat → Option α} {r : α} (h : ∀ k n, g k n = f k n) (k : Ev2 f r) : Ev2 g r := by
 obtain ⟨K, k⟩ := k
 exact ⟨K, fun m n hm hn => (h m n).trans (k m n hm hn)⟩
theorem Ev2.diag {α : Type} {g : Nat → Nat → Option α} {r : α} (h : Ev2 g r) : Ev (fun n => g n n) r := by
 obtain ⟨K, h⟩ := h
 exact ⟨K, fun n hn => h n n hn hn⟩
theorem Ev2.bind {α β : Type} {g : Nat → Option α} {f : Nat → Nat → α → Option β} {a : α} {r : β} (h : Ev g a) (k : Ev2 (fun m n => f m n a) r) : Ev2 (fun m n => (g n).bind (f m n)) r := by
 obtain ⟨K, h⟩ := h
 obtain ⟨K', k⟩ := k
 refine ⟨max K K', fun m n hm hn => ?_⟩
 show (g n).bind (f m n) = some r
 rw [h n (by omega)]; exact k m n (by omega) (by omega)
theorem Ev2.inner {α : Type} {g : Nat → Nat → Option α} {r : α} (h : Ev2 g r) : Ev2 (fun _ n => g n n) r := Ev2.of (Ev2.diag h)

def lim (xs : List Int) (i : Nat) : Nat := (rd xs (i : Int)).toNat
def lo (xs : List Int) : Nat → Nat
 |0 => 0
 |i + 1 => lo xs i + lim xs i * 2 ^ (64 * i)
structure Lims (xs : List Int) : Prop where
 len : xs.length = 10
 rng : ∀ i : Nat, 0 ≤ rd xs (i : Int) ∧ rd xs (i : Int) < 18446744073709551616
theorem Lims.rd {xs : List Int} (h : Lims xs) (i : Nat) : Go.Proofs.YtejkemahdincjaaW.PrintWords.rd xs (i : Int) = (lim xs i : Int) := by
 have := h.rng i; unfold lim; omega
theorem Lims.lt {xs : List Int} (h : Lims xs) (i : Nat) : lim xs i < 18446744073709551616 := by
 have := h.rng i; unfold lim; omega
theorem rd_set_at (xs : List Int) (i j : Nat) (v : Int) (h : i < xs.length) : rd (xs.set i v) (j : Int) = if j = i then v else rd xs (j : Int) := by
 unfold rd
 rw [Int.toNat_natCast, List.getD_eq_getElem?_getD, List.getD_eq_getElem?_getD, List.getElem?_set]
 by_cases c : j = i
 ·subst c; rw [if_pos rfl, if_pos rfl, if_pos h]; rfl
 ·rw [if_neg (fun e => c e.symm), if_neg c]
theorem lim_set (xs : List Int) (i j : Nat) (v : Int) (h : i < xs.length) : lim (xs.set i v) j = if j = i then v.toNat else lim xs j := by
 unfold lim; rw [rd_set_at xs i j v h]; split <;> rfl
theorem Lims.set {xs : List Int} (h : Lims xs) (i v : Nat) (hi : i < 10) (hv : v < 18446744073709551616) : Lims (xs.set i (v : Int)) := by
 refine ⟨by rw [List.length_set]; exact h.len, fun j => ?_⟩
 rw [rd_set_at xs i j _ (by rw [h.len]; exact hi)]
 split
 ·omega
 ·exact h.rng j
theorem lo_congr {xs ys : List Int} {i : Nat} (h : ∀ j, j < i → lim xs j = lim ys j) : lo xs i = lo ys i := by
 induction i with
 |zero => rfl
 |succ i ih => unfold lo; rw [ih (fun j hj => h j (by omega)), h i (by omega)]
theorem lo_set (xs : List Int) (i : Nat) (v : Int) (h : i < xs.length) : lo (xs.set i v) i = lo xs i :=
 lo_congr fun j hj => by rw [lim_set xs i j v h, if_neg (by omega)]
theorem lo_set0 (xs : List Int) (i : Nat) (v : Nat) (h : i < xs.length) (h0 : lim xs i = 0) : ∀ n, i < n → lo (xs.set i (v : Int)) n = lo xs n + v * 2 ^ (64 * i) := by
 intro n
 induction n with
 |zero => intro h; omega
 |succ n ih =>
  intro hn
  unfold lo
  rw [lim_set xs i n _ h]
  by_cases c : n = i
  ·subst c
   rw [if_pos rfl, lo_set xs n _ h, h0, Int.toNat_natCast]; omega
  ·rw [if_neg c, ih (by omega)]; omega
theorem lo_lt {xs : List Int} (h : Lims xs) (i : Nat) : lo xs i < 2 ^ (64 * i) := by
 induction i with
 |zero => exact Nat.one_pos
 |succ i ih =>
  unfold lo
  rw [show 64 * (i + 1) = 64 * i + 64 by omega, Nat.pow_add]
  have h1 := h.lt i
  have h2 : (lim xs i + 1) * 2 ^ (64 * i) ≤ 18446744073709551616 * 2 ^ (64 * i) := Nat.mul_le_mul_right _ h1
  rw [Nat.add_mul] at h2
  have : (2 : Nat) ^ 64 = 18446744073709551616 := by decide
  rw [this, Nat.mul_comm (2 ^ (64 * i))]
  omega
@[irreducible] def T640 : Nat := 2 ^ (64 * 10)
theorem T640_eq : 2 ^ (64 * 10) = T640 := by unfold T640; rfl
theorem lo_top {xs : List Int} (h : Lims xs) : lo xs 10 < T640 := by rw [← T640_eq]; exact lo_lt h 10
theorem lo_zero {xs : List Int} (n : Nat) : lo xs n = 0 ↔ ∀ i, i < n → lim xs i = 0 := by
 induction n with
 |zero => exact ⟨fun _ i hi => by omega, fun _ => rfl⟩
 |succ n ih =>
  unfold lo
  have hp : 2 ^ (64 * n) ≠ 0 := by have := Nat.two_pow_pos (64 * n); omega
  constructor
  ·intro h i hi
   have h1 : lo xs n = 0 := by omega
   have h2 : lim xs n * 2 ^ (64 * n) = 0 := by omega
   by_cases c : i = n
   ·subst c; exact (Nat.mul_eq_zero.mp h2).resolve_right hp
   ·exact ih.mp h1 i (by omega)
  ·intro h
   rw [ih.mpr (fun i hi => h i (by omega)), h n (by omega), Nat.zero_mul]
theorem lims_zero : Lims (List.replicate 10 (0 : Int)) := by
 refine ⟨rfl, fun i => ?_⟩
 unfold rd
 rw [List.getD_eq_getElem?_getD, List.getElem?_replicate]
 split <;> simp
theorem lim_zero (i : Nat) : lim (List.replicate 10 (0 : Int)) i = 0 := by
 unfold lim rd
 rw [List.getD_eq_getElem?_getD, List.getElem?_replicate]
 split <;> simp
theorem nought_lims {xs : List Int} (h : Lims xs) : (xs ++ [] == List.replicate 10 (0 : Int) ++ []) = decide (lo xs 10 = 0) := by
 rw [List.append_nil, List.append_nil]
 by_cases z : lo xs 10 = 0
 ·rw [decide_eq_true z, beq_iff_eq]
  refine List.ext_getElem (by rw [h.len]; rfl) fun i h1 h2 => ?_
  have h3 := (lo_zero 10).mp z i (by rw [h.len] at h1; exact h1)
  have h4 := h.rd i
  rw [h3] at h4
  unfold rd at h4
  rw [Int.toNat_natCast, List.getD_eq_getElem?_getD, List.getElem?_eq_getElem h1] at h4
  rw [List.getElem_replicate]
  simpa using h4
 ·rw [decide_eq_false z, beq_eq_false_iff_ne]
  intro e
  apply z
  rw [e]
  exact (lo_zero 10).mpr fun i _ => lim_zero i
theorem lo_none (xs : List Int) : lo xs 0 = 0 := rfl
theorem lo_succ (xs : List Int) (i : Nat) : lo xs (i + 1) = lo xs i + lim xs i * 2 ^ (64 * i) := rfl
attribute [irreducible] lo
end Go.Proofs.Ytejkemahdincjaa.Round

/- What the program's package format computes, as plain numbers: widths, parts, classes, whole numbers and exponents. -/
namespace Go.Proofs.Ytejkemahdincjaa.Fmt
open Go.RowKit Go.Proofs.Ytejkemahdincjaa.P Go.Proofs.Ytejkemahdincjaa.Num Go.Proofs.Ytejkemahdincjaa.BitsF Go.Proofs.YtejkemahdincjaaW.PrintWords Go.Proofs.YtejkemahdincjaaW.PrintLast Go.Proofs.YtejkemahdincjaaW.PrintMore

def fe (f : Int) : Nat := if f = 0 then 5 else 8
def fm (f : Int) : Nat := if f = 0 then 10 else if f = 1 then 7 else 23
theorem fcases (f : Int) : (fe f = 5 ∧ fm f = 10) ∨ (fe f = 8 ∧ fm f = 7) ∨ (fe f = 8 ∧ fm f = 23) := by
 unfold fe fm
 split
 ·exact .inl ⟨rfl, rfl⟩
 ·split
  ·exact .inr (.inl ⟨rfl, rfl⟩)
  ·exact .inr (.inr ⟨rfl, rfl⟩)
theorem fbounds (f : Int) : 5 ≤ fe f ∧ fe f ≤ 8 ∧ 7 ≤ fm f ∧ fm f ≤ 23 ∧ fe f + fm f ≤ 31 := by
 rcases fcases f with ⟨h1, h2⟩ | ⟨h1, h2⟩ | ⟨h1, h2⟩ <;> rw [h1, h2] <;> decide
def topN (f : Int) : Nat := 2 ^ fe f - 1
def leastN (f : Int) : Int := 2 - 2 ^ (fe f - 1)
theorem least_cases (f : Int) : leastN f = -14 ∨ leastN f = -126 := by
 unfold leastN
 rcases fcases f with ⟨h1, _⟩ | ⟨h1, _⟩ | ⟨h1, _⟩ <;> rw [h1] <;> simp
theorem top_cases (f : Int) : topN f = 31 ∨ topN f = 255 := by
 unfold topN
 rcases fcases f with ⟨h1, _⟩ | ⟨h1, _⟩ | ⟨h1, _⟩ <;> rw [h1] <;> simp
def signN (f : Int) (neg : Bool) : Nat := if neg then 2 ^ (fe f + fm f) else 0
def negN (f : Int) (v : Nat) : Bool := decide (v / 2 ^ (fe f + fm f) % 2 = 1)
def expN (f : Int) (v : Nat) : Nat := v / 2 ^ fm f % 2 ^ fe f
def fracN (f : Int) (v : Nat) : Nat := v % 2 ^ fm f
theorem exp_le (f : Int) (v : Nat) : expN f v ≤ topN f := by
 unfold expN topN
 have := Nat.mod_lt (v / 2 ^ fm f) (Nat.two_pow_pos (fe f))
 omega
theorem frac_lt (f : Int) (v : Nat) : fracN f v < 2 ^ fm f := Nat.mod_lt _ (Nat.two_pow_pos _)

theorem wu (n : Nat) (h : n < 9223372036854775808) : IntKind.u64.wrap (wrap64 (n : Int)) = (n : Int) := by rw [w64_id _ (by omega) (by omega), u64_id _ (by omega)]
theorem pow_le31 {n : Nat} (h : n ≤ 31) : 2 ^ n ≤ 2147483648 := Nat.pow_le_pow_right (show 0 < 2 by decide) h
theorem pow_le32 {n : Nat} (h : n ≤ 32) : 2 ^ n ≤ 4294967296 := Nat.pow_le_pow_right (show 0 < 2 by decide) h
theorem one_shl (n : Nat) (h : n ≤ 31) : shl .u32 1 (n : Int) = ((2 ^ n : Nat) : Int) := by
 have := pow_le31 h
 rw [show (1 : Int) = ((1 : Nat) : Int) from rfl, shl_u32, Nat.one_mul, Nat.mod_eq_of_lt (by omega)]
theorem mask_u32 (a n : Nat) (ha : a < 4294967296) (hn : n ≤ 31) : Go.bits .and .u32 (a : Int) ((shl .u32 1 (n : Int) - 1) % 4294967296) = ((a % 2 ^ n : Nat) : Int) := by
 have h1 := pow_le31 hn
 have h0 := Nat.two_pow_pos n
 rw [one_shl n hn, show (((2 ^ n : Nat) : Int) - 1) % 4294967296 = ((2 ^ n - 1 : Nat) : Int) by omega, and_u32 _ _ ha (by omega), Nat.and_two_pow_sub_one_eq_mod]
theorem and1_u32 (a : Nat) (ha : a < 4294967296) : Go.bits .and .u32 (a : Int) 1 = ((a % 2 : Nat) : Int) := by
 rw [show (1 : Int) = ((2 ^ 1 - 1 : Nat) : Int) from rfl, and_u32 _ _ ha (by decide), Nat.and_two_pow_sub_one_eq_mod]
theorem one_shl_i64 (n : Nat) (h : n ≤ 31) : shl .i64 1 (n : Int) = ((2 ^ n : Nat) : Int) := by
 have := pow_le31 h
 have := Nat.two_pow_pos n
 unfold shl
 rw [Int.toNat_natCast, Nat.min_eq_left (show n ≤ IntKind.i64.bits by show n ≤ 64; omega), i64_wrap, Int.one_mul, ← pow_cast, w64_id _ (by omega) (by omega)]

theorem widths_f (f : Int) : format_Widths.f f = some ((fe f : Int), (fm f : Int)) := by
 unfold format_Widths.f fe fm
 by_cases h : f = 0
 ·subst h; rfl
 ·rw [if_neg h, if_neg h, if_neg h]
  by_cases h1 : f = 1
  ·subst h1; rfl
  ·rw [if_neg h1, if_neg h1]; rfl
def joinN (f : Int) (neg : Bool) (at_ frac : Nat) : Nat := at_ * 2 ^ fm f + frac + signN f neg
theorem join_f (f : Int) (neg : Bool) (a c : Nat) (ha : a ≤ topN f) (hc : c < 2 ^ fm f) : format_Join.f f neg (a : Int) (c : Int) = some (joinN f neg a c : Int) := by
 unfold format_Join.f joinN signN
 rw [widths_f]
 obtain ⟨b1, b2, b3, b4, b5⟩ := fbounds f
 have hp := Nat.two_pow_pos (fm f)
 have hle : a * 2 ^ fm f + 2 ^ fm f ≤ 2 ^ (fe f + fm f) := by
  rw [Nat.pow_add, ← Nat.succ_mul]
  apply Nat.mul_le_mul_right
  unfold topN at ha
  have := Nat.two_pow_pos (fe f); omega
 have h31 := pow_le31 b5
 have e1 : shl .u32 ((a : Int) % 4294967296) (fm f : Int) = ((a * 2 ^ fm f : Nat) : Int) := by
  have : a < 4294967296 := by have := top_cases f; omega
  rw [show (a : Int) % 4294967296 = ((a : Nat) : Int) by omega, shl_u32, Nat.mod_eq_of_lt (by omega)]
 have e2 : Go.bits .or .u32 ((a * 2 ^ fm f : Nat) : Int) (c : Int) = ((a * 2 ^ fm f + c : Nat) : Int) := by
  rw [or_u32 _ _ (by omega) (by omega), or_add _ _ (fm f) (Nat.mul_mod_left ..) hc]
 simp only [Option.bind_some]
 rw [u64_id (fm f) (by omega), if_pos (by omega), e1, e2]
 cases neg
 ·simp
 ·simp only [if_true]
  rw [show (fe f : Int) + (fm f : Int) = ((fe f + fm f : Nat) : Int) by omega, wu _ (by omega), if_pos (by omega), one_shl _ b5, or_u32 _ _ (by omega) (by omega), Nat.or_comm, or_add _ (a * 2 ^ fm f + c) (fe f + fm f) (by simp) (by omega)]
  congr 2; omega
theorem top_f (f : Int) : format_Top.f f = some (topN f : Int) := by
 unfold format_Top.f topN
 rw [widths_f]
 obtain ⟨b1, b2, b3, b4, b5⟩ := fbounds f
 have hp := Nat.two_pow_pos (fe f)
 have h31 := pow_le31 (show fe f ≤ 31 by omega)
 simp only [Option.bind_some]
 rw [u64_id (fe f) (by omega), if_pos (by omega), one_shl_i64 _ (by omega), w64_id _ (by omega) (by omega)]
 congr 1; omega
theorem least_f (f : Int) : format_Least.f f = some (leastN f) := by
 unfold format_Least.f leastN
 rw [widths_f]
 obtain ⟨b1, b2, b3, b4, b5⟩ := fbounds f
 have h31 := pow_le31 (show fe f - 1 ≤ 31 by omega)
 have h0 := Nat.two_pow_pos (fe f - 1)
 simp only [Option.bind_some]
 rw [show (fe f : Int) - 1 = ((fe f - 1 : Nat) : Int) by omega, wu _ (by omega), if_pos (by omega), one_shl_i64 _ (by omega), w64_id _ (by omega) (by omega), pow_cast]
theorem zero_f (f : Int) (neg : Bool) : format_Zero.f f neg = some (signN f neg : Int) := by
 unfold format_Zero.f
 have h := join_f f neg 0 0 (Nat.zero_le _) (Nat.two_pow_pos _)
 rw [show ((0 : Nat) : Int) = 0 from rfl] at h
 rw [h]; unfold joinN; simp
def infN (f : Int) (neg : Bool) : Nat := topN f * 2 ^ fm f + signN f neg
theorem inf_f (f : Int) (neg : Bool) : format_Inf.f f neg = some (infN f neg : Int) := by
 unfold format_Inf.f infN
 have h := join_f f neg (topN f) 0 (Nat.le_refl _) (Nat.two_pow_pos _)
 rw [show ((0 : Nat) : Int) = 0 from rfl] at h
 rw [top_f]; simp only [Option.bind_some]; rw [h]; unfold joinN; simp
def greatN (f : Int) (neg : Bool) : Nat := topN f * 2 ^ fm f - 1 + signN f neg
theorem greatest_f (f : Int) (neg : Bool) : format_Greatest.f f neg = some (greatN f neg : Int) := by
 unfold format_Greatest.f greatN
 obtain ⟨b1, b2, b3, b4, b5⟩ := fbounds f
 have hp := Nat.two_pow_pos (fm f)
 have h31 := pow_le31 (show fm f ≤ 31 by omega)
 have ht := top_cases f
 rw [widths_f, top_f]
 simp only [Option.bind_some]
 rw [u64_id (fm f) (by omega), if_pos (by omega), w64_id _ (by omega) (by omega), one_shl _ (by omega), show (((2 ^ fm f : Nat) : Int) - 1) % 4294967296 = ((2 ^ fm f - 1 : Nat) : Int) by omega, show (topN f : Int) - 1 = ((topN f - 1 : Nat) : Int) by omega, join_f f neg _ _ (by omega) (by omega)]
 simp only [Option.bind_some]
 unfold joinN
 congr 2
 have : topN f * 2 ^ fm f = (topN f - 1) * 2 ^ fm f + 2 ^ fm f := by rw [← Nat.succ_mul]; congr 1; omega
 omega
end Go.Proofs.Ytejkemahdincjaa.Fmt

/- What the reference's formats are: the same plain numbers. -/
namespace Go.Proofs.Ytejkemahdincjaa.Round
open Go.RowKit Go.Proofs.Ytejkemahdincjaa.P Go.Proofs.Ytejkemahdincjaa.Num Go.Proofs.Ytejkemahdincjaa.BitsF Go.Proofs.Ytejkemahdincjaa.Fmt Go.Proofs.YtejkemahdincjaaW.PrintWords Go.Proofs.YtejkemahdincjaaW.PrintLast Go.Proofs.YtejkemahdincjaaW.PrintMore

theorem beq_nn (a b : Nat) : (((a : Int) == (b : Int)) : Bool) = decide (a = b) := by
 by_cases h : a = b
 ·subst h; simp
 ·rw [beq_eq_false_iff_ne.mpr (by omega)]; simp [h]
theorem ref_widths_f (f : Int) : annealref1_Widths.f f = some ((fe f : Int), (fm f : Int)) := by
 unfold annealref1_Widths.f fe fm
 by_cases h : f = 0
 ·subst h; rfl
 ·rw [if_neg h, if_neg h, if_neg h]
  by_cases h1 : f = 1
  ·subst h1; rfl
  ·rw [if_neg h1, if_neg h1]; rfl
theorem ref_sign_f (f : Int) (neg : Bool) : annealref1_sign.f f neg = some (signN f neg : Int) := by
 unfold annealref1_sign.f signN
 obtain ⟨b1, b2, b3, b4, b5⟩ := fbounds f
 rw [ref_widths_f]; simp only [Option.bind_some]
 cases neg
 ·rfl
 ·simp only [if_true]
  rw [show (fe f : Int) + (fm f : Int) = ((fe f + fm f : Nat) : Int) by omega, w64_id _ (by omega) (by omega), if_pos (by omega), one_shl _ b5]
theorem ref_zero_f (f : Int) (neg : Bool) : annealref1_Zero.f f neg = some (signN f neg : Int) := by
 unfold annealref1_Zero.f; rw [ref_sign_f]; rfl
theorem ref_bias_f (f : Int) : annealref1_bias.f f = some (1 - leastN f) := by
 unfold annealref1_bias.f leastN
 obtain ⟨b1, b2, b3, b4, b5⟩ := fbounds f
 have h31 := pow_le31 (show fe f - 1 ≤ 31 by omega)
 have h0 := Nat.two_pow_pos (fe f - 1)
 rw [ref_widths_f]; simp only [Option.bind_some]
 rw [show (fe f : Int) - 1 = ((fe f - 1 : Nat) : Int) by omega, w64_id _ (by omega) (by omega), if_pos (by omega), one_shl_i64 _ (by omega), w64_id _ (by omega) (by omega), ← pow_cast]
 congr 1; omega
theorem inf_lt (f : Int) (neg : Bool) : infN f neg < 4294967296 ∧ topN f * 2 ^ fm f + 2 ^ fm f = 2 ^ (fe f + fm f) := by
 obtain ⟨b1, b2, b3, b4, b5⟩ := fbounds f
 have h31 := pow_le31 b5
 have hp := Nat.two_pow_pos (fm f)
 have e : topN f * 2 ^ fm f + 2 ^ fm f = 2 ^ (fe f + fm f) := by
  rw [Nat.pow_add, ← Nat.succ_mul]; congr 1
  unfold topN; have := Nat.two_pow_pos (fe f); omega
 refine ⟨?_, e⟩
 unfold infN signN; split <;> omega
theorem ref_inf_f (f : Int) (neg : Bool) : annealref1_Inf.f f neg = some (infN f neg : Int) := by
 unfold annealref1_Inf.f infN
 obtain ⟨b1, b2, b3, b4, b5⟩ := fbounds f
 obtain ⟨_, hi⟩ := inf_lt f neg
 have h31 := pow_le31 b5
 have hp := Nat.two_pow_pos (fm f)
 have hpe := Nat.two_pow_pos (fe f)
 have h8 := pow_le31 (show fe f ≤ 31 by omega)
 rw [ref_widths_f, ref_sign_f]; simp only [Option.bind_some]
 rw [if_pos (by omega), if_pos (by omega), one_shl _ (by omega), show (((2 ^ fe f : Nat) : Int) - 1) % 4294967296 = ((topN f : Nat) : Int) by unfold topN; omega, shl_u32, Nat.mod_eq_of_lt (by omega)]
 unfold signN
 cases neg
 ·simp only [Bool.false_eq_true, if_false]
  rw [or_u32 _ _ (by omega) (by omega), Nat.zero_or, Nat.add_zero]
 ·simp only [if_true]
  rw [or_u32 _ _ (by omega) (by omega), or_add _ _ (fe f + fm f) (by simp) (by omega), Nat.add_comm]
/- The reference's parts of a number, its class, its whole number and exponent, its place in the order: as plain numbers. -/

def lowN (f : Int) (v : Nat) : Nat := v % 2 ^ (fe f + fm f + 1)
theorem low_lt (f : Int) (v : Nat) : lowN f v < 2 ^ (fe f + fm f + 1) := Nat.mod_lt _ (Nat.two_pow_pos _)
theorem low_32 (f : Int) (v : Nat) : lowN f v < 4294967296 := by
 obtain ⟨b1, b2, b3, b4, b5⟩ := fbounds f
 have := low_lt f v
 have := pow_le32 (show fe f + fm f + 1 ≤ 32 by omega)
 omega
def maskN (f : Int) : Nat := 2 ^ (fe f + fm f + 1) - 1
theorem mask_lit (n : Nat) (hn : n ≤ 32) : (IntKind.u64.wrap (shl .u64 1 (n : Int) - 1)) % 4294967296 = ((2 ^ n - 1 : Nat) : Int) := by
 have h32 := pow_le32 hn
 have h0 := Nat.two_pow_pos n
 rw [show shl .u64 1 (n : Int) = _ from shl_u64 1 n, Nat.one_mul]
 generalize 2 ^ n = P at *
 rw [Nat.mod_eq_of_lt (by omega), u64_wrap]
 omega
theorem width_f (f : Int) : wrap64 ((wrap64 (1 + (fe f : Int))) + (fm f : Int)) = ((fe f + fm f + 1 : Nat) : Int) := by
 obtain ⟨b1, b2, b3, b4, b5⟩ := fbounds f
 rw [w64_id (1 + (fe f : Int)) (by omega) (by omega), w64_id _ (by omega) (by omega)]; omega
theorem ref_mask_f (f : Int) : annealref1_Mask.f f = some (maskN f : Int) := by
 unfold annealref1_Mask.f
 have h := fbounds f
 rw [ref_widths_f, Option.bind_some]
 dsimp only
 rw [width_f, mask_lit _ (by omega)]
 exact if_pos (Int.natCast_nonneg _)
theorem and_mask (f : Int) (v : Nat) (hv : v < 4294967296) : Go.bits .and .u32 (v : Int) (maskN f : Int) = (lowN f v : Int) := by
 unfold maskN lowN
 have h := fbounds f
 have h32 := pow_le32 (show fe f + fm f + 1 ≤ 32 by omega)
 generalize fe f + fm f + 1 = n at *
 have h0 := Nat.two_pow_pos n
 rw [and_u32 _ _ hv (by omega), Nat.and_two_pow_sub_one_eq_mod]
theorem top_bit (f : Int) (v : Nat) : ((((lowN f v / 2 ^ (fe f + fm f) : Nat) : Int) == 1) : Bool) = negN f (lowN f v) := by
 rw [show (1 : Int) = ((1 : Nat) : Int) from rfl, beq_nn]
 unfold negN
 have : lowN f v / 2 ^ (fe f + fm f) < 2 := by rw [Nat.div_lt_iff_lt_mul (Nat.two_pow_pos _), Nat.mul_comm, ← Nat.pow_succ]; exact low_lt f v
 rw [Nat.mod_eq_of_lt this]
theorem small_w64 (a n : Nat) (hn : n ≤ 31) : wrap64 ((a % 2 ^ n : Nat) : Int) = ((a % 2 ^ n : Nat) : Int) := by
 have h1 := pow_le31 hn
 have h2 := Nat.mod_lt a (Nat.two_pow_pos n)
 generalize a % 2 ^ n = q at *
 exact w64_id _ (by omega) (by omega)
theorem small_u64 (a n : Nat) (hn : n ≤ 31) : IntKind.u64.wrap ((a % 2 ^ n : Nat) : Int) = ((a % 2 ^ n : Nat) : Int) := by
 have h1 := pow_le31 hn
 have h2 := Nat.mod_lt a (Nat.two_pow_pos n)
 generalize a % 2 ^ n = q at *
 exact u64_id _ (by omega)
theorem ref_parts_f (f : Int) (v : Nat) (hv : v < 4294967296) : annealref1_parts.f f (v : Int) = some (negN f (lowN f v), (expN f (lowN f v) : Int), (fracN f (lowN f v) : Int)) := by
 unfold annealref1_parts.f
 obtain ⟨b1, b2, b3, b4, b5⟩ := fbounds f
 have hl := low_32 f v
 rw [ref_widths_f, Option.bind_some, ref_mask_f, Option.bind_some]
 dsimp only
 rw [and_mask f v hv, show (fe f : Int) + (fm f : Int) = ((fe f + fm f : Nat) : Int) by omega, w64_id _ (by omega) (by omega), if_pos (by omega), if_pos (by omega), if_pos (by omega), shr_u32 _ _ hl, shr_u32 _ _ hl, mask_u32 _ _ (Nat.lt_of_le_of_lt (Nat.div_le_self _ _) hl) (by omega), mask_u32 _ _ hl (by omega), top_bit, small_w64 _ _ (by omega), small_u64 _ _ (by omega)]
 unfold expN fracN
 exact Eq.refl _
def clsN (f : Int) (v : Nat) : Nat :=
 if expN f v = 0 then (if fracN f v = 0 then 0 else 1) else if expN f v < topN f then 2 else if fracN f v = 0 then 3 else if fracN f v / 2 ^ (fm f - 1) = 1 then 4 else 5
theorem ref_class_ev (f : Int) (v : Nat) (hv : v < 4294967296) : Ev (fun k => annealref1_Class.f k f (v : Int)) (clsN f (lowN f v) : Int) := by
 obtain ⟨b1, b2, b3, b4, b5⟩ := fbounds f
 have h31 := pow_le31 (show fe f ≤ 31 by omega)
 have h0 := Nat.two_pow_pos (fe f)
 have hfr := frac_lt f (lowN f v)
 have h31' := pow_le31 (show fm f ≤ 31 by omega)
 refine ⟨1, fun k hk => ?_⟩
 obtain ⟨k, rfl⟩ : ∃ j, k = j + 1 := ⟨k - 1, by omega⟩
 unfold annealref1_Class.f clsN
 rw [ref_widths_f, ref_parts_f f v hv]
 simp only [Option.bind_some]
 generalize expN f (lowN f v) = e
 generalize fracN f (lowN f v) = m at *
 have ht : wrap64 (((2 ^ fe f : Nat) : Int) - 1) = (topN f : Int) := by rw [w64_id _ (by omega) (by omega)]; unfold topN; omega
 by_cases c : e = 0
 ·subst c
  rw [if_pos (by rfl), annealref1_Class.j0, if_pos rfl]
  by_cases c2 : m = 0
  ·subst c2; rfl
  ·rw [if_neg (by simp; omega), if_pos (by rfl), if_neg c2]; rfl
 ·rw [if_neg (by omega), annealref1_Class.j0, if_neg (by decide), if_neg (by omega), if_pos (by omega), one_shl_i64 _ (by omega), ht, if_neg c]
  by_cases c2 : e < topN f
  ·rw [if_pos (by omega), if_pos c2]; rfl
  ·rw [if_neg (by omega), if_neg c2]
   by_cases c3 : m = 0
   ·rw [if_pos (by omega), if_pos c3]; rfl
   ·rw [if_neg (by omega), if_neg c3, w64_id _ (by omega) (by omega), if_pos (by omega), show (fm f : Int) - 1 = ((fm f - 1 : Nat) : Int) by omega, shr_u64 _ _ (by omega)]
    by_cases c4 : m / 2 ^ (fm f - 1) = 1
    ·rw [if_pos (by rw [c4]; rfl), if_pos c4]; rfl
    ·rw [if_neg (by omega), if_neg c4]; rfl
theorem cls_finite (f : Int) (v : Nat) : clsN f v < 3 ↔ expN f v < topN f := by
 have := top_cases f
 unfold clsN
 split
 ·split <;> omega
 ·split
  ·omega
  ·split
   ·omega
   ·split <;> omega
def wholeN (f : Int) (v : Nat) : Nat := if expN f v = 0 then fracN f v else fracN f v + 2 ^ fm f
def lowestN (f : Int) (v : Nat) : Int := leastN f - fm f + (expN f v - 1 : Nat)
theorem or_top (m n : Nat) (h : m < 2 ^ n) (hn : n ≤ 31) : Go.bits .or .u64 (m : Int) (shl .u64 1 (n : Int)) = ((m + 2 ^ n : Nat) : Int) := by
 have h31 := pow_le31 hn
 rw [show (1 : Int) = ((1 : Nat) : Int) from rfl, shl_u64, Nat.one_mul, Nat.mod_eq_of_lt (by omega), or_u64 _ _ (by omega) (by omega), Nat.or_comm, or_add _ _ n (by simp) h, Nat.add_comm]
theorem low_parts (f : Int) (v : Nat) : lowN f v = expN f (lowN f v) * 2 ^ fm f + fracN f (lowN f v) + signN f (negN f (lowN f v)) := by
 have hlt := low_lt f v
 generalize lowN f v = x at *
 unfold expN fracN signN negN
 have h1 : x / 2 ^ (fe f + fm f) < 2 := by rw [Nat.div_lt_iff_lt_mul (Nat.two_pow_pos _), Nat.mul_comm, ← Nat.pow_succ]; exact hlt
 have h2 : x / 2 ^ fm f / 2 ^ fe f = x / 2 ^ (fe f + fm f) := by rw [Nat.div_div_eq_div_mul, ← Nat.pow_add, Nat.add_comm]
 have h3 := Nat.div_add_mod x (2 ^ fm f)
 have h4 := Nat.div_add_mod (x / 2 ^ fm f) (2 ^ fe f)
 rw [h2] at h4
 have h5 : 2 ^ (fe f + fm f) = 2 ^ fm f * 2 ^ fe f := by rw [← Nat.pow_add, Nat.add_comm]
 rw [Nat.mod_eq_of_lt h1]
 generalize x / 2 ^ (fe f + fm f) = b at *
 generalize hq : x / 2 ^ fm f % 2 ^ fe f = q at *
 generalize x % 2 ^ fm f = r at *
 rw [← h4, Nat.mul_add] at h3
 have h6 : b = 0 ∨ b = 1 := by omega
 rcases h6 with rfl | rfl
 ·rw [if_neg (by decide)]; rw [Nat.mul_comm q]; omega
 ·rw [if_pos (by decide), h5, Nat.mul_comm q]
  rw [Nat.mul_one] at h3
  omega
theorem ref_neg_f (f : Int) (v : Nat) (hv : v < 4294967296) : annealref1_neg.f f (v : Int) = some (negN f (lowN f v)) := by
 unfold annealref1_neg.f; rw [ref_parts_f f v hv]; rfl
/- The reference's classes and order of any numbers: plain numbers. -/

theorem mod_part (v a b c : Nat) (h : b + c ≤ a) : v % 2 ^ a / 2 ^ b % 2 ^ c = v / 2 ^ b % 2 ^ c := by
 apply Nat.eq_of_testBit_eq
 intro i
 rw [Nat.testBit_mod_two_pow, Nat.testBit_mod_two_pow, Nat.testBit_div_two_pow, Nat.testBit_div_two_pow, Nat.testBit_mod_two_pow]
 by_cases h1 : i < c
 ·have : i + b < a := by omega
  simp [h1, this]
 ·simp [h1]
theorem neg_low (f : Int) (v : Nat) : negN f (lowN f v) = negN f v := by
 unfold negN lowN
 have := mod_part v (fe f + fm f + 1) (fe f + fm f) 1 (Nat.le_refl _)
 rw [Nat.pow_one] at this
 rw [this]
theorem exp_low (f : Int) (v : Nat) : expN f (lowN f v) = expN f v := mod_part v (fe f + fm f + 1) (fm f) (fe f) (by omega)
theorem frac_low (f : Int) (v : Nat) : fracN f (lowN f v) = fracN f v := by
 have := mod_part v (fe f + fm f + 1) 0 (fm f) (by omega)
 rw [Nat.pow_zero, Nat.div_one, Nat.div_one] at this
 exact this
theorem cls_low (f : Int) (v : Nat) : clsN f (lowN f v) = clsN f v := by unfold clsN; rw [exp_low, frac_low]
theorem whole_low (f : Int) (v : Nat) : wholeN f (lowN f v) = wholeN f v := by unfold wholeN; rw [exp_low, frac_low]
theorem lowest_low (f : Int) (v : Nat) : lowestN f (lowN f v) = lowestN f v := by unfold lowestN; rw [exp_low]

theorem rclass_ev (f : Int) (v : Nat) (hv : v < 4294967296) : Ev (fun k => annealref1_Class.f k f (v : Int)) (clsN f v : Int) := by
 have := ref_class_ev f v hv; rw [cls_low] at this; exact this
theorem rneg_f (f : Int) (v : Nat) (hv : v < 4294967296) : annealref1_neg.f f (v : Int) = some (negN f v) := by rw [ref_neg_f f v hv, neg_low]
theorem rzero_ev (f : Int) (v : Nat) (hv : v < 4294967296) : Ev (fun k => annealref1_zero.f k f (v : Int)) (decide (clsN f v = 0)) := by
 refine Ev.congr (fun k => by unfold annealref1_zero.f; rfl) (Ev.bind (rclass_ev f v hv) (Ev.congr (fun k => ?_) (Ev.now _)))
 rw [show (0 : Int) = ((0 : Nat) : Int) from rfl, beq_nn]
def isNan (f : Int) (v : Nat) : Bool := decide (4 ≤ clsN f v)
def isLoud (f : Int) (v : Nat) : Bool := decide (clsN f v = 5)
theorem cls_le (f : Int) (v : Nat) : clsN f v ≤ 5 := by
 unfold clsN
 repeat' split
 all_goals omega
theorem nans_step (f : Int) (L : List Int) (i v : Nat) (b c : Bool) (r : Bool × Bool) (hi : i < L.length) (hn : L.length ≤ 100) (hv : v < 4294967296) (hr : rd L (i : Int) = (v : Int))
  (h : Ev (fun k => annealref1_nans.l0 k f L (b || isNan f v) (c || isLoud f v) ((i + 1 : Nat) : Int)) r) : Ev (fun k => annealref1_nans.l0 k f L b c (i : Int)) r := by
 have hw : wrap64 ((i : Int) + 1) = ((i + 1 : Nat) : Int) := by rw [w64_id _ (by omega) (by omega)]; omega
 have hc := cls_le f v
 refine Ev.step (fun k => by rw [annealref1_nans.l0, if_pos (by omega), if_pos (Int.natCast_nonneg _), hr, hw]) (Ev.bind (rclass_ev f v hv) (Ev.congr (fun k => ?_) h))
 have e5 : (((clsN f v : Nat) : Int) == 5) = isLoud f v := by rw [show (5 : Int) = ((5 : Nat) : Int) from rfl, beq_nn]; rfl
 rw [e5]
 cases b
 ·by_cases c4 : clsN f v = 4
  ·have n4 : isNan f v = true := by unfold isNan; rw [c4]; rfl
   rw [if_neg (by decide), if_pos (by omega), n4]
   cases c <;> simp
  ·have n4 : isNan f v = isLoud f v := by unfold isNan isLoud; apply decide_eq_decide.mpr; omega
   rw [if_neg (by decide), if_neg (by omega), n4]
   cases c <;> simp
 ·cases c <;> simp
theorem nans_end (f : Int) (L : List Int) (b c : Bool) : Ev (fun k => annealref1_nans.l0 k f L b c (L.length : Int)) (b, c) :=
 Ev.step (fun k => by rw [annealref1_nans.l0, if_neg (by omega)]) (Ev.now _)
theorem nans2_ev (f : Int) (a b : Nat) (ha : a < 4294967296) (hb : b < 4294967296) : Ev (fun k => annealref1_nans.f k f [(a : Int), (b : Int)]) (isNan f a || isNan f b, isLoud f a || isLoud f b) := by
 refine Ev.congr (fun k => by unfold annealref1_nans.f; rfl) (nans_step f _ 0 a false false _ (by simp) (by simp) ha rfl (nans_step f _ 1 b _ _ _ (by simp) (by simp) hb rfl ?_))
 rw [Bool.false_or, Bool.false_or]
 exact nans_end f [(a : Int), (b : Int)] _ _
/- The reference's finite numbers: their whole numbers and exponents. -/

theorem ref_unpack_ev (f : Int) (v : Nat) (hv : v < 4294967296) (h : expN f (lowN f v) < topN f) :
  Ev (fun k => annealref1_Unpack.f k f (v : Int)) (negN f (lowN f v), lowestN f (lowN f v), (wholeN f (lowN f v) : Int)) := by
 obtain ⟨b1, b2, b3, b4, b5⟩ := fbounds f
 have hfr := frac_lt f (lowN f v)
 have hls := least_cases f
 have htp := top_cases f
 obtain ⟨K, hK⟩ := ref_class_ev f v hv
 refine ⟨K, fun k hk => ?_⟩
 show annealref1_Unpack.f k f (v : Int) = _
 unfold annealref1_Unpack.f
 rw [ref_widths_f, ref_parts_f f v hv, show annealref1_Class.f k f (v : Int) = _ from hK k hk, ref_bias_f]
 simp only [Option.bind_some]
 unfold lowestN wholeN clsN
 generalize expN f (lowN f v) = e at *
 generalize fracN f (lowN f v) = m at *
 by_cases c : e = 0
 ·subst c
  have e1 : wrap64 ((wrap64 (1 - (1 - leastN f))) - (fm f : Int)) = leastN f - fm f + ((0 - 1 : Nat) : Int) := by
   rw [w64_id (1 - (1 - leastN f)) (by omega) (by omega), w64_id _ (by omega) (by omega)]; omega
  rw [e1]
  by_cases c2 : m = 0
  ·subst c2; rfl
  ·simp only [if_true, if_neg c2]; rfl
 ·rw [if_neg c, if_pos h, if_neg c]
  have e1 : wrap64 ((wrap64 ((e : Int) - (1 - leastN f))) - (fm f : Int)) = leastN f - fm f + ((e - 1 : Nat) : Int) := by
   rw [w64_id ((e : Int) - (1 - leastN f)) (by omega) (by omega), w64_id _ (by omega) (by omega)]; omega
  rw [e1, or_top m _ hfr (by omega), if_pos (by rfl), if_pos (by omega)]
/- The program's parts of a number, its class, its whole number and exponent: as plain numbers; the reference's are the same. -/

theorem sum_w (f : Int) : IntKind.u64.wrap (wrap64 ((fe f : Int) + (fm f : Int))) = ((fe f + fm f : Nat) : Int) := by
 have h := fbounds f
 rw [show (fe f : Int) + (fm f : Int) = ((fe f + fm f : Nat) : Int) by omega, wu _ (by omega)]
theorem parts_f (f : Int) (v : Nat) (hv : v < 4294967296) : format_Parts.f f (v : Int) = some (negN f v, (expN f v : Int), (fracN f v : Int)) := by
 unfold format_Parts.f
 have h := fbounds f
 have hd : v / 2 ^ (fe f + fm f) < 4294967296 := Nat.lt_of_le_of_lt (Nat.div_le_self _ _) hv
 have hd' : v / 2 ^ fm f < 4294967296 := Nat.lt_of_le_of_lt (Nat.div_le_self _ _) hv
 rw [widths_f, Option.bind_some]
 dsimp only
 rw [sum_w, u64_id (fm f) (by omega), u64_id (fe f) (by omega), if_pos (Int.natCast_nonneg _), if_pos (Int.natCast_nonneg _), if_pos (Int.natCast_nonneg _), shr_u32 _ _ hv, shr_u32 _ _ hv, and1_u32 _ hd, mask_u32 _ _ hd' (by omega), mask_u32 _ _ hv (by omega), small_w64 _ _ (by omega)]
 rw [show (1 : Int) = ((1 : Nat) : Int) from rfl, beq_nn]
 unfold negN expN fracN
 exact Eq.refl _
theorem class_j0 (k : Nat) (f : Int) (e m : Nat) (he : e ≤ topN f) (hm : m < 2 ^ fm f) (hz : ¬ (e = 0 ∧ m = 0)) :
  format_Class.j0 (k + 1) f (fm f : Int) (e : Int) (m : Int) false = some (((if e = 0 then (if m = 0 then 0 else 1) else if e < topN f then 2 else if m = 0 then 3 else if m / 2 ^ (fm f - 1) = 1 then 4 else 5 : Nat)) : Int) := by
 have h := fbounds f
 have h31 := pow_le31 (show fm f ≤ 31 by omega)
 rw [format_Class.j0, if_neg (by decide)]
 by_cases c : e = 0
 ·subst c
  rw [if_pos (by rfl), if_pos rfl, if_neg (fun h => hz ⟨rfl, h⟩)]; rfl
 ·rw [if_neg (by omega), if_neg c, top_f, Option.bind_some]
  by_cases c2 : e < topN f
  ·rw [if_pos (by omega), if_pos c2]; rfl
  ·rw [if_neg (by omega), if_neg c2]
   by_cases c3 : m = 0
   ·rw [if_pos (by omega), if_pos c3]; rfl
   ·rw [if_neg (by omega), if_neg c3, show (fm f : Int) - 1 = ((fm f - 1 : Nat) : Int) by omega, wu _ (by omega), if_pos (Int.natCast_nonneg _), shr_u32 _ _ (by omega)]
    by_cases c4 : m / 2 ^ (fm f - 1) = 1
    ·rw [if_pos (by rw [c4]; rfl), if_pos c4]; rfl
    ·rw [if_neg (by omega), if_neg c4]; rfl
theorem class_ev (f : Int) (v : Nat) (hv : v < 4294967296) : Ev (fun k => format_Class.f k f (v : Int)) (clsN f v : Int) := by
 have he := exp_le f v
 have hm := frac_lt f v
 refine ⟨1, fun k hk => ?_⟩
 obtain ⟨k, rfl⟩ : ∃ j, k = j + 1 := ⟨k - 1, by omega⟩
 show format_Class.f (k + 1) f (v : Int) = _
 unfold format_Class.f clsN
 rw [widths_f, Option.bind_some, parts_f f v hv, Option.bind_some]
 dsimp only
 generalize expN f v = e at *
 generalize fracN f v = m at *
 by_cases c : e = 0 ∧ m = 0
 ·obtain ⟨rfl, rfl⟩ := c
  rw [if_pos (by rfl), format_Class.j0, if_pos (by rfl), if_pos rfl, if_pos rfl]; rfl
 ·by_cases c2 : e = 0
  ·have e2 : (((m : Int) == 0) : Bool) = false := by simp; omega
   rw [if_pos (by omega), e2, class_j0 k f e m he hm c]
  ·rw [if_neg (by omega), class_j0 k f e m he hm c]
theorem neg_f (f : Int) (v : Nat) (hv : v < 4294967296) : format_Neg.f f (v : Int) = some (negN f v) := by
 unfold format_Neg.f; rw [parts_f f v hv]; rfl
def nanN (f : Int) : Nat := topN f * 2 ^ fm f + 2 ^ (fm f - 1)
theorem half_frac (f : Int) : 2 ^ (fm f - 1) < 2 ^ fm f := by
 have h := fbounds f
 exact Nat.pow_lt_pow_right (by decide) (by omega)
theorem nan_f (f : Int) : format_Nan.f f = some (nanN f : Int) := by
 unfold format_Nan.f
 have h := fbounds f
 rw [widths_f, Option.bind_some, top_f, Option.bind_some]
 dsimp only
 rw [show (fm f : Int) - 1 = ((fm f - 1 : Nat) : Int) by omega, wu _ (by omega), if_pos (Int.natCast_nonneg _), one_shl _ (by omega), join_f f false _ _ (Nat.le_refl _) (half_frac f), Option.bind_some]
 unfold joinN nanN
 simp [signN]
theorem bad_f (f : Int) : sum_Bad.f f = some ((nanN f : Int), true, false, false, false, false) := by
 unfold sum_Bad.f; rw [nan_f]; rfl
theorem ref_nan_f (f : Int) : annealref1_Nan.f f = some (nanN f : Int) := by
 unfold annealref1_Nan.f
 have h := fbounds f
 obtain ⟨hi, _⟩ := inf_lt f false
 have hh := half_frac f
 have h31 := pow_le31 (show fm f ≤ 31 by omega)
 rw [ref_widths_f, Option.bind_some, ref_inf_f, Option.bind_some]
 dsimp only
 rw [show (fm f : Int) - 1 = ((fm f - 1 : Nat) : Int) by omega, w64_id _ (by omega) (by omega), if_pos (Int.natCast_nonneg _), one_shl _ (by omega), or_u32 _ _ hi (by omega)]
 unfold infN nanN
 rw [show signN f false = 0 from rfl, Nat.add_zero, or_add _ _ (fm f) (Nat.mul_mod_left ..) hh]
theorem unpack_f (f : Int) (v : Nat) (hv : v < 4294967296) (h : expN f v < topN f) : format_Unpack.f f (v : Int) = some (negN f v, lowestN f v, (wholeN f v : Int)) := by
 unfold format_Unpack.f lowestN wholeN
 obtain ⟨b1, b2, b3, b4, b5⟩ := fbounds f
 have hm := frac_lt f v
 have h31 := pow_le31 (show fm f ≤ 31 by omega)
 have hl := least_cases f
 have ht := top_cases f
 rw [widths_f, Option.bind_some, parts_f f v hv, Option.bind_some]
 dsimp only
 generalize expN f v = e at *
 generalize fracN f v = m at *
 by_cases c : e = 0
 ·subst c
  rw [if_pos (by rfl), least_f, Option.bind_some, if_pos rfl, w64_id (leastN f - fm f) (by omega) (by omega), u64_id m (by omega)]
  simp
 ·rw [if_neg (by omega), top_f, Option.bind_some, if_neg (by omega), least_f, Option.bind_some, if_neg c, u64_id (fm f) (by omega), if_pos (Int.natCast_nonneg _), u64_id m (by omega), or_top m _ hm (by omega), w64_id (leastN f - fm f) (by omega) (by omega), w64_id (leastN f - fm f + e) (by omega) (by omega), w64_id _ (by omega) (by omega), show leastN f - (fm f : Int) + (e : Int) - 1 = leastN f - fm f + ((e - 1 : Nat) : Int) by omega]
theorem of_f (f : Int) (v : Nat) (hv : v < 4294967296) (h : expN f v < topN f) : sum_Of.f f (v : Int) = some (negN f v, lowestN f v, (wholeN f v : Int), false) := by
 unfold sum_Of.f; rw [unpack_f f v hv h]; rfl

theorem runpack_ev (f : Int) (v : Nat) (hv : v < 4294967296) (h : expN f v < topN f) : Ev (fun k => annealref1_Unpack.f k f (v : Int)) (negN f v, lowestN f v, (wholeN f v : Int)) := by
 have := ref_unpack_ev f v hv (by rw [exp_low]; exact h); rw [neg_low, lowest_low, whole_low] at this; exact this
theorem rinf_ev (f : Int) (v : Nat) (hv : v < 4294967296) : Ev (fun k => annealref1_inf.f k f (v : Int)) (decide (clsN f v = 3)) := by
 refine Ev.congr (fun k => by unfold annealref1_inf.f; rfl) (Ev.bind (rclass_ev f v hv) (Ev.congr (fun k => ?_) (Ev.now _)))
 rw [show (3 : Int) = ((3 : Nat) : Int) from rfl, beq_nn]
/- What the program's rounding computes, as plain numbers. -/

def quoN (s : Nat) (d : Int) : Nat := if d ≤ 0 then s * 2 ^ (-d).toNat else s / 2 ^ d.toNat
def leftN (s : Nat) (d : Int) (more : Bool) : Nat :=
 if d ≤ 0 ∨ s % 2 ^ d.toNat = 0 then (if more then 1 else 0)
 else if s / 2 ^ (d.toNat - 1) % 2 = 0 then 1 else if s % 2 ^ (d.toNat - 1) ≠ 0 ∨ more = true then 3 else 2
def upN (mode : Int) (neg : Bool) (q left : Nat) : Bool :=
 if mode = 1 then false else if mode = 2 then (!neg && decide (left ≠ 0)) else if mode = 3 then (neg && decide (left ≠ 0))
 else if mode = 4 then decide (2 ≤ left) else (decide (left = 3) || (decide (left = 2) && decide (q % 2 = 1)))
def riseN (f : Int) (x : Int) (s : Nat) : Nat := if s = 0 then 0 else (x + lenN s - 1 - leastN f).toNat
def unitN (f : Int) (x : Int) (s : Nat) : Int := leastN f - fm f + riseN f x s
def keyN (f mode : Int) (neg : Bool) (x : Int) (s : Nat) (more : Bool) : Nat :=
 riseN f x s * 2 ^ fm f + quoN s (unitN f x s - x) + (if upN mode neg (quoN s (unitN f x s - x)) (leftN s (unitN f x s - x) more) then 1 else 0)
def overN (f : Int) (k : Nat) : Bool := decide (topN f * 2 ^ fm f ≤ k)
def endless (mode : Int) (neg : Bool) : Bool := if mode = 1 then false else if mode = 2 then !neg else if mode = 3 then neg else true
def inexN (f : Int) (x : Int) (s : Nat) (more : Bool) : Bool := decide (leftN s (unitN f x s - x) more ≠ 0)
def underN (f : Int) (x : Int) (s : Nat) (more : Bool) : Bool := inexN f x s more && (decide (s = 0) || decide (x + lenN s - 1 < leastN f))
def packN (f mode : Int) (neg : Bool) (x : Int) (s : Nat) (more : Bool) : Nat :=
 (if overN f (keyN f mode neg x s more) then (if endless mode neg then topN f * 2 ^ fm f else topN f * 2 ^ fm f - 1) else keyN f mode neg x s more) + signN f neg
def excN (f mode : Int) (neg : Bool) (x : Int) (s : Nat) (more : Bool) : Bool × Bool × Bool :=
 if overN f (keyN f mode neg x s more) then (true, false, true) else (false, underN f x s more, inexN f x s more)
def clampE (x : Int) : Int := mn (mx x (-10000)) 10000
theorem clampE_bounds (x : Int) : -10000 ≤ clampE x ∧ clampE x ≤ 10000 := by
 unfold clampE mn mx; split <;> split <;> omega
theorem clampE_id (x : Int) (h : -10000 ≤ x) (h' : x ≤ 10000) : clampE x = x := by
 unfold clampE mn mx; split <;> split <;> omega

theorem unit_f (k : Nat) (f x : Int) (s : Nat) (hs : s < 18446744073709551616) (h1 : -10000 ≤ x) (h2 : x ≤ 10000) : round_Unit.f (k + 1) f x (s : Int) = some (unitN f x s) := by
 unfold round_Unit.f unitN riseN
 obtain ⟨b1, b2, b3, b4, b5⟩ := fbounds f
 have hl := least_cases f
 have hn := lenN_small s hs
 simp only [widths_f, least_f, Option.bind_some]
 by_cases c : s = 0
 ·subst c
  rw [if_neg (by decide), if_pos rfl, w64_id _ (by omega) (by omega)]; simp
 ·rw [if_pos (by omega), if_neg c, len_f k s hs]
  simp only [Option.bind_some]
  rw [w64_id (x + _) (by omega) (by omega), w64_id (x + _ - 1) (by omega) (by omega)]
  unfold mx
  split
  ·rw [w64_id _ (by omega) (by omega)]; congr 1; omega
  ·rw [w64_id _ (by omega) (by omega)]; congr 1; omega
theorem quo_lt (s : Nat) (d : Int) (h : d ≤ 0) (h' : s * 2 ^ (-d).toNat < 18446744073709551616) : s * 2 ^ (-d).toNat % 18446744073709551616 = quoN s d := by
 unfold quoN; rw [if_pos h, Nat.mod_eq_of_lt h']
theorem left_le (s : Nat) (d : Int) (more : Bool) : leftN s d more ≤ 3 := by
 unfold leftN; split
 ·split <;> omega
 ·split
  ·omega
  ·split <;> omega
theorem shiftN_fst (v : Nat) (n : Int) : (shiftN v n).1 = if 0 ≤ n then v / 2 ^ n.toNat else v * 2 ^ (-n).toNat % 18446744073709551616 := by
 unfold shiftN; split <;> rfl
theorem left_none {s : Nat} {d : Int} (more : Bool) (h : d ≤ 0 ∨ s % 2 ^ d.toNat = 0) : leftN s d more = if more then 1 else 0 := by
 unfold leftN; rw [if_pos h]
theorem left_some {s : Nat} {d : Int} (more : Bool) (h : ¬ d ≤ 0) (h' : ¬ s % 2 ^ d.toNat = 0) :
  leftN s d more = if s / 2 ^ (d.toNat - 1) % 2 = 0 then 1 else if s % 2 ^ (d.toNat - 1) ≠ 0 ∨ more = true then 3 else 2 := by
 unfold leftN; rw [if_neg (not_or.mpr ⟨h, h'⟩)]
theorem units_f (k : Nat) (s : Nat) (hs : s < 18446744073709551616) (d : Int) (h1 : -100000 ≤ d) (h2 : d ≤ 100000) (more : Bool) (hq : d ≤ 0 → s * 2 ^ (-d).toNat < 18446744073709551616) :
  round_Units.f (k + 1) (s : Int) d more = some ((quoN s d : Int), (leftN s d more : Int)) := by
 unfold round_Units.f
 by_cases c : d ≤ 0
 ·rw [if_pos c, shift_f s hs d (by omega) (by omega)]
  have e : (shiftN s d).1 = quoN s d := by
   rw [shiftN_fst]
   by_cases c0 : 0 ≤ d
   ·obtain rfl : d = 0 := by omega
    unfold quoN; simp
   ·rw [if_neg c0]; exact quo_lt s d c (hq c)
  simp only [Option.bind_some, e]
  rw [left_none more (.inl c)]
  cases more <;> rfl
 ·rw [if_neg c]
  obtain ⟨m, rfl⟩ := nat_of (show 0 ≤ d by omega)
  have hm : (m : Int) - 1 = ((m - 1 : Nat) : Int) := by omega
  rw [shift_f s hs _ (by omega) (by omega), w64_id _ (by omega) (by omega), hm, shift_f s hs _ (by omega) (by omega)]
  simp only [Option.bind_some, shiftN_right]
  have hqe : quoN s (m : Int) = s / 2 ^ m := by unfold quoN; rw [if_neg c, Int.toNat_natCast]
  have hd : s / 2 ^ (m - 1) < 18446744073709551616 := Nat.lt_of_le_of_lt (Nat.div_le_self _ _) hs
  rw [hqe]
  by_cases z : s % 2 ^ m = 0
  ·have hl : leftN s (m : Int) more = if more then 1 else 0 := left_none more (.inr (by rw [Int.toNat_natCast]; exact z))
   rw [hl, if_neg (by simp [z])]
   cases more <;> rfl
  ·have hl : leftN s (m : Int) more = _ := left_some more c (by rw [Int.toNat_natCast]; exact z)
   rw [Int.toNat_natCast] at hl
   rw [hl, if_pos (by simp [z]), and1_u64 _ hd]
   by_cases y : s / 2 ^ (m - 1) % 2 = 0
   ·simp only [y, if_true, Int.natCast_zero]; rfl
   ·simp only [y, if_false]
    rw [if_neg (by omega)]
    by_cases w : s % 2 ^ (m - 1) = 0
    ·simp only [w, ne_eq, not_true_eq_false, decide_false, Bool.false_eq_true, if_false, false_or]
     cases more <;> rfl
    ·simp only [w, ne_eq, not_false_eq_true, decide_true, if_true, true_or]; rfl
theorem up_f (mode : Int) (neg : Bool) (q left : Nat) (hq : q < 18446744073709551616) : round_Up.f mode neg (q : Int) (left : Int) = some (upN mode neg q left) := by
 unfold round_Up.f upN
 have eb : (((left : Int) != 0) : Bool) = decide (left ≠ 0) := by rw [show (0 : Int) = ((0 : Nat) : Int) from rfl, bne_cast]
 have e1 : ((Go.bits .and .u64 (q : Int) 1 == 1) : Bool) = decide (q % 2 = 1) := by
  rw [and1_u64 q hq, show (1 : Int) = ((1 : Nat) : Int) from rfl]
  by_cases h : q % 2 = 1
  ·rw [h]; rfl
  ·rw [decide_eq_false h, beq_eq_false_iff_ne]; omega
 rw [eb, e1]
 by_cases m1 : mode = 1
 ·rw [if_pos m1, if_pos m1]
 ·rw [if_neg m1, if_neg m1]
  by_cases m2 : mode = 2
  ·rw [if_pos m2, if_pos m2]; cases neg <;> simp
  ·rw [if_neg m2, if_neg m2]
   by_cases m3 : mode = 3
   ·rw [if_pos m3, if_pos m3]; cases neg <;> simp
   ·rw [if_neg m3, if_neg m3]
    by_cases m4 : mode = 4
    ·rw [if_pos m4, if_pos m4]; congr 1; apply decide_eq_decide.mpr; omega
    ·rw [if_neg m4, if_neg m4]
     by_cases l3 : left = 3
     ·subst l3; rfl
     ·rw [if_neg (by omega), decide_eq_false l3, Bool.false_or]
      by_cases l2 : left = 2
      ·subst l2; simp
      ·rw [if_neg (by omega), decide_eq_false l2, Bool.false_and]
theorem beyond_f (f mode : Int) (neg : Bool) : round_beyond.f f mode neg = some (((if endless mode neg then infN f neg else greatN f neg : Nat) : Int), false, false, true, false, true) := by
 unfold round_beyond.f endless
 simp only [greatest_f, inf_f, Option.bind_some]
 by_cases m1 : mode = 1
 ·rw [if_pos m1, if_pos m1]; rfl
 ·rw [if_neg m1, if_neg m1]
  by_cases m2 : mode = 2
  ·rw [if_pos m2, if_pos m2]; cases neg <;> rfl
  ·rw [if_neg m2, if_neg m2]
   by_cases m3 : mode = 3
   ·rw [if_pos m3, if_pos m3]; cases neg <;> rfl
   ·rw [if_neg m3, if_neg m3]; rfl

theorem quo_bounds (f x : Int) (s : Nat) : quoN s (unitN f x s - x) < 2 ^ (fm f + 1) ∧ (riseN f x s ≠ 0 → 2 ^ fm f ≤ quoN s (unitN f x s - x)) := by
 obtain ⟨b1, b2, b3, b4, b5⟩ := fbounds f
 by_cases c : s = 0
 ·subst c
  have : riseN f x 0 = 0 := by unfold riseN; rw [if_pos rfl]
  refine ⟨?_, fun h => absurd this h⟩
  have h0 := Nat.two_pow_pos (fm f + 1)
  unfold quoN; split <;> simp [h0]
 ·have hlt := lenN_lt s
  have hle := lenN_le s c
  have hpos := lenN_pos s c
  have hr : riseN f x s = (x + lenN s - 1 - leastN f).toNat := by unfold riseN; rw [if_neg c]
  unfold unitN quoN
  generalize lenN s = L at *
  by_cases d : leastN f - (fm f : Int) + (riseN f x s : Int) - x ≤ 0
  ·rw [if_pos d]
   obtain ⟨j, hj⟩ := nat_of (show 0 ≤ -(leastN f - (fm f : Int) + (riseN f x s : Int) - x) by omega)
   rw [hj, Int.toNat_natCast]
   have hjL : L + j ≤ fm f + 1 := by omega
   constructor
   ·calc s * 2 ^ j < 2 ^ L * 2 ^ j := Nat.mul_lt_mul_of_pos_right hlt (Nat.two_pow_pos _)
     _ = 2 ^ (L + j) := (Nat.pow_add ..).symm
     _ ≤ 2 ^ (fm f + 1) := Nat.pow_le_pow_right (by decide) hjL
   ·intro h
    calc 2 ^ fm f = 2 ^ (L - 1) * 2 ^ j := by rw [← Nat.pow_add]; congr 1; omega
     _ ≤ s * 2 ^ j := Nat.mul_le_mul_right _ hle
  ·rw [if_neg d]
   obtain ⟨j, hj⟩ := nat_of (show 0 ≤ leastN f - (fm f : Int) + (riseN f x s : Int) - x by omega)
   rw [hj, Int.toNat_natCast]
   constructor
   ·rw [Nat.div_lt_iff_lt_mul (Nat.two_pow_pos _), ← Nat.pow_add]
    exact Nat.lt_of_lt_of_le hlt (Nat.pow_le_pow_right (by decide) (by omega))
   ·intro h
    rw [Nat.le_div_iff_mul_le (Nat.two_pow_pos _), ← Nat.pow_add]
    exact Nat.le_trans (Nat.pow_le_pow_right (by decide) (by omega)) hle
theorem unit_bounds (f x : Int) (s : Nat) (hs : s < 18446744073709551616) (h1 : -10000 ≤ x) (h2 : x ≤ 10000) : -200 ≤ unitN f x s ∧ unitN f x s ≤ 10100 ∧ riseN f x s ≤ 10200 := by
 obtain ⟨b1, b2, b3, b4, b5⟩ := fbounds f
 have hl := least_cases f
 have hn := lenN_small s hs
 unfold unitN
 have hr : riseN f x s = 0 ∨ (riseN f x s : Int) = x + lenN s - 1 - leastN f := by
  unfold riseN; split
  ·left; rfl
  ·omega
 omega
theorem exc_cast (l : Nat) : (((l : Int) != 0) : Bool) = decide (l ≠ 0) := by rw [show (0 : Int) = ((0 : Nat) : Int) from rfl, bne_cast]

theorem pack_j3 (k : Nat) (f mode : Int) (neg : Bool) (x : Int) (s q l a : Nat) (hs : s < 18446744073709551616) (hq : q < 18446744073709551616) (h1 : -10000 ≤ x) (h2 : x ≤ 10000) (K : Nat)
  (hK : K = a * 2 ^ fm f + q % 2 ^ fm f) :
  round_Pack.j3 (k + 2) f mode neg x (s : Int) (fm f : Int) (q : Int) (l : Int) (a : Int) = some
   ((((if overN f K then (if endless mode neg then topN f * 2 ^ fm f else topN f * 2 ^ fm f - 1) else K) + signN f neg : Nat) : Int), false, false,
    overN f K, !overN f K && (decide (l ≠ 0) && (decide (s = 0) || decide (x + lenN s - 1 < leastN f))), overN f K || decide (l ≠ 0)) := by
 obtain ⟨b1, b2, b3, b4, b5⟩ := fbounds f
 have hp := Nat.two_pow_pos (fm f)
 have hm : q % 2 ^ fm f < 2 ^ fm f := Nat.mod_lt _ hp
 have h31 := pow_le31 (show fm f ≤ 31 by omega)
 have ho : (a : Int) ≥ (topN f : Int) ↔ overN f K = true := by
  unfold overN
  rw [decide_eq_true_iff, hK]
  constructor
  ·intro h
   have : topN f * 2 ^ fm f ≤ a * 2 ^ fm f := Nat.mul_le_mul_right _ (by omega)
   omega
  ·intro h
   rcases Nat.lt_or_ge a (topN f) with c | c
   ·have : (a + 1) * 2 ^ fm f ≤ topN f * 2 ^ fm f := Nat.mul_le_mul_right _ c
    rw [Nat.add_mul, Nat.one_mul] at this; omega
   ·omega
 rw [round_Pack.j3, top_f]
 simp only [Option.bind_some]
 by_cases c : (a : Int) ≥ (topN f : Int)
 ·rw [if_pos c, beyond_f, ho.mp c]
  simp only [Option.bind_some, if_true, Bool.not_true, Bool.false_and, Bool.true_or]
  congr 2
  unfold infN greatN
  split <;> rfl
 ·rw [if_neg c]
  have co : overN f K = false := by simpa using fun h => c (ho.mpr h)
  have ec : bits_Cut.f (q : Int) (fm f : Int) = some ((q % 2 ^ fm f : Nat) : Int) := by
   rw [cut_f q hq _ (by omega)]; unfold cutN; rw [if_neg (by omega), Int.toNat_natCast]
  have ej : format_Join.f f neg (a : Int) (((q % 2 ^ fm f : Nat) : Int) % 4294967296) = some ((K + signN f neg : Nat) : Int) := by
   rw [show ((q % 2 ^ fm f : Nat) : Int) % 4294967296 = ((q % 2 ^ fm f : Nat) : Int) by omega, join_f f neg _ _ (by omega) hm, hK]; rfl
  rw [co, ec]
  simp only [Option.bind_some, ej, Bool.false_eq_true, if_false, Bool.not_false, Bool.true_and, Bool.false_or, exc_cast]
  by_cases l0 : l = 0
  ·subst l0; simp
  ·rw [if_neg (by omega)]
   by_cases s0 : s = 0
   ·subst s0; simp [l0]
   ·have hn := lenN_small s hs
    rw [if_neg (by omega), len_f (k) s hs, least_f]
    simp only [Option.bind_some]
    rw [w64_id (x + _) (by omega) (by omega), w64_id _ (by omega) (by omega)]
    simp [l0, s0]
theorem pack_j1 (k : Nat) (f mode : Int) (neg : Bool) (x : Int) (s q l : Nat) (U : Nat) (hU : U ≤ 10200) (hs : s < 18446744073709551616) (hq : q ≤ 2 ^ (fm f + 1)) (hq' : U ≠ 0 → 2 ^ fm f ≤ q) (h1 : -10000 ≤ x) (h2 : x ≤ 10000) (K : Nat)
  (hK : K = U * 2 ^ fm f + q) :
  round_Pack.j1 (k + 4) f mode neg x (s : Int) (fm f : Int) (leastN f - fm f + U) (q : Int) (l : Int) = some
   ((((if overN f K then (if endless mode neg then topN f * 2 ^ fm f else topN f * 2 ^ fm f - 1) else K) + signN f neg : Nat) : Int), false, false,
    overN f K, !overN f K && (decide (l ≠ 0) && (decide (s = 0) || decide (x + lenN s - 1 < leastN f))), overN f K || decide (l ≠ 0)) := by
 obtain ⟨b1, b2, b3, b4, b5⟩ := fbounds f
 have hl := least_cases f
 have hp := Nat.two_pow_pos (fm f)
 have h31 := pow_le31 (show fm f + 1 ≤ 31 by omega)
 have hq64 : q < 18446744073709551616 := by omega
 have e1 : wrap64 ((fm f : Int) + 1) = ((fm f + 1 : Nat) : Int) := by rw [w64_id] <;> omega
 have hsucc : 2 ^ (fm f + 1) = 2 * 2 ^ fm f := by rw [Nat.pow_succ, Nat.mul_comm]
 rw [round_Pack.j1, e1, u64_id _ (by omega), if_pos (by omega), shr_u64 _ _ hq64]
 by_cases c : q = 2 ^ (fm f + 1)
 ·have hd : q / 2 ^ (fm f + 1) = 1 := by rw [c, Nat.div_self (by omega)]
  rw [hd, if_neg (by decide), w64_id _ (by omega) (by omega), show (q : Int) / 2 = ((2 ^ fm f : Nat) : Int) by omega, round_Pack.j2, least_f]
  simp only [Option.bind_some]
  rw [u64_id _ (by omega), if_pos (by omega), shr_u64 _ _ (by omega), Nat.div_self hp, if_neg (by decide)]
  rw [show leastN f - (fm f : Int) + (U : Int) + 1 + (fm f : Int) = leastN f + (U : Int) + 1 by omega, w64_id (leastN f + (U : Int) + 1) (by omega) (by omega), w64_id (leastN f + (U : Int) + 1 - leastN f) (by omega) (by omega), w64_id _ (by omega) (by omega), show leastN f + (U : Int) + 1 - leastN f + 1 = ((U + 2 : Nat) : Int) by omega]
  exact pack_j3 k f mode neg x s _ l (U + 2) hs (by omega) h1 h2 K (by rw [hK, c, hsucc, Nat.mod_self, Nat.add_mul]; omega)
 ·have hd : q / 2 ^ (fm f + 1) = 0 := Nat.div_eq_of_lt (by omega)
  rw [hd, if_pos (by decide), round_Pack.j2, least_f]
  simp only [Option.bind_some]
  rw [u64_id _ (by omega), if_pos (by omega), shr_u64 _ _ hq64]
  by_cases c2 : q < 2 ^ fm f
  ·have hU0 : U = 0 := by
    rcases Nat.eq_zero_or_pos U with h | h
    ·exact h
    ·have := hq' (by omega); omega
   subst hU0
   rw [Nat.div_eq_of_lt c2, if_pos (by decide)]
   have h := pack_j3 k f mode neg x s q l 0 hs hq64 h1 h2 K (by rw [hK, Nat.mod_eq_of_lt c2])
   rw [show ((0 : Nat) : Int) = 0 from rfl] at h
   exact h
  ·have hd1 : q / 2 ^ fm f = 1 := Nat.div_eq_of_lt_le (by omega) (by omega)
   rw [hd1, if_neg (by decide)]
   rw [show leastN f - (fm f : Int) + (U : Int) + (fm f : Int) = leastN f + (U : Int) by omega, w64_id (leastN f + (U : Int)) (by omega) (by omega), w64_id (leastN f + (U : Int) - leastN f) (by omega) (by omega), w64_id _ (by omega) (by omega), show leastN f + (U : Int) - leastN f + 1 = ((U + 1 : Nat) : Int) by omega]
   have hm1 : q % 2 ^ fm f = q - 2 ^ fm f := by
    have := Nat.div_add_mod q (2 ^ fm f)
    rw [hd1, Nat.mul_one] at this; omega
   exact pack_j3 k f mode neg x s q l (U + 1) hs hq64 h1 h2 K (by rw [hK, hm1, Nat.add_mul]; omega)
theorem pack_f (k : Nat) (f mode : Int) (neg : Bool) (x : Int) (s : Nat) (more : Bool) (hs : s < 18446744073709551616) :
  round_Pack.f (k + 5) f mode neg x (s : Int) more = some ((packN f mode neg (clampE x) s more : Int), false, false, excN f mode neg (clampE x) s more) := by
 unfold round_Pack.f
 have hc : mn (mx x (-10000)) 10000 = clampE x := rfl
 obtain ⟨h1, h2⟩ := clampE_bounds x
 rw [hc]
 generalize clampE x = x at *
 by_cases z : s = 0 ∧ more = false
 ·obtain ⟨rfl, rfl⟩ := z
  rw [if_pos (by decide), round_Pack.j0]
  simp only [Bool.not_false, if_true]
  rw [zero_f]
  have hk : keyN f mode neg x 0 false = 0 := by
   unfold keyN
   have hr : riseN f x 0 = 0 := by unfold riseN; rw [if_pos rfl]
   have hq : quoN 0 (unitN f x 0 - x) = 0 := by unfold quoN; split <;> simp
   have hl : leftN 0 (unitN f x 0 - x) false = 0 := by rw [left_none _ (.inr (by simp))]; rfl
   rw [hr, hq, hl]
   have : upN mode neg 0 0 = false := by unfold upN; simp
   rw [this]; simp
  have hl : leftN 0 (unitN f x 0 - x) false = 0 := by rw [left_none _ (.inr (by simp))]; rfl
  have ho : overN f 0 = false := by
   unfold overN
   have := top_cases f
   have := Nat.two_pow_pos (fm f)
   rw [decide_eq_false_iff_not]
   have : 0 < topN f * 2 ^ fm f := Nat.mul_pos (by omega) (by omega)
   omega
  unfold packN excN underN inexN
  rw [hk, ho, hl]; simp
 ·have hj : (if (s : Int) = 0 then round_Pack.j0 (k + 5) f mode neg x (s : Int) more (!more) else round_Pack.j0 (k + 5) f mode neg x (s : Int) more false) = round_Pack.j0 (k + 5) f mode neg x (s : Int) more false := by
   by_cases c : (s : Int) = 0
   ·rw [if_pos c]
    cases more
    ·exact absurd ⟨by omega, rfl⟩ z
    ·rfl
   ·rw [if_neg c]
  rw [hj, round_Pack.j0, if_neg (by decide), widths_f]
  obtain ⟨u1, u2, u3⟩ := unit_bounds f x s hs h1 h2
  obtain ⟨q1, q2⟩ := quo_bounds f x s
  obtain ⟨b1, b2, b3, b4, b5⟩ := fbounds f
  have h31 := pow_le31 (show fm f + 1 ≤ 31 by omega)
  have hll := left_le s (unitN f x s - x) more
  have hq64 : quoN s (unitN f x s - x) < 18446744073709551616 := by omega
  have hd : unitN f x s - x ≤ 0 → s * 2 ^ (-(unitN f x s - x)).toNat < 18446744073709551616 := by
   intro h; have := hq64; unfold quoN at this; rw [if_pos h] at this; exact this
  simp only [Option.bind_some]
  rw [unit_f _ f x s hs h1 h2]
  simp only [Option.bind_some]
  rw [w64_id _ (by omega) (by omega), units_f _ s hs _ (by omega) (by omega) more hd]
  simp only [Option.bind_some]
  rw [up_f _ _ _ _ hq64]
  simp only [Option.bind_some]
  have hun : unitN f x s = leastN f - fm f + (riseN f x s : Nat) := rfl
  have key : ∀ up : Bool, round_Pack.j1 (k + 4) f mode neg x (s : Int) (fm f : Int) (unitN f x s) ((quoN s (unitN f x s - x) + (if up then 1 else 0) : Nat) : Int) (leftN s (unitN f x s - x) more : Int) = _ :=
   fun up => pack_j1 k f mode neg x s _ _ (riseN f x s) u3 hs (by split <;> omega) (fun h => Nat.le_trans (q2 h) (Nat.le_add_right _ _)) h1 h2 _ rfl
  have res : ∀ up : Bool, up = upN mode neg (quoN s (unitN f x s - x)) (leftN s (unitN f x s - x) more) → round_Pack.j1 (k + 4) f mode neg x (s : Int) (fm f : Int) (unitN f x s) ((quoN s (unitN f x s - x) + (if up then 1 else 0) : Nat) : Int) (leftN s (unitN f x s - x) more : Int) = some ((packN f mode neg x s more : Int), false, false, excN f mode neg x s more) := by
   intro up hup
   rw [key up]
   subst hup
   unfold packN excN underN inexN keyN
   rw [← Nat.add_assoc]
   by_cases o : overN f (riseN f x s * 2 ^ fm f + quoN s (unitN f x s - x) + if upN mode neg (quoN s (unitN f x s - x)) (leftN s (unitN f x s - x) more) = true then 1 else 0) = true
   ·rw [o]; simp
   ·rw [Bool.not_eq_true] at o; rw [o]; simp
  by_cases hu : upN mode neg (quoN s (unitN f x s - x)) (leftN s (unitN f x s - x) more) = true
  ·rw [if_pos hu]
   have h := res true hu.symm
   rw [if_pos rfl] at h
   rw [show ((quoN s (unitN f x s - x) : Nat) : Int) + 1 = ((quoN s (unitN f x s - x) + 1 : Nat) : Int) by omega, u64_id _ (by omega)]
   exact h
  ·rw [if_neg hu]
   rw [Bool.not_eq_true] at hu
   have h := res false hu.symm
   rw [if_neg (by decide), Nat.add_zero] at h
   exact h
/- What is a number already is rounded to it; a greater number isn't rounded to a lesser one: of the plain numbers that the rounding computes. -/

theorem up_none (mode : Int) (neg : Bool) (q : Nat) : upN mode neg q 0 = false := by unfold upN; simp
theorem exact_all (f : Int) (M s r : Nat) (hM : M < 2 ^ (fm f + 1)) (hr : r = 0 ∨ 2 ^ fm f ≤ M) :
  riseN f (leastN f - fm f + r - s) (M * 2 ^ s) = r ∧ quoN (M * 2 ^ s) (unitN f (leastN f - fm f + r - s) (M * 2 ^ s) - (leastN f - fm f + r - s)) = M ∧ leftN (M * 2 ^ s) (unitN f (leastN f - fm f + r - s) (M * 2 ^ s) - (leastN f - fm f + r - s)) false = 0 := by
 have hrise : riseN f (leastN f - fm f + r - s) (M * 2 ^ s) = r := by
  unfold riseN
  by_cases c : M = 0
  ·subst c
   rw [Nat.zero_mul, if_pos rfl]
   rcases hr with h | h
   ·exact h.symm
   ·have := Nat.two_pow_pos (fm f); omega
  ·rw [if_neg (Nat.mul_ne_zero c (Nat.ne_of_gt (Nat.two_pow_pos s))), lenN_mul M s c]
   have h1 := lenN_bound M (fm f + 1) hM
   have h2 := lenN_pos M c
   have h3 : r ≠ 0 → fm f < lenN M := fun h => lenN_ge M (fm f) (hr.resolve_left h)
   omega
 have hu : unitN f (leastN f - fm f + r - s) (M * 2 ^ s) - (leastN f - fm f + r - s) = (s : Int) := by
  unfold unitN; rw [hrise]; omega
 rw [hu]
 have hp := Nat.two_pow_pos s
 refine ⟨hrise, ?_, left_none _ (.inr ?_)⟩
 ·unfold quoN
  by_cases c : (s : Int) ≤ 0
  ·obtain rfl : s = 0 := by omega
   simp
  ·rw [if_neg c, Int.toNat_natCast, Nat.mul_div_cancel _ hp]
 ·rw [Int.toNat_natCast, Nat.mul_mod_left]
theorem exact_pack (f mode : Int) (neg : Bool) (M s r : Nat) (hM : M < 2 ^ (fm f + 1)) (hr : r = 0 ∨ 2 ^ fm f ≤ M) (ht : r * 2 ^ fm f + M < topN f * 2 ^ fm f) :
  packN f mode neg (leastN f - fm f + r - s) (M * 2 ^ s) false = r * 2 ^ fm f + M + signN f neg ∧ excN f mode neg (leastN f - fm f + r - s) (M * 2 ^ s) false = (false, false, false) := by
 obtain ⟨h1, h2, h3⟩ := exact_all f M s r hM hr
 have hk : keyN f mode neg (leastN f - fm f + r - s) (M * 2 ^ s) false = r * 2 ^ fm f + M := by
  unfold keyN; rw [h3, up_none, h1, h2]; simp
 have ho : overN f (r * 2 ^ fm f + M) = false := by unfold overN; rw [decide_eq_false_iff_not]; omega
 constructor
 ·unfold packN; rw [hk, ho]; simp
 ·unfold excN underN inexN; rw [hk, ho, h3]; simp
theorem whole_lt (f : Int) (v : Nat) : wholeN f v < 2 ^ (fm f + 1) := by
 have hf := frac_lt f v
 have hs : 2 ^ (fm f + 1) = 2 * 2 ^ fm f := by rw [Nat.pow_succ, Nat.mul_comm]
 unfold wholeN; split <;> omega

def restN (r h : Nat) (more : Bool) : Nat := if r < h then (if r = 0 ∧ more = false then 0 else 1) else if r = h ∧ more = false then 2 else 3
theorem left_rest (s : Nat) (d : Int) (more : Bool) (hd : ¬ d ≤ 0) : leftN s d more = restN (s % 2 ^ d.toNat) (2 ^ (d.toNat - 1)) more := by
 obtain ⟨m, hm⟩ : ∃ m, d.toNat = m + 1 := ⟨d.toNat - 1, by omega⟩
 have hh := Nat.two_pow_pos m
 have hs : 2 ^ (m + 1) = 2 ^ m * 2 := Nat.pow_succ ..
 have h1 := Nat.mod_lt s (Nat.two_pow_pos (m + 1))
 have h3 : s / 2 ^ m = (s / 2 ^ (m + 1)) * 2 + (s % 2 ^ (m + 1)) / 2 ^ m := by
  have h2 := Nat.div_add_mod s (2 ^ (m + 1))
  rw [hs] at h2 ⊢
  have e : s = 2 ^ m * (s / (2 ^ m * 2) * 2) + s % (2 ^ m * 2) := by
   rw [← Nat.mul_assoc, Nat.mul_right_comm]; exact h2.symm
  exact (congrArg (· / 2 ^ m) e).trans (Nat.mul_add_div hh _ _)
 have h4 : s % 2 ^ m = s % 2 ^ (m + 1) % 2 ^ m := by rw [hs, Nat.mod_mul_right_mod]
 have hz : ¬ s % 2 ^ (m + 1) = 0 → leftN s d more = if s / 2 ^ m % 2 = 0 then 1 else if s % 2 ^ m ≠ 0 ∨ more = true then 3 else 2 := by
  intro h'
  have := left_some more hd (by rw [hm]; exact h')
  rw [hm, Nat.add_sub_cancel] at this; exact this
 rw [hm, Nat.add_sub_cancel]
 by_cases c : s % 2 ^ (m + 1) = 0
 ·rw [left_none _ (.inr (by rw [hm]; exact c)), c]
  unfold restN
  rw [if_pos hh]
  cases more <;> simp
 ·rw [hz c, h3, h4]
  generalize s % 2 ^ (m + 1) = r at *
  unfold restN
  by_cases lt : r < 2 ^ m
  ·rw [if_pos lt, Nat.div_eq_of_lt lt, if_pos (by omega), if_neg (by omega)]
  ·have e1 : r / 2 ^ m = 1 := Nat.div_eq_of_lt_le (by omega) (by omega)
   have e2 : r % 2 ^ m = r - 2 ^ m := by rw [Nat.mod_eq_sub_mod (by omega), Nat.mod_eq_of_lt (by omega)]
   rw [if_neg lt, e1, e2, if_neg (by omega)]
   by_cases e3 : r = 2 ^ m
   ·subst e3; cases more <;> simp
   ·rw [if_pos (.inl (by omega)), if_neg (by omega)]
end Go.Proofs.Ytejkemahdincjaa.Round
