import Derived.Test.YtlkjoibpfhjhcaaQfeZ
import Derived.Test.YtlkjoibpfhjhcaaQfeM1
-- Printed by a program of this session's out of Lean's print of the translation; Lean checks it.
namespace Go.Proofs.Ytlkjoibpfhjhcaa.P
open Go.RowKit Go.Proofs.YtlkjoibpfhjhcaaW.PrintWords Go.Proofs.YtlkjoibpfhjhcaaW.PrintLast Go.Proofs.YtlkjoibpfhjhcaaW.PrintMore
attribute [local go_sem] max2_int min2_int max_two min_two max_three min_three max_four min_four   -- for this text's walks alone
set_option linter.unusedVariables false
set_option linter.unusedSimpArgs false

/-! ### sum_Exact: function 36 -/
mutual
def sum_Exact.j0 : Nat → Bool → Bool → Int → Int → Bool → Bool → Int → Int → Bool → Option (Bool × Int × Int × Bool)
 |0, _, _, _, _, _, _, _, _, _ => none
 |k + 1, x39, x160000, x160001, x160002, x160003, x161000, x161001, x161002, x161003 => if x39 = true then (sum_Exact.j1 k x161000 x161001 x161002 x161003 x160000 x160001 x160002 x160003) else (sum_Exact.j1 k x160000 x160001 x160002 x160003 x161000 x161001 x161002 x161003)
def sum_Exact.j1 : Nat → Bool → Int → Int → Bool → Bool → Int → Int → Bool → Option (Bool × Int × Int × Bool)
 |0, _, _, _, _, _, _, _, _ => none
 |k + 1, x160000, x160001, x160002, x160003, x161000, x161001, x161002, x161003 => (bits_Shift.f k x161002 (wrap64 (x160001 - x161001))).bind fun bt170 => (if (x160000 == x161000) = true then (some (x160000, x160001, IntKind.u64.wrap (x160002 + bt170.1), bt170.2)) else (if bt170.2 = true then (sum_Exact.j2 k x160000 x160001 (IntKind.u64.wrap ((IntKind.u64.wrap (x160002 - bt170.1)) - 1)) bt170.2) else (sum_Exact.j2 k x160000 x160001 (IntKind.u64.wrap (x160002 - bt170.1)) bt170.2)))
def sum_Exact.j2 : Nat → Bool → Int → Int → Bool → Option (Bool × Int × Int × Bool)
 |0, _, _, _, _ => none
 |k + 1, x160000, x160001, x160002, x160003 => some (x160000, x160001, x160002, x160003)
end
def sum_Exact.f (k : Nat) (a0_0 : Bool) (a0_1 : Int) (a0_2 : Int) (a0_3 : Bool) (a1_0 : Bool) (a1_1 : Int) (a1_2 : Int) (a1_3 : Bool) : Option (Bool × Int × Int × Bool) := if a0_2 = 0 then (some (a1_0, a1_1, a1_2, a1_3)) else (if a1_2 = 0 then (some (a0_0, a0_1, a0_2, a0_3)) else ((sum_full.f k a0_0 a0_1 a0_2 a0_3).bind fun bt162 => ((sum_full.f k a1_0 a1_1 a1_2 a1_3).bind fun bt166 => (if bt162.2.1 < bt166.2.1 then (sum_Exact.j0 k true bt162.1 bt162.2.1 bt162.2.2.1 bt162.2.2.2 bt166.1 bt166.2.1 bt166.2.2.1 bt166.2.2.2) else (if bt162.2.1 = bt166.2.1 then (sum_Exact.j0 k (decide (bt162.2.2.1 < bt166.2.2.1)) bt162.1 bt162.2.1 bt162.2.2.1 bt162.2.2.2 bt166.1 bt166.2.1 bt166.2.2.1 bt166.2.2.2) else (sum_Exact.j0 k false bt162.1 bt162.2.1 bt162.2.2.1 bt162.2.2.2 bt166.1 bt166.2.1 bt166.2.2.1 bt166.2.2.2))))))
theorem sum_Exact.mono_l : ∀ k, (∀ y0 y1 y2 y3 y4 y5 y6 y7 y8, LeO (sum_Exact.j0 k y0 y1 y2 y3 y4 y5 y6 y7 y8) (sum_Exact.j0 (k + 1) y0 y1 y2 y3 y4 y5 y6 y7 y8)) ∧ (∀ y0 y1 y2 y3 y4 y5 y6 y7, LeO (sum_Exact.j1 k y0 y1 y2 y3 y4 y5 y6 y7) (sum_Exact.j1 (k + 1) y0 y1 y2 y3 y4 y5 y6 y7)) ∧ (∀ y0 y1 y2 y3, LeO (sum_Exact.j2 k y0 y1 y2 y3) (sum_Exact.j2 (k + 1) y0 y1 y2 y3))
 |0 => ⟨fun _ _ _ _ _ _ _ _ _ r h => by simp [sum_Exact.j0] at h, fun _ _ _ _ _ _ _ _ r h => by simp [sum_Exact.j1] at h, fun _ _ _ _ r h => by simp [sum_Exact.j2] at h⟩
 |k + 1 => by
  obtain ⟨ih0, ih1, ih2⟩ := sum_Exact.mono_l k
  refine ⟨?_, ?_, ?_⟩
  ·intro y0 y1 y2 y3 y4 y5 y6 y7 y8
   unfold sum_Exact.j0
   repeat' first
   |(with_reducible exact ih0 _ _ _ _ _ _ _ _ _)
   |(with_reducible exact ih1 _ _ _ _ _ _ _ _)
   |(with_reducible exact ih2 _ _ _ _)
   |(with_reducible exact bits_Shift.mono _ _ _)
   |(with_reducible exact sum_full.mono _ _ _ _ _)
   |(with_reducible exact LeO.refl _)
   |(with_reducible exact LeO.none _)
   |(with_reducible refine LeO.ite ?_ ?_)
   |(with_reducible refine LeO.bind ?_ (fun _ => ?_))
   |exact ih0 _ _ _ _ _ _ _ _ _
   |exact ih1 _ _ _ _ _ _ _ _
   |exact ih2 _ _ _ _
   |exact bits_Shift.mono _ _ _
   |exact sum_full.mono _ _ _ _ _
   |exact LeO.none _
   |refine LeO.ite ?_ ?_
   |refine LeO.bind ?_ (fun _ => ?_)
  ·intro y0 y1 y2 y3 y4 y5 y6 y7
   unfold sum_Exact.j1
   repeat' first
   |(with_reducible exact ih0 _ _ _ _ _ _ _ _ _)
   |(with_reducible exact ih1 _ _ _ _ _ _ _ _)
   |(with_reducible exact ih2 _ _ _ _)
   |(with_reducible exact bits_Shift.mono _ _ _)
   |(with_reducible exact sum_full.mono _ _ _ _ _)
   |(with_reducible exact LeO.refl _)
   |(with_reducible exact LeO.none _)
   |(with_reducible refine LeO.ite ?_ ?_)
   |(with_reducible refine LeO.bind ?_ (fun _ => ?_))
   |exact ih0 _ _ _ _ _ _ _ _ _
   |exact ih1 _ _ _ _ _ _ _ _
   |exact ih2 _ _ _ _
   |exact bits_Shift.mono _ _ _
   |exact sum_full.mono _ _ _ _ _
   |exact LeO.none _
   |refine LeO.ite ?_ ?_
   |refine LeO.bind ?_ (fun _ => ?_)
  ·intro y0 y1 y2 y3
   unfold sum_Exact.j2
   repeat' first
   |(with_reducible exact ih0 _ _ _ _ _ _ _ _ _)
   |(with_reducible exact ih1 _ _ _ _ _ _ _ _)
   |(with_reducible exact ih2 _ _ _ _)
   |(with_reducible exact bits_Shift.mono _ _ _)
   |(with_reducible exact sum_full.mono _ _ _ _ _)
   |(with_reducible exact LeO.refl _)
   |(with_reducible exact LeO.none _)
   |(with_reducible refine LeO.ite ?_ ?_)
   |(with_reducible refine LeO.bind ?_ (fun _ => ?_))
   |exact ih0 _ _ _ _ _ _ _ _ _
   |exact ih1 _ _ _ _ _ _ _ _
   |exact ih2 _ _ _ _
   |exact bits_Shift.mono _ _ _
   |exact sum_full.mono _ _ _ _ _
   |exact LeO.none _
   |refine LeO.ite ?_ ?_
   |refine LeO.bind ?_ (fun _ => ?_)
theorem sum_Exact.mono : ∀ a0 a1 a2 a3 a4 a5 a6 a7 k, LeO (sum_Exact.f k a0 a1 a2 a3 a4 a5 a6 a7) (sum_Exact.f (k + 1) a0 a1 a2 a3 a4 a5 a6 a7) := by
 intro a0 a1 a2 a3 a4 a5 a6 a7 k
 obtain ⟨ih0, ih1, ih2⟩ := sum_Exact.mono_l k
 unfold sum_Exact.f
 repeat' first
   |(with_reducible exact ih0 _ _ _ _ _ _ _ _ _)
   |(with_reducible exact ih1 _ _ _ _ _ _ _ _)
   |(with_reducible exact ih2 _ _ _ _)
   |(with_reducible exact bits_Shift.mono _ _ _)
   |(with_reducible exact sum_full.mono _ _ _ _ _)
   |(with_reducible exact LeO.refl _)
   |(with_reducible exact LeO.none _)
   |(with_reducible refine LeO.ite ?_ ?_)
   |(with_reducible refine LeO.bind ?_ (fun _ => ?_))
   |exact ih0 _ _ _ _ _ _ _ _ _
   |exact ih1 _ _ _ _ _ _ _ _
   |exact ih2 _ _ _ _
   |exact bits_Shift.mono _ _ _
   |exact sum_full.mono _ _ _ _ _
   |exact LeO.none _
   |refine LeO.ite ?_ ?_
   |refine LeO.bind ?_ (fun _ => ?_)
set_option maxHeartbeats 8000000 in
set_option maxRecDepth 100000 in
theorem sum_Exact.calls (k : Nat) (a0_0 : Bool) (a0_1 : Int) (a0_2 : Int) (a0_3 : Bool) (a1_0 : Bool) (a1_1 : Int) (a1_2 : Int) (a1_3 : Bool) (r1 : Bool) (r2 : Int) (r3 : Int) (r4 : Bool) (w : World) (h : sum_Exact.f k a0_0 a0_1 a0_2 a0_3 a1_0 a1_1 a1_2 a1_3 = some (r1, r2, r3, r4)) :
  Calls Try.prog 36 #[.agg #[.bool a0_0, .int .i64 a0_1, .int .u64 a0_2, .bool a0_3], .agg #[.bool a1_0, .int .i64 a1_1, .int .u64 a1_2, .bool a1_3]] w fun e w' => e = .returned (.agg #[.bool r1, .int .i64 r2, .int .u64 r3, .bool r4]) ∧ Below w.heap.size w w' := by
 have hu56 := Try.underlying56
 have HB := Aside0.mk (Below.refl w.heap.size w)
 have H : (if a0_2 = 0 then (some (a1_0, a1_1, a1_2, a1_3)) else (if a1_2 = 0 then (some (a0_0, a0_1, a0_2, a0_3)) else ((sum_full.f k a0_0 a0_1 a0_2 a0_3).bind fun bt162 => ((sum_full.f k a1_0 a1_1 a1_2 a1_3).bind fun bt166 => (if bt162.2.1 < bt166.2.1 then (sum_Exact.j0 k true bt162.1 bt162.2.1 bt162.2.2.1 bt162.2.2.2 bt166.1 bt166.2.1 bt166.2.2.1 bt166.2.2.2) else (if bt162.2.1 = bt166.2.1 then (sum_Exact.j0 k (decide (bt162.2.2.1 < bt166.2.2.1)) bt162.1 bt162.2.1 bt162.2.2.1 bt162.2.2.2 bt166.1 bt166.2.1 bt166.2.2.1 bt166.2.2.2) else (sum_Exact.j0 k false bt162.1 bt162.2.1 bt162.2.2.1 bt162.2.2.2 bt166.1 bt166.2.1 bt166.2.2.1 bt166.2.2.2))))))) = some (r1, r2, r3, r4) := h
 clear h
 by_cases c3 : a0_2 = 0
 ·rw [if_pos c3] at H
  have c3b0 : (a0_2 == 0) = true := beq_iff_eq.mpr c3
  have c3b1 : (a0_2 != 0) = false := bne_eq_false_iff_eq.mpr c3
  clear c3
  simp only [Option.some.injEq, Prod.mk.injEq] at H
  obtain ⟨rfl, rfl, rfl, rfl⟩ := H
  go_enter Try.func36, Try.ntmps36
  go_wp2_with (first | ((with_reducible refine gate_dst (N := 2) rfl ?_); refine box_event ?hg (N := 2) ?hd (cs := #[.bool a0_0, .int .i64 a0_1, .int .u64 a0_2, .bool a0_3]) (t := 56) ?hr ?_; (case hd => rfl); (case hg => rfl); (case hr => first | (go_simp; done) | (go_simp; rfl)); intro gb159 hg w4 hbox hb; have n0_ := Aside0.mk (below_step (bl0 HB.out) hb); have n1_ := Aside0.mk (hbox); have n2_ := Aside0.mk ((by rw [hg]; exact (below_size (bl0 HB.out)) : w.heap.size ≤ gb159)); have n3_ := n2_; clear HB; have HB := n0_; have BK159 := n1_; have GW159 := n2_; have GE159 := n3_; clear n0_ n1_ n2_ n3_; clear hb hbox hg) | ((with_reducible refine gate_dst (N := 3) rfl ?_); refine box_event ?hg (N := 3) ?hd (cs := #[.bool a1_0, .int .i64 a1_1, .int .u64 a1_2, .bool a1_3]) (t := 56) ?hr ?_; (case hd => rfl); (case hg => rfl); (case hr => first | (go_simp; done) | (go_simp; rfl)); intro gb160 hg w5 hbox hb; have n0_ := Aside0.mk (blk_below (g := gb159) (o := .cells #[.bool a0_0, .int .i64 a0_1, .int .u64 a0_2, .bool a0_3] 56 (0, 0)) (bv BK159.out) hb); have n1_ := Aside0.mk (below_step (bl1 HB.out GE159.out) hb); have n2_ := Aside0.mk (hbox); have n3_ := Aside0.mk ((by rw [hg]; exact (below_size (bl1 HB.out GE159.out)) : w.heap.size ≤ gb160)); have n4_ := n3_; have n5_ := Aside0.mk ((by rw [hg]; exact Nat.ne_of_lt (blk_lt (g := gb159) (o := .cells #[.bool a0_0, .int .i64 a0_1, .int .u64 a0_2, .bool a0_3] 56 (0, 0)) (bv BK159.out)) : gb159 ≠ gb160)); have n6_ := Aside0.mk (Ne.symm n5_.out); clear BK159; clear HB; have BK159 := n0_; have HB := n1_; have BK160 := n2_; have GW160 := n3_; have GE160 := n4_; have NB159_160 := n5_; have NB160_159 := n6_; clear n0_ n1_ n2_ n3_ n4_ n5_ n6_; clear hb hbox hg) | ((with_reducible refine gate_dst (N := 4) rfl ?_); refine box_event ?hg (N := 4) ?hd (cs := #[.bool false, .int .i64 0, .int .u64 0, .bool false]) (t := 56) ?hr ?_; (case hd => rfl); (case hg => rfl); (case hr => first | (go_simp; done) | (go_simp; rfl)); intro gb161 hg w6 hbox hb; have n0_ := Aside0.mk (blk_below (g := gb159) (o := .cells #[.bool a0_0, .int .i64 a0_1, .int .u64 a0_2, .bool a0_3] 56 (0, 0)) (bv BK159.out) hb); have n1_ := Aside0.mk (blk_below (g := gb160) (o := .cells #[.bool a1_0, .int .i64 a1_1, .int .u64 a1_2, .bool a1_3] 56 (0, 0)) (bv BK160.out) hb); have n2_ := Aside0.mk (below_step (bl2 HB.out GE159.out GE160.out) hb); have n3_ := Aside0.mk (hbox); have n4_ := Aside0.mk ((by rw [hg]; exact (below_size (bl2 HB.out GE159.out GE160.out)) : w.heap.size ≤ gb161)); have n5_ := n4_; have n6_ := Aside0.mk ((by rw [hg]; exact Nat.ne_of_lt (blk_lt (g := gb159) (o := .cells #[.bool a0_0, .int .i64 a0_1, .int .u64 a0_2, .bool a0_3] 56 (0, 0)) (bv BK159.out)) : gb159 ≠ gb161)); have n7_ := Aside0.mk (Ne.symm n6_.out); have n8_ := Aside0.mk ((by rw [hg]; exact Nat.ne_of_lt (blk_lt (g := gb160) (o := .cells #[.bool a1_0, .int .i64 a1_1, .int .u64 a1_2, .bool a1_3] 56 (0, 0)) (bv BK160.out)) : gb160 ≠ gb161)); have n9_ := Aside0.mk (Ne.symm n8_.out); clear BK159; clear BK160; clear HB; have BK159 := n0_; have BK160 := n1_; have HB := n2_; have BK161 := n3_; have GW161 := n4_; have GE161 := n5_; have NB159_161 := n6_; have NB161_159 := n7_; have NB160_161 := n8_; have NB161_160 := n9_; clear n0_ n1_ n2_ n3_ n4_ n5_ n6_ n7_ n8_ n9_; clear hb hbox hg; have hnb7 := NB159_160.out; have hnc7 := NB160_159.out; have hnb8 := NB159_161.out; have hnc8 := NB161_159.out; obtain ⟨hcz9_0, hcz9_1, hcz9_2, hcz9_3⟩ := bc4 BK159.out; obtain ⟨hfz9_0, hfz9_1, hfz9_2, hfz9_3⟩ := bf4 BK159.out; have hnb10 := NB160_161.out; have hnc10 := NB161_160.out; obtain ⟨hcz11_0, hcz11_1, hcz11_2, hcz11_3⟩ := bc4 BK160.out; obtain ⟨hfz11_0, hfz11_1, hfz11_2, hfz11_3⟩ := bf4 BK160.out; obtain ⟨hcz12_0, hcz12_1, hcz12_2, hcz12_3⟩ := bc4 BK161.out; obtain ⟨hfz12_0, hfz12_1, hfz12_2, hfz12_3⟩ := bf4 BK161.out))
  refine bodyPost_ret (results_cell_row rfl _ _ gb161 56 #[.bool a1_0, .int .i64 a1_1, .int .u64 a1_2, .bool a1_3] (0, 0) _ rfl (by (with_reducible repeat first | apply bd | apply be | apply ba); refine blk_put (cs := #[.bool a1_0, .int .i64 a1_1, .int .u64 a1_2, .bool false]) ?_ 3 _ rfl; (with_reducible repeat first | apply bd | apply be | apply ba); refine blk_put (cs := #[.bool a1_0, .int .i64 a1_1, .int .u64 0, .bool false]) ?_ 2 _ rfl; (with_reducible repeat first | apply bd | apply be | apply ba); refine blk_put (cs := #[.bool a1_0, .int .i64 0, .int .u64 0, .bool false]) ?_ 1 _ rfl; (with_reducible repeat first | apply bd | apply be | apply ba); refine blk_put (cs := #[.bool false, .int .i64 0, .int .u64 0, .bool false]) ?_ 0 _ rfl; (with_reducible repeat first | apply bd | apply be | apply ba); exact BK161.out) Try.underlying56 rfl (by kernel_rfl)) rfl ?_
  exact ⟨by first | rfl | (simp [errW_none, errW_some] <;> rfl) | (simp [*, errW_none, errW_some] <;> rfl), bl3 HB.out GE159.out GE160.out GE161.out⟩
 ·rw [if_neg c3] at H
  have c3b0 : (a0_2 == 0) = false := beq_eq_false_iff_ne.mpr c3
  have c3b1 : (a0_2 != 0) = true := bne_iff_ne.mpr c3
  by_cases c13 : a1_2 = 0
  ·rw [if_pos c13] at H
   have c13b0 : (a1_2 == 0) = true := beq_iff_eq.mpr c13
   have c13b1 : (a1_2 != 0) = false := bne_eq_false_iff_eq.mpr c13
   clear c13
   simp only [Option.some.injEq, Prod.mk.injEq] at H
   obtain ⟨rfl, rfl, rfl, rfl⟩ := H
   go_enter Try.func36, Try.ntmps36
   go_wp2_with (first | ((with_reducible refine gate_dst (N := 2) rfl ?_); refine box_event ?hg (N := 2) ?hd (cs := #[.bool a0_0, .int .i64 a0_1, .int .u64 a0_2, .bool a0_3]) (t := 56) ?hr ?_; (case hd => rfl); (case hg => rfl); (case hr => first | (go_simp; done) | (go_simp; rfl)); intro gb159 hg w14 hbox hb; have n0_ := Aside0.mk (below_step (bl0 HB.out) hb); have n1_ := Aside0.mk (hbox); have n2_ := Aside0.mk ((by rw [hg]; exact (below_size (bl0 HB.out)) : w.heap.size ≤ gb159)); have n3_ := n2_; clear HB; have HB := n0_; have BK159 := n1_; have GW159 := n2_; have GE159 := n3_; clear n0_ n1_ n2_ n3_; clear hb hbox hg) | ((with_reducible refine gate_dst (N := 3) rfl ?_); refine box_event ?hg (N := 3) ?hd (cs := #[.bool a1_0, .int .i64 a1_1, .int .u64 a1_2, .bool a1_3]) (t := 56) ?hr ?_; (case hd => rfl); (case hg => rfl); (case hr => first | (go_simp; done) | (go_simp; rfl)); intro gb160 hg w15 hbox hb; have n0_ := Aside0.mk (blk_below (g := gb159) (o := .cells #[.bool a0_0, .int .i64 a0_1, .int .u64 a0_2, .bool a0_3] 56 (0, 0)) (bv BK159.out) hb); have n1_ := Aside0.mk (below_step (bl1 HB.out GE159.out) hb); have n2_ := Aside0.mk (hbox); have n3_ := Aside0.mk ((by rw [hg]; exact (below_size (bl1 HB.out GE159.out)) : w.heap.size ≤ gb160)); have n4_ := n3_; have n5_ := Aside0.mk ((by rw [hg]; exact Nat.ne_of_lt (blk_lt (g := gb159) (o := .cells #[.bool a0_0, .int .i64 a0_1, .int .u64 a0_2, .bool a0_3] 56 (0, 0)) (bv BK159.out)) : gb159 ≠ gb160)); have n6_ := Aside0.mk (Ne.symm n5_.out); clear BK159; clear HB; have BK159 := n0_; have HB := n1_; have BK160 := n2_; have GW160 := n3_; have GE160 := n4_; have NB159_160 := n5_; have NB160_159 := n6_; clear n0_ n1_ n2_ n3_ n4_ n5_ n6_; clear hb hbox hg) | ((with_reducible refine gate_dst (N := 4) rfl ?_); refine box_event ?hg (N := 4) ?hd (cs := #[.bool false, .int .i64 0, .int .u64 0, .bool false]) (t := 56) ?hr ?_; (case hd => rfl); (case hg => rfl); (case hr => first | (go_simp; done) | (go_simp; rfl)); intro gb161 hg w16 hbox hb; have n0_ := Aside0.mk (blk_below (g := gb159) (o := .cells #[.bool a0_0, .int .i64 a0_1, .int .u64 a0_2, .bool a0_3] 56 (0, 0)) (bv BK159.out) hb); have n1_ := Aside0.mk (blk_below (g := gb160) (o := .cells #[.bool a1_0, .int .i64 a1_1, .int .u64 a1_2, .bool a1_3] 56 (0, 0)) (bv BK160.out) hb); have n2_ := Aside0.mk (below_step (bl2 HB.out GE159.out GE160.out) hb); have n3_ := Aside0.mk (hbox); have n4_ := Aside0.mk ((by rw [hg]; exact (below_size (bl2 HB.out GE159.out GE160.out)) : w.heap.size ≤ gb161)); have n5_ := n4_; have n6_ := Aside0.mk ((by rw [hg]; exact Nat.ne_of_lt (blk_lt (g := gb159) (o := .cells #[.bool a0_0, .int .i64 a0_1, .int .u64 a0_2, .bool a0_3] 56 (0, 0)) (bv BK159.out)) : gb159 ≠ gb161)); have n7_ := Aside0.mk (Ne.symm n6_.out); have n8_ := Aside0.mk ((by rw [hg]; exact Nat.ne_of_lt (blk_lt (g := gb160) (o := .cells #[.bool a1_0, .int .i64 a1_1, .int .u64 a1_2, .bool a1_3] 56 (0, 0)) (bv BK160.out)) : gb160 ≠ gb161)); have n9_ := Aside0.mk (Ne.symm n8_.out); clear BK159; clear BK160; clear HB; have BK159 := n0_; have BK160 := n1_; have HB := n2_; have BK161 := n3_; have GW161 := n4_; have GE161 := n5_; have NB159_161 := n6_; have NB161_159 := n7_; have NB160_161 := n8_; have NB161_160 := n9_; clear n0_ n1_ n2_ n3_ n4_ n5_ n6_ n7_ n8_ n9_; clear hb hbox hg; have hnb17 := NB159_160.out; have hnc17 := NB160_159.out; have hnb18 := NB159_161.out; have hnc18 := NB161_159.out; obtain ⟨hcz19_0, hcz19_1, hcz19_2, hcz19_3⟩ := bc4 BK159.out; obtain ⟨hfz19_0, hfz19_1, hfz19_2, hfz19_3⟩ := bf4 BK159.out; have hnb20 := NB160_161.out; have hnc20 := NB161_160.out; obtain ⟨hcz21_0, hcz21_1, hcz21_2, hcz21_3⟩ := bc4 BK160.out; obtain ⟨hfz21_0, hfz21_1, hfz21_2, hfz21_3⟩ := bf4 BK160.out; obtain ⟨hcz22_0, hcz22_1, hcz22_2, hcz22_3⟩ := bc4 BK161.out; obtain ⟨hfz22_0, hfz22_1, hfz22_2, hfz22_3⟩ := bf4 BK161.out))
   refine bodyPost_ret (results_cell_row rfl _ _ gb161 56 #[.bool a0_0, .int .i64 a0_1, .int .u64 a0_2, .bool a0_3] (0, 0) _ rfl (by (with_reducible repeat first | apply bd | apply be | apply ba); refine blk_put (cs := #[.bool a0_0, .int .i64 a0_1, .int .u64 a0_2, .bool false]) ?_ 3 _ rfl; (with_reducible repeat first | apply bd | apply be | apply ba); refine blk_put (cs := #[.bool a0_0, .int .i64 a0_1, .int .u64 0, .bool false]) ?_ 2 _ rfl; (with_reducible repeat first | apply bd | apply be | apply ba); refine blk_put (cs := #[.bool a0_0, .int .i64 0, .int .u64 0, .bool false]) ?_ 1 _ rfl; (with_reducible repeat first | apply bd | apply be | apply ba); refine blk_put (cs := #[.bool false, .int .i64 0, .int .u64 0, .bool false]) ?_ 0 _ rfl; (with_reducible repeat first | apply bd | apply be | apply ba); exact BK161.out) Try.underlying56 rfl (by kernel_rfl)) rfl ?_
   exact ⟨by first | rfl | (simp [errW_none, errW_some] <;> rfl) | (simp [*, errW_none, errW_some] <;> rfl), bl3 HB.out GE159.out GE160.out GE161.out⟩
  ·rw [if_neg c13] at H
   have c13b0 : (a1_2 == 0) = false := beq_eq_false_iff_ne.mpr c13
   have c13b1 : (a1_2 != 0) = true := bne_iff_ne.mpr c13
   replace H := Option.bind_eq_some_iff.mp H
   obtain ⟨⟨t162, t163, t164, t165⟩, A230, H⟩ := H
   replace H : ((sum_full.f k a1_0 a1_1 a1_2 a1_3).bind fun bt166 => (if t163 < bt166.2.1 then (sum_Exact.j0 k true t162 t163 t164 t165 bt166.1 bt166.2.1 bt166.2.2.1 bt166.2.2.2) else (if t163 = bt166.2.1 then (sum_Exact.j0 k (decide (t164 < bt166.2.2.1)) t162 t163 t164 t165 bt166.1 bt166.2.1 bt166.2.2.1 bt166.2.2.2) else (sum_Exact.j0 k false t162 t163 t164 t165 bt166.1 bt166.2.1 bt166.2.2.1 bt166.2.2.2)))) = some (r1, r2, r3, r4) := H
   have A23 := Aside0.mk A230
   clear A230
   replace H := Option.bind_eq_some_iff.mp H
   obtain ⟨⟨t166, t167, t168, t169⟩, A240, H⟩ := H
   replace H : (if t163 < t167 then (sum_Exact.j0 k true t162 t163 t164 t165 t166 t167 t168 t169) else (if t163 = t167 then (sum_Exact.j0 k (decide (t164 < t168)) t162 t163 t164 t165 t166 t167 t168 t169) else (sum_Exact.j0 k false t162 t163 t164 t165 t166 t167 t168 t169))) = some (r1, r2, r3, r4) := H
   have A24 := Aside0.mk A240
   clear A240
   have HC25 := Aside0.mk H
   clear H
   go_enter Try.func36, Try.ntmps36
   try go_wp2_with (first | ((with_reducible refine gate_dst (N := 2) rfl ?_); refine box_event ?hg (N := 2) ?hd (cs := #[.bool a0_0, .int .i64 a0_1, .int .u64 a0_2, .bool a0_3]) (t := 56) ?hr ?_; (case hd => rfl); (case hg => rfl); (case hr => first | (go_simp; done) | (go_simp; rfl)); intro gb159 hg w26 hbox hb; have n0_ := Aside0.mk (below_step (bl0 HB.out) hb); have n1_ := Aside0.mk (hbox); have n2_ := Aside0.mk ((by rw [hg]; exact (below_size (bl0 HB.out)) : w.heap.size ≤ gb159)); have n3_ := n2_; clear HB; have HB := n0_; have BK159 := n1_; have GW159 := n2_; have GE159 := n3_; clear n0_ n1_ n2_ n3_; clear hb hbox hg) | ((with_reducible refine gate_dst (N := 3) rfl ?_); refine box_event ?hg (N := 3) ?hd (cs := #[.bool a1_0, .int .i64 a1_1, .int .u64 a1_2, .bool a1_3]) (t := 56) ?hr ?_; (case hd => rfl); (case hg => rfl); (case hr => first | (go_simp; done) | (go_simp; rfl)); intro gb160 hg w27 hbox hb; have n0_ := Aside0.mk (blk_below (g := gb159) (o := .cells #[.bool a0_0, .int .i64 a0_1, .int .u64 a0_2, .bool a0_3] 56 (0, 0)) (bv BK159.out) hb); have n1_ := Aside0.mk (below_step (bl1 HB.out GE159.out) hb); have n2_ := Aside0.mk (hbox); have n3_ := Aside0.mk ((by rw [hg]; exact (below_size (bl1 HB.out GE159.out)) : w.heap.size ≤ gb160)); have n4_ := n3_; have n5_ := Aside0.mk ((by rw [hg]; exact Nat.ne_of_lt (blk_lt (g := gb159) (o := .cells #[.bool a0_0, .int .i64 a0_1, .int .u64 a0_2, .bool a0_3] 56 (0, 0)) (bv BK159.out)) : gb159 ≠ gb160)); have n6_ := Aside0.mk (Ne.symm n5_.out); clear BK159; clear HB; have BK159 := n0_; have HB := n1_; have BK160 := n2_; have GW160 := n3_; have GE160 := n4_; have NB159_160 := n5_; have NB160_159 := n6_; clear n0_ n1_ n2_ n3_ n4_ n5_ n6_; clear hb hbox hg) | ((with_reducible refine gate_dst (N := 4) rfl ?_); refine box_event ?hg (N := 4) ?hd (cs := #[.bool false, .int .i64 0, .int .u64 0, .bool false]) (t := 56) ?hr ?_; (case hd => rfl); (case hg => rfl); (case hr => first | (go_simp; done) | (go_simp; rfl)); intro gb161 hg w28 hbox hb; have n0_ := Aside0.mk (blk_below (g := gb159) (o := .cells #[.bool a0_0, .int .i64 a0_1, .int .u64 a0_2, .bool a0_3] 56 (0, 0)) (bv BK159.out) hb); have n1_ := Aside0.mk (blk_below (g := gb160) (o := .cells #[.bool a1_0, .int .i64 a1_1, .int .u64 a1_2, .bool a1_3] 56 (0, 0)) (bv BK160.out) hb); have n2_ := Aside0.mk (below_step (bl2 HB.out GE159.out GE160.out) hb); have n3_ := Aside0.mk (hbox); have n4_ := Aside0.mk ((by rw [hg]; exact (below_size (bl2 HB.out GE159.out GE160.out)) : w.heap.size ≤ gb161)); have n5_ := n4_; have n6_ := Aside0.mk ((by rw [hg]; exact Nat.ne_of_lt (blk_lt (g := gb159) (o := .cells #[.bool a0_0, .int .i64 a0_1, .int .u64 a0_2, .bool a0_3] 56 (0, 0)) (bv BK159.out)) : gb159 ≠ gb161)); have n7_ := Aside0.mk (Ne.symm n6_.out); have n8_ := Aside0.mk ((by rw [hg]; exact Nat.ne_of_lt (blk_lt (g := gb160) (o := .cells #[.bool a1_0, .int .i64 a1_1, .int .u64 a1_2, .bool a1_3] 56 (0, 0)) (bv BK160.out)) : gb160 ≠ gb161)); have n9_ := Aside0.mk (Ne.symm n8_.out); clear BK159; clear BK160; clear HB; have BK159 := n0_; have BK160 := n1_; have HB := n2_; have BK161 := n3_; have GW161 := n4_; have GE161 := n5_; have NB159_161 := n6_; have NB161_159 := n7_; have NB160_161 := n8_; have NB161_160 := n9_; clear n0_ n1_ n2_ n3_ n4_ n5_ n6_ n7_ n8_ n9_; clear hb hbox hg; have hnb29 := NB159_160.out; have hnc29 := NB160_159.out; have hnb30 := NB159_161.out; have hnc30 := NB161_159.out; obtain ⟨hcz31_0, hcz31_1, hcz31_2, hcz31_3⟩ := bc4 BK159.out; obtain ⟨hfz31_0, hfz31_1, hfz31_2, hfz31_3⟩ := bf4 BK159.out; have hnb32 := NB160_161.out; have hnc32 := NB161_160.out; obtain ⟨hcz33_0, hcz33_1, hcz33_2, hcz33_3⟩ := bc4 BK160.out; obtain ⟨hfz33_0, hfz33_1, hfz33_2, hfz33_3⟩ := bf4 BK160.out))
   have n0_ := Aside0.mk (blk_drew BK159.out)
   have n1_ := Aside0.mk (blk_drew BK160.out)
   have n2_ := Aside0.mk (blk_drew BK161.out)
   have n3_ := Aside0.mk (below_drew1 HB.out)
   clear BK159
   clear BK160
   clear BK161
   clear HB
   have BK159 := n0_
   have BK160 := n1_
   have BK161 := n2_
   have HB := n3_
   clear n0_ n1_ n2_ n3_
   refine start_ (n := 6) (S := fun w' => w'.cell? ⟨gb159, 0, none⟩ = some (.bool a0_0) ∧ w'.cell? ⟨gb159, 1, none⟩ = some (.int .i64 a0_1) ∧ w'.cell? ⟨gb159, 2, none⟩ = some (.int .u64 a0_2) ∧ w'.cell? ⟨gb159, 3, none⟩ = some (.bool a0_3) ∧ w'.cell? ⟨gb160, 0, none⟩ = some (.bool a1_0) ∧ w'.cell? ⟨gb160, 1, none⟩ = some (.int .i64 a1_1) ∧ w'.cell? ⟨gb160, 2, none⟩ = some (.int .u64 a1_2) ∧ w'.cell? ⟨gb160, 3, none⟩ = some (.bool a1_3)) (ds := [4, 5]) (tf 0 6) (by kernel_rfl) rfl rfl ⟨(blk_cell BK159.out 0).trans rfl, (blk_cell BK159.out 1).trans rfl, (blk_cell BK159.out 2).trans rfl, (blk_cell BK159.out 3).trans rfl, (blk_cell BK160.out 0).trans rfl, (blk_cell BK160.out 1).trans rfl, (blk_cell BK160.out 2).trans rfl, (blk_cell BK160.out 3).trans rfl⟩ (fun hHeld => ?_)
   generalize w28.drew = w34 at BK159 BK160 BK161 HB hHeld ⊢
   refine take_ (i := 0) (N := some 17) (v := ?_) (a' := ?_) (tf 1 5) rfl rfl (by kernel_rfl) (fun _ _ _ h => h) (Or.inl ⟨by rfl, ?_⟩) hHeld ?_ ?_
   rotate_left
   ·rintro w' ⟨s0, s1, s2, s3, s4, s5, s6, s7⟩
    go_simp
    with_reducible rfl
   rotate_left
   ·simp only [Act.put, sb, sz, ss, i64_w, i32_w]
    rfl
   refine take_ (i := 2) (N := some 19) (v := ?_) (a' := ?_) #[true, false, true, false, false, false] rfl rfl (by kernel_rfl) (fun _ _ _ h => h) (Or.inl ⟨by rfl, ?_⟩) hHeld ?_ ?_
   rotate_left
   ·rintro w' ⟨s0, s1, s2, s3, s4, s5, s6, s7⟩
    go_simp
    with_reducible rfl
   rotate_left
   ·simp only [Act.put, sb, sz, ss, i64_w, i32_w]
    rfl
   refine one_ (i := 1) (N := some 18) (tf 3 3) rfl rfl (by kernel_rfl) (by decide) (fun K hK => ?_)
   refine goes_ Try.func58 (by kernel_rfl) rfl #[.agg #[.bool a0_0, .int .i64 a0_1, .int .u64 a0_2, .bool a0_3]] (by rfl) rfl rfl gl ?_
   with_reducible refine (sum_full.calls k a0_0 a0_1 a0_2 a0_3 t162 t163 t164 t165 _ A23.out).mono ?_
   rintro e w35 ⟨rfl, hb⟩
   refine ⟨_, rfl, ?_⟩
   have n0_ := Aside0.mk (blk_below (g := gb159) (o := .cells #[.bool a0_0, .int .i64 a0_1, .int .u64 a0_2, .bool a0_3] 56 (0, 0)) (bv BK159.out) hb)
   have n1_ := Aside0.mk (blk_below (g := gb160) (o := .cells #[.bool a1_0, .int .i64 a1_1, .int .u64 a1_2, .bool a1_3] 56 (0, 0)) (bv BK160.out) hb)
   have n2_ := Aside0.mk (blk_below (g := gb161) (o := .cells #[.bool false, .int .i64 0, .int .u64 0, .bool false] 56 (0, 0)) (bv BK161.out) hb)
   have n3_ := Aside0.mk (below_step (bl3 HB.out GE159.out GE160.out GE161.out) hb)
   clear BK159
   clear BK160
   clear BK161
   clear HB
   have BK159 := n0_
   have BK160 := n1_
   have BK161 := n2_
   have HB := n3_
   clear n0_ n1_ n2_ n3_
   (try clear hb)
   (try clear hb2)
   (try clear hk)
   (try clear hi)
   refine hK.out _ _ ⟨(blk_cell BK159.out 0).trans rfl, (blk_cell BK159.out 1).trans rfl, (blk_cell BK159.out 2).trans rfl, (blk_cell BK159.out 3).trans rfl, (blk_cell BK160.out 0).trans rfl, (blk_cell BK160.out 1).trans rfl, (blk_cell BK160.out 2).trans rfl, (blk_cell BK160.out 3).trans rfl⟩ (fun hHeld => ?_)
   clear hK K
   refine norm_ (a' := ?_) ?_ ?_
   rotate_left
   ·show Act.put _ (some 18) _ = _
    simp only [Act.put, sb, sz, ss, i64_w, i32_w]
    rfl
   refine one_ (i := 3) (N := some 20) (tf 4 2) rfl rfl (by kernel_rfl) (by decide) (fun K hK => ?_)
   refine goes_ Try.func58 (by kernel_rfl) rfl #[.agg #[.bool a1_0, .int .i64 a1_1, .int .u64 a1_2, .bool a1_3]] (by rfl) rfl rfl gl ?_
   with_reducible refine (sum_full.calls k a1_0 a1_1 a1_2 a1_3 t166 t167 t168 t169 _ A24.out).mono ?_
   rintro e w36 ⟨rfl, hb⟩
   refine ⟨_, rfl, ?_⟩
   have n0_ := Aside0.mk (blk_below (g := gb159) (o := .cells #[.bool a0_0, .int .i64 a0_1, .int .u64 a0_2, .bool a0_3] 56 (0, 0)) (bv BK159.out) hb)
   have n1_ := Aside0.mk (blk_below (g := gb160) (o := .cells #[.bool a1_0, .int .i64 a1_1, .int .u64 a1_2, .bool a1_3] 56 (0, 0)) (bv BK160.out) hb)
   have n2_ := Aside0.mk (blk_below (g := gb161) (o := .cells #[.bool false, .int .i64 0, .int .u64 0, .bool false] 56 (0, 0)) (bv BK161.out) hb)
   have n3_ := Aside0.mk (below_step (bl3 HB.out GE159.out GE160.out GE161.out) hb)
   clear BK159
   clear BK160
   clear BK161
   clear HB
   have BK159 := n0_
   have BK160 := n1_
   have BK161 := n2_
   have HB := n3_
   clear n0_ n1_ n2_ n3_
   (try clear hb)
   (try clear hb2)
   (try clear hk)
   (try clear hi)
   refine hK.out _ _ ⟨(blk_cell BK159.out 0).trans rfl, (blk_cell BK159.out 1).trans rfl, (blk_cell BK159.out 2).trans rfl, (blk_cell BK159.out 3).trans rfl, (blk_cell BK160.out 0).trans rfl, (blk_cell BK160.out 1).trans rfl, (blk_cell BK160.out 2).trans rfl, (blk_cell BK160.out 3).trans rfl⟩ (fun hHeld => ?_)
   clear hK K
   refine norm_ (a' := ?_) ?_ ?_
   rotate_left
   ·show Act.put _ (some 20) _ = _
    simp only [Act.put, sb, sz, ss, i64_w, i32_w]
    rfl
   refine last_ (i := 4) (N := none) (tf 5 1) rfl rfl (by kernel_rfl) (by decide) (fun K hK => ?_)
   have hs37 : w36.cell? ⟨gb159, 0, none⟩ = some (.bool a0_0) := (blk_cell BK159.out 0).trans rfl
   have hfs37 := blk_frozen BK159.out 0
   have hns37_1 := NB160_159.out
   have hns37_2 := NB161_159.out
   have hms37_1 := NB159_160.out
   have hms37_2 := NB159_161.out
   have hs38 : w36.cell? ⟨gb159, 1, none⟩ = some (.int .i64 a0_1) := (blk_cell BK159.out 1).trans rfl
   have hfs38 := blk_frozen BK159.out 1
   have hns38_1 := NB160_159.out
   have hns38_2 := NB161_159.out
   have hms38_1 := NB159_160.out
   have hms38_2 := NB159_161.out
   have hs39 : w36.cell? ⟨gb159, 2, none⟩ = some (.int .u64 a0_2) := (blk_cell BK159.out 2).trans rfl
   have hfs39 := blk_frozen BK159.out 2
   have hns39_1 := NB160_159.out
   have hns39_2 := NB161_159.out
   have hms39_1 := NB159_160.out
   have hms39_2 := NB159_161.out
   have hs40 : w36.cell? ⟨gb159, 3, none⟩ = some (.bool a0_3) := (blk_cell BK159.out 3).trans rfl
   have hfs40 := blk_frozen BK159.out 3
   have hns40_1 := NB160_159.out
   have hns40_2 := NB161_159.out
   have hms40_1 := NB159_160.out
   have hms40_2 := NB159_161.out
   refine skip_ (w1 := ?_) (by rfl) rfl ?_ ?_
   rotate_left
   ·go_simp
    rfl
   refine hK.out _ _ ?_
   clear hK K
   refine last_ (i := 5) (N := none) (tf 6 0) rfl rfl (by kernel_rfl) (by decide) (fun K hK => ?_)
   have hs41 : w36.cell? ⟨gb160, 0, none⟩ = some (.bool a1_0) := (blk_cell BK160.out 0).trans rfl
   have hfs41 := blk_frozen BK160.out 0
   have hns41_0 := NB159_160.out
   have hns41_2 := NB161_160.out
   have hms41_0 := NB160_159.out
   have hms41_2 := NB160_161.out
   have hs42 : w36.cell? ⟨gb160, 1, none⟩ = some (.int .i64 a1_1) := (blk_cell BK160.out 1).trans rfl
   have hfs42 := blk_frozen BK160.out 1
   have hns42_0 := NB159_160.out
   have hns42_2 := NB161_160.out
   have hms42_0 := NB160_159.out
   have hms42_2 := NB160_161.out
   have hs43 : w36.cell? ⟨gb160, 2, none⟩ = some (.int .u64 a1_2) := (blk_cell BK160.out 2).trans rfl
   have hfs43 := blk_frozen BK160.out 2
   have hns43_0 := NB159_160.out
   have hns43_2 := NB161_160.out
   have hms43_0 := NB160_159.out
   have hms43_2 := NB160_161.out
   have hs44 : w36.cell? ⟨gb160, 3, none⟩ = some (.bool a1_3) := (blk_cell BK160.out 3).trans rfl
   have hfs44 := blk_frozen BK160.out 3
   have hns44_0 := NB159_160.out
   have hns44_2 := NB161_160.out
   have hms44_0 := NB160_159.out
   have hms44_2 := NB160_161.out
   refine skip_ (w1 := ?_) (by rfl) rfl ?_ ?_
   rotate_left
   ·go_simp
    rfl
   refine hK.out _ _ ?_
   clear hK K
   refine done_ (by kernel_rfl) ?_
   go_upto_region 6 with (fail)
   go_cut [39] (fun v39 wc => ∃ (kq : Nat) (x39_24 : Bool), v39 = .bool x39_24 ∧ Aside0 (sum_Exact.j0 kq x39_24 t162 t163 t164 t165 t166 t167 t168 t169 = some (r1, r2, r3, r4)) ∧ Aside0 (kq ≤ k) ∧ Aside0 (wc.heap[gb159]? = some (.cells #[.bool t162, .int .i64 t163, .int .u64 t164, .bool t165] 56 (0, 0))) ∧ Aside0 (wc.heap[gb160]? = some (.cells #[.bool t166, .int .i64 t167, .int .u64 t168, .bool t169] 56 (0, 0))) ∧ Aside0 (wc.heap[gb161]? = some (.cells #[.bool false, .int .i64 0, .int .u64 0, .bool false] 56 (0, 0))) ∧ Aside0 (Below w.heap.size w wc))
   case first =>
    have H := HC25.out
    clear HC25
    by_cases c45 : t163 < t167
    ·rw [if_pos c45] at H
     have c45b0 : decide (t163 < t167) = true := decide_eq_true c45
     clear c45
     (first | rw [c45b0] | (simp only [i64_w, i32_w]; rw [c45b0]) | skip)
     have H' := Aside0.mk H
     clear H
     have hnb46 := NB159_160.out
     have hnc46 := NB160_159.out
     have hnb47 := NB159_161.out
     have hnc47 := NB161_159.out
     have hcz48_0 : w36.cell? ⟨gb159, 0, none⟩ = some (.bool a0_0) := (blk_cell BK159.out 0).trans rfl
     have hcz48_1 : w36.cell? ⟨gb159, 1, none⟩ = some (.int .i64 a0_1) := (blk_cell BK159.out 1).trans rfl
     have hcz48_2 : w36.cell? ⟨gb159, 2, none⟩ = some (.int .u64 a0_2) := (blk_cell BK159.out 2).trans rfl
     have hcz48_3 : w36.cell? ⟨gb159, 3, none⟩ = some (.bool a0_3) := (blk_cell BK159.out 3).trans rfl
     have hfz48_0 := blk_frozen BK159.out 0
     have hfz48_1 := blk_frozen BK159.out 1
     have hfz48_2 := blk_frozen BK159.out 2
     have hfz48_3 := blk_frozen BK159.out 3
     have hnb49 := NB160_161.out
     have hnc49 := NB161_160.out
     have hcz50_0 : w36.cell? ⟨gb160, 0, none⟩ = some (.bool a1_0) := (blk_cell BK160.out 0).trans rfl
     have hcz50_1 : w36.cell? ⟨gb160, 1, none⟩ = some (.int .i64 a1_1) := (blk_cell BK160.out 1).trans rfl
     have hcz50_2 : w36.cell? ⟨gb160, 2, none⟩ = some (.int .u64 a1_2) := (blk_cell BK160.out 2).trans rfl
     have hcz50_3 : w36.cell? ⟨gb160, 3, none⟩ = some (.bool a1_3) := (blk_cell BK160.out 3).trans rfl
     have hfz50_0 := blk_frozen BK160.out 0
     have hfz50_1 := blk_frozen BK160.out 1
     have hfz50_2 := blk_frozen BK160.out 2
     have hfz50_3 := blk_frozen BK160.out 3
     go_wp2
     go_meet
     case rel => exact ⟨_, (true), (by first | rfl | (simp; done) | (simp [*]; done) | (congr 1; (try unfold wrap64); omega) | (congr 1; rw [IntKind.wrap_u64]; omega)), H', ⟨by first | omega | exact Nat.le_refl _⟩, ⟨by (with_reducible repeat first | apply bd | apply be | apply ba); refine blk_far ?_ NB159_160.out _; (with_reducible repeat first | apply bd | apply be | apply ba); refine blk_far ?_ NB159_160.out _; (with_reducible repeat first | apply bd | apply be | apply ba); refine blk_far ?_ NB159_160.out _; (with_reducible repeat first | apply bd | apply be | apply ba); refine blk_far ?_ NB159_160.out _; (with_reducible repeat first | apply bd | apply be | apply ba); refine blk_put (cs := #[.bool t162, .int .i64 t163, .int .u64 t164, .bool a0_3]) ?_ 3 _ rfl; (with_reducible repeat first | apply bd | apply be | apply ba); refine blk_put (cs := #[.bool t162, .int .i64 t163, .int .u64 a0_2, .bool a0_3]) ?_ 2 _ rfl; (with_reducible repeat first | apply bd | apply be | apply ba); refine blk_put (cs := #[.bool t162, .int .i64 a0_1, .int .u64 a0_2, .bool a0_3]) ?_ 1 _ rfl; (with_reducible repeat first | apply bd | apply be | apply ba); refine blk_put (cs := #[.bool a0_0, .int .i64 a0_1, .int .u64 a0_2, .bool a0_3]) ?_ 0 _ rfl; (with_reducible repeat first | apply bd | apply be | apply ba); exact BK159.out⟩, ⟨by (with_reducible repeat first | apply bd | apply be | apply ba); refine blk_put (cs := #[.bool t166, .int .i64 t167, .int .u64 t168, .bool a1_3]) ?_ 3 _ rfl; (with_reducible repeat first | apply bd | apply be | apply ba); refine blk_put (cs := #[.bool t166, .int .i64 t167, .int .u64 a1_2, .bool a1_3]) ?_ 2 _ rfl; (with_reducible repeat first | apply bd | apply be | apply ba); refine blk_put (cs := #[.bool t166, .int .i64 a1_1, .int .u64 a1_2, .bool a1_3]) ?_ 1 _ rfl; (with_reducible repeat first | apply bd | apply be | apply ba); refine blk_put (cs := #[.bool a1_0, .int .i64 a1_1, .int .u64 a1_2, .bool a1_3]) ?_ 0 _ rfl; (with_reducible repeat first | apply bd | apply be | apply ba); refine blk_far ?_ NB160_159.out _; (with_reducible repeat first | apply bd | apply be | apply ba); refine blk_far ?_ NB160_159.out _; (with_reducible repeat first | apply bd | apply be | apply ba); refine blk_far ?_ NB160_159.out _; (with_reducible repeat first | apply bd | apply be | apply ba); refine blk_far ?_ NB160_159.out _; (with_reducible repeat first | apply bd | apply be | apply ba); exact BK160.out⟩, ⟨by (with_reducible repeat first | apply bd | apply be | apply ba); refine blk_far ?_ NB161_160.out _; (with_reducible repeat first | apply bd | apply be | apply ba); refine blk_far ?_ NB161_160.out _; (with_reducible repeat first | apply bd | apply be | apply ba); refine blk_far ?_ NB161_160.out _; (with_reducible repeat first | apply bd | apply be | apply ba); refine blk_far ?_ NB161_160.out _; (with_reducible repeat first | apply bd | apply be | apply ba); refine blk_far ?_ NB161_159.out _; (with_reducible repeat first | apply bd | apply be | apply ba); refine blk_far ?_ NB161_159.out _; (with_reducible repeat first | apply bd | apply be | apply ba); refine blk_far ?_ NB161_159.out _; (with_reducible repeat first | apply bd | apply be | apply ba); refine blk_far ?_ NB161_159.out _; (with_reducible repeat first | apply bd | apply be | apply ba); exact BK161.out⟩, ⟨bl3 HB.out GE159.out GE160.out GE161.out⟩⟩
    ·rw [if_neg c45] at H
     have c45b0 : decide (t163 < t167) = false := decide_eq_false c45
     clear c45
     (first | rw [c45b0] | (simp only [i64_w, i32_w]; rw [c45b0]) | skip)
     by_cases c51 : t163 = t167
     ·rw [if_pos c51] at H
      have c51b0 : (t163 == t167) = true := beq_iff_eq.mpr c51
      have c51b1 : (t163 != t167) = false := bne_eq_false_iff_eq.mpr c51
      clear c51
      have H' := Aside0.mk H
      clear H
      have hnb52 := NB159_160.out
      have hnc52 := NB160_159.out
      have hnb53 := NB159_161.out
      have hnc53 := NB161_159.out
      have hcz54_0 : w36.cell? ⟨gb159, 0, none⟩ = some (.bool a0_0) := (blk_cell BK159.out 0).trans rfl
      have hcz54_1 : w36.cell? ⟨gb159, 1, none⟩ = some (.int .i64 a0_1) := (blk_cell BK159.out 1).trans rfl
      have hcz54_2 : w36.cell? ⟨gb159, 2, none⟩ = some (.int .u64 a0_2) := (blk_cell BK159.out 2).trans rfl
      have hcz54_3 : w36.cell? ⟨gb159, 3, none⟩ = some (.bool a0_3) := (blk_cell BK159.out 3).trans rfl
      have hfz54_0 := blk_frozen BK159.out 0
      have hfz54_1 := blk_frozen BK159.out 1
      have hfz54_2 := blk_frozen BK159.out 2
      have hfz54_3 := blk_frozen BK159.out 3
      have hnb55 := NB160_161.out
      have hnc55 := NB161_160.out
      have hcz56_0 : w36.cell? ⟨gb160, 0, none⟩ = some (.bool a1_0) := (blk_cell BK160.out 0).trans rfl
      have hcz56_1 : w36.cell? ⟨gb160, 1, none⟩ = some (.int .i64 a1_1) := (blk_cell BK160.out 1).trans rfl
      have hcz56_2 : w36.cell? ⟨gb160, 2, none⟩ = some (.int .u64 a1_2) := (blk_cell BK160.out 2).trans rfl
      have hcz56_3 : w36.cell? ⟨gb160, 3, none⟩ = some (.bool a1_3) := (blk_cell BK160.out 3).trans rfl
      have hfz56_0 := blk_frozen BK160.out 0
      have hfz56_1 := blk_frozen BK160.out 1
      have hfz56_2 := blk_frozen BK160.out 2
      have hfz56_3 := blk_frozen BK160.out 3
      go_wp2
      go_meet
      case rel => exact ⟨_, (decide (t164 < t168)), (by first | rfl | (simp; done) | (simp [*]; done) | (congr 1; (try unfold wrap64); omega) | (congr 1; rw [IntKind.wrap_u64]; omega)), H', ⟨by first | omega | exact Nat.le_refl _⟩, ⟨by (with_reducible repeat first | apply bd | apply be | apply ba); refine blk_far ?_ NB159_160.out _; (with_reducible repeat first | apply bd | apply be | apply ba); refine blk_far ?_ NB159_160.out _; (with_reducible repeat first | apply bd | apply be | apply ba); refine blk_far ?_ NB159_160.out _; (with_reducible repeat first | apply bd | apply be | apply ba); refine blk_far ?_ NB159_160.out _; (with_reducible repeat first | apply bd | apply be | apply ba); refine blk_put (cs := #[.bool t162, .int .i64 t163, .int .u64 t164, .bool a0_3]) ?_ 3 _ rfl; (with_reducible repeat first | apply bd | apply be | apply ba); refine blk_put (cs := #[.bool t162, .int .i64 t163, .int .u64 a0_2, .bool a0_3]) ?_ 2 _ rfl; (with_reducible repeat first | apply bd | apply be | apply ba); refine blk_put (cs := #[.bool t162, .int .i64 a0_1, .int .u64 a0_2, .bool a0_3]) ?_ 1 _ rfl; (with_reducible repeat first | apply bd | apply be | apply ba); refine blk_put (cs := #[.bool a0_0, .int .i64 a0_1, .int .u64 a0_2, .bool a0_3]) ?_ 0 _ rfl; (with_reducible repeat first | apply bd | apply be | apply ba); exact BK159.out⟩, ⟨by (with_reducible repeat first | apply bd | apply be | apply ba); refine blk_put (cs := #[.bool t166, .int .i64 t167, .int .u64 t168, .bool a1_3]) ?_ 3 _ rfl; (with_reducible repeat first | apply bd | apply be | apply ba); refine blk_put (cs := #[.bool t166, .int .i64 t167, .int .u64 a1_2, .bool a1_3]) ?_ 2 _ rfl; (with_reducible repeat first | apply bd | apply be | apply ba); refine blk_put (cs := #[.bool t166, .int .i64 a1_1, .int .u64 a1_2, .bool a1_3]) ?_ 1 _ rfl; (with_reducible repeat first | apply bd | apply be | apply ba); refine blk_put (cs := #[.bool a1_0, .int .i64 a1_1, .int .u64 a1_2, .bool a1_3]) ?_ 0 _ rfl; (with_reducible repeat first | apply bd | apply be | apply ba); refine blk_far ?_ NB160_159.out _; (with_reducible repeat first | apply bd | apply be | apply ba); refine blk_far ?_ NB160_159.out _; (with_reducible repeat first | apply bd | apply be | apply ba); refine blk_far ?_ NB160_159.out _; (with_reducible repeat first | apply bd | apply be | apply ba); refine blk_far ?_ NB160_159.out _; (with_reducible repeat first | apply bd | apply be | apply ba); exact BK160.out⟩, ⟨by (with_reducible repeat first | apply bd | apply be | apply ba); refine blk_far ?_ NB161_160.out _; (with_reducible repeat first | apply bd | apply be | apply ba); refine blk_far ?_ NB161_160.out _; (with_reducible repeat first | apply bd | apply be | apply ba); refine blk_far ?_ NB161_160.out _; (with_reducible repeat first | apply bd | apply be | apply ba); refine blk_far ?_ NB161_160.out _; (with_reducible repeat first | apply bd | apply be | apply ba); refine blk_far ?_ NB161_159.out _; (with_reducible repeat first | apply bd | apply be | apply ba); refine blk_far ?_ NB161_159.out _; (with_reducible repeat first | apply bd | apply be | apply ba); refine blk_far ?_ NB161_159.out _; (with_reducible repeat first | apply bd | apply be | apply ba); refine blk_far ?_ NB161_159.out _; (with_reducible repeat first | apply bd | apply be | apply ba); exact BK161.out⟩, ⟨bl3 HB.out GE159.out GE160.out GE161.out⟩⟩
     ·rw [if_neg c51] at H
      have c51b0 : (t163 == t167) = false := beq_eq_false_iff_ne.mpr c51
      have c51b1 : (t163 != t167) = true := bne_iff_ne.mpr c51
      have H' := Aside0.mk H
      clear H
      have hnb57 := NB159_160.out
      have hnc57 := NB160_159.out
      have hnb58 := NB159_161.out
      have hnc58 := NB161_159.out
      have hcz59_0 : w36.cell? ⟨gb159, 0, none⟩ = some (.bool a0_0) := (blk_cell BK159.out 0).trans rfl
      have hcz59_1 : w36.cell? ⟨gb159, 1, none⟩ = some (.int .i64 a0_1) := (blk_cell BK159.out 1).trans rfl
      have hcz59_2 : w36.cell? ⟨gb159, 2, none⟩ = some (.int .u64 a0_2) := (blk_cell BK159.out 2).trans rfl
      have hcz59_3 : w36.cell? ⟨gb159, 3, none⟩ = some (.bool a0_3) := (blk_cell BK159.out 3).trans rfl
      have hfz59_0 := blk_frozen BK159.out 0
      have hfz59_1 := blk_frozen BK159.out 1
      have hfz59_2 := blk_frozen BK159.out 2
      have hfz59_3 := blk_frozen BK159.out 3
      have hnb60 := NB160_161.out
      have hnc60 := NB161_160.out
      have hcz61_0 : w36.cell? ⟨gb160, 0, none⟩ = some (.bool a1_0) := (blk_cell BK160.out 0).trans rfl
      have hcz61_1 : w36.cell? ⟨gb160, 1, none⟩ = some (.int .i64 a1_1) := (blk_cell BK160.out 1).trans rfl
      have hcz61_2 : w36.cell? ⟨gb160, 2, none⟩ = some (.int .u64 a1_2) := (blk_cell BK160.out 2).trans rfl
      have hcz61_3 : w36.cell? ⟨gb160, 3, none⟩ = some (.bool a1_3) := (blk_cell BK160.out 3).trans rfl
      have hfz61_0 := blk_frozen BK160.out 0
      have hfz61_1 := blk_frozen BK160.out 1
      have hfz61_2 := blk_frozen BK160.out 2
      have hfz61_3 := blk_frozen BK160.out 3
      go_wp2
      go_meet
      case rel => exact ⟨_, (false), (by first | rfl | (simp; done) | (simp [*]; done) | (congr 1; (try unfold wrap64); omega) | (congr 1; rw [IntKind.wrap_u64]; omega)), H', ⟨by first | omega | exact Nat.le_refl _⟩, ⟨by (with_reducible repeat first | apply bd | apply be | apply ba); refine blk_far ?_ NB159_160.out _; (with_reducible repeat first | apply bd | apply be | apply ba); refine blk_far ?_ NB159_160.out _; (with_reducible repeat first | apply bd | apply be | apply ba); refine blk_far ?_ NB159_160.out _; (with_reducible repeat first | apply bd | apply be | apply ba); refine blk_far ?_ NB159_160.out _; (with_reducible repeat first | apply bd | apply be | apply ba); refine blk_put (cs := #[.bool t162, .int .i64 t163, .int .u64 t164, .bool a0_3]) ?_ 3 _ rfl; (with_reducible repeat first | apply bd | apply be | apply ba); refine blk_put (cs := #[.bool t162, .int .i64 t163, .int .u64 a0_2, .bool a0_3]) ?_ 2 _ rfl; (with_reducible repeat first | apply bd | apply be | apply ba); refine blk_put (cs := #[.bool t162, .int .i64 a0_1, .int .u64 a0_2, .bool a0_3]) ?_ 1 _ rfl; (with_reducible repeat first | apply bd | apply be | apply ba); refine blk_put (cs := #[.bool a0_0, .int .i64 a0_1, .int .u64 a0_2, .bool a0_3]) ?_ 0 _ rfl; (with_reducible repeat first | apply bd | apply be | apply ba); exact BK159.out⟩, ⟨by (with_reducible repeat first | apply bd | apply be | apply ba); refine blk_put (cs := #[.bool t166, .int .i64 t167, .int .u64 t168, .bool a1_3]) ?_ 3 _ rfl; (with_reducible repeat first | apply bd | apply be | apply ba); refine blk_put (cs := #[.bool t166, .int .i64 t167, .int .u64 a1_2, .bool a1_3]) ?_ 2 _ rfl; (with_reducible repeat first | apply bd | apply be | apply ba); refine blk_put (cs := #[.bool t166, .int .i64 a1_1, .int .u64 a1_2, .bool a1_3]) ?_ 1 _ rfl; (with_reducible repeat first | apply bd | apply be | apply ba); refine blk_put (cs := #[.bool a1_0, .int .i64 a1_1, .int .u64 a1_2, .bool a1_3]) ?_ 0 _ rfl; (with_reducible repeat first | apply bd | apply be | apply ba); refine blk_far ?_ NB160_159.out _; (with_reducible repeat first | apply bd | apply be | apply ba); refine blk_far ?_ NB160_159.out _; (with_reducible repeat first | apply bd | apply be | apply ba); refine blk_far ?_ NB160_159.out _; (with_reducible repeat first | apply bd | apply be | apply ba); refine blk_far ?_ NB160_159.out _; (with_reducible repeat first | apply bd | apply be | apply ba); exact BK160.out⟩, ⟨by (with_reducible repeat first | apply bd | apply be | apply ba); refine blk_far ?_ NB161_160.out _; (with_reducible repeat first | apply bd | apply be | apply ba); refine blk_far ?_ NB161_160.out _; (with_reducible repeat first | apply bd | apply be | apply ba); refine blk_far ?_ NB161_160.out _; (with_reducible repeat first | apply bd | apply be | apply ba); refine blk_far ?_ NB161_160.out _; (with_reducible repeat first | apply bd | apply be | apply ba); refine blk_far ?_ NB161_159.out _; (with_reducible repeat first | apply bd | apply be | apply ba); refine blk_far ?_ NB161_159.out _; (with_reducible repeat first | apply bd | apply be | apply ba); refine blk_far ?_ NB161_159.out _; (with_reducible repeat first | apply bd | apply be | apply ba); refine blk_far ?_ NB161_159.out _; (with_reducible repeat first | apply bd | apply be | apply ba); exact BK161.out⟩, ⟨bl3 HB.out GE159.out GE160.out GE161.out⟩⟩
   case rest =>
    clear HC25
    try clear c1 c2 p2 c3 c3b0 c3b1 c4 c5 c6 p6 c7 c8 c10 c13 c13b0 c13b1 c17 c18 c20 c29 c30 c32 c36 c45 c45b0 c46 c47 c49 c51 c51b0 c51b1 c52 c53 c55 c57 c58 c60 hcz11_0 hcz11_1 hcz11_2 hcz11_3 hcz12_0 hcz12_1 hcz12_2 hcz12_3 hcz19_0 hcz19_1 hcz19_2 hcz19_3 hcz21_0 hcz21_1 hcz21_2 hcz21_3 hcz22_0 hcz22_1 hcz22_2 hcz22_3 hcz31_0 hcz31_1 hcz31_2 hcz31_3 hcz33_0 hcz33_1 hcz33_2 hcz33_3 hcz48_0 hcz48_1 hcz48_2 hcz48_3 hcz50_0 hcz50_1 hcz50_2 hcz50_3 hcz54_0 hcz54_1 hcz54_2 hcz54_3 hcz56_0 hcz56_1 hcz56_2 hcz56_3 hcz59_0 hcz59_1 hcz59_2 hcz59_3 hcz61_0 hcz61_1 hcz61_2 hcz61_3 hcz9_0 hcz9_1 hcz9_2 hcz9_3 hfz11_0 hfz11_1 hfz11_2 hfz11_3 hfz12_0 hfz12_1 hfz12_2 hfz12_3 hfz19_0 hfz19_1 hfz19_2 hfz19_3 hfz21_0 hfz21_1 hfz21_2 hfz21_3 hfz22_0 hfz22_1 hfz22_2 hfz22_3 hfz31_0 hfz31_1 hfz31_2 hfz31_3 hfz33_0 hfz33_1 hfz33_2 hfz33_3 hfz48_0 hfz48_1 hfz48_2 hfz48_3 hfz50_0 hfz50_1 hfz50_2 hfz50_3 hfz54_0 hfz54_1 hfz54_2 hfz54_3 hfz56_0 hfz56_1 hfz56_2 hfz56_3 hfz59_0 hfz59_1 hfz59_2 hfz59_3 hfz61_0 hfz61_1 hfz61_2 hfz61_3 hfz9_0 hfz9_1 hfz9_2 hfz9_3
    obtain ⟨kq, x39_24, rfl, HA, HJ24, BK159, BK160, BK161, HB⟩ := hcut
    cases kq with
    |zero => exact absurd HA.out (by simp [sum_Exact.j0])
    |succ kj24 =>
     have H := HA.out
     clear HA
     simp only [sum_Exact.j0] at H
     have HC62 := Aside0.mk H
     clear H
     go_upto_if 39 with (fail)
     go_cut [] (fun wc => ∃ (kq : Nat) (x160000_61 : Bool) (x160001_61 : Int) (x160002_61 : Int) (x160003_61 : Bool) (x161000_61 : Bool) (x161001_61 : Int) (x161002_61 : Int) (x161003_61 : Bool), Aside0 (sum_Exact.j1 kq x160000_61 x160001_61 x160002_61 x160003_61 x161000_61 x161001_61 x161002_61 x161003_61 = some (r1, r2, r3, r4)) ∧ Aside0 (kq ≤ kj24) ∧ Aside0 (wc.heap[gb159]? = some (.cells #[.bool x160000_61, .int .i64 x160001_61, .int .u64 x160002_61, .bool x160003_61] 56 (0, 0))) ∧ Aside0 (wc.heap[gb160]? = some (.cells #[.bool x161000_61, .int .i64 x161001_61, .int .u64 x161002_61, .bool x161003_61] 56 (0, 0))) ∧ Aside0 (wc.heap[gb161]? = some (.cells #[.bool false, .int .i64 0, .int .u64 0, .bool false] 56 (0, 0))) ∧ Aside0 (Below w.heap.size w wc))
     case first =>
      have H := HC62.out
      clear HC62
      by_cases c63 : x39_24 = true
      ·subst c63
       have H1 : (sum_Exact.j1 kj24 t166 t167 t168 t169 t162 t163 t164 t165) = some (r1, r2, r3, r4) := by rw [if_pos rfl] at H; exact H
       clear H
       have H := H1
       clear H1
       have H' := Aside0.mk H
       clear H
       have hnb64 := NB160_159.out
       have hnc64 := NB159_160.out
       have hnb65 := NB160_161.out
       have hnc65 := NB161_160.out
       have hcz66_0 : wc.cell? ⟨gb160, 0, none⟩ = some (.bool t166) := (blk_cell BK160.out 0).trans rfl
       have hcz66_1 : wc.cell? ⟨gb160, 1, none⟩ = some (.int .i64 t167) := (blk_cell BK160.out 1).trans rfl
       have hcz66_2 : wc.cell? ⟨gb160, 2, none⟩ = some (.int .u64 t168) := (blk_cell BK160.out 2).trans rfl
       have hcz66_3 : wc.cell? ⟨gb160, 3, none⟩ = some (.bool t169) := (blk_cell BK160.out 3).trans rfl
       have hfz66_0 := blk_frozen BK160.out 0
       have hfz66_1 := blk_frozen BK160.out 1
       have hfz66_2 := blk_frozen BK160.out 2
       have hfz66_3 := blk_frozen BK160.out 3
       have hnb67 := NB159_161.out
       have hnc67 := NB161_159.out
       have hcz68_0 : wc.cell? ⟨gb159, 0, none⟩ = some (.bool t162) := (blk_cell BK159.out 0).trans rfl
       have hcz68_1 : wc.cell? ⟨gb159, 1, none⟩ = some (.int .i64 t163) := (blk_cell BK159.out 1).trans rfl
       have hcz68_2 : wc.cell? ⟨gb159, 2, none⟩ = some (.int .u64 t164) := (blk_cell BK159.out 2).trans rfl
       have hcz68_3 : wc.cell? ⟨gb159, 3, none⟩ = some (.bool t165) := (blk_cell BK159.out 3).trans rfl
       have hfz68_0 := blk_frozen BK159.out 0
       have hfz68_1 := blk_frozen BK159.out 1
       have hfz68_2 := blk_frozen BK159.out 2
       have hfz68_3 := blk_frozen BK159.out 3
       go_wp2
       go_meet
       case rel => exact ⟨_, (t166), (t167), (t168), (t169), (t162), (t163), (t164), (t165), H', ⟨by have := HJ24.out; first | omega | exact Nat.le_refl _⟩, ⟨by (with_reducible repeat first | apply bd | apply be | apply ba); refine blk_far ?_ NB159_160.out _; (with_reducible repeat first | apply bd | apply be | apply ba); refine blk_far ?_ NB159_160.out _; (with_reducible repeat first | apply bd | apply be | apply ba); refine blk_far ?_ NB159_160.out _; (with_reducible repeat first | apply bd | apply be | apply ba); refine blk_far ?_ NB159_160.out _; (with_reducible repeat first | apply bd | apply be | apply ba); refine blk_put (cs := #[.bool t166, .int .i64 t167, .int .u64 t168, .bool t165]) ?_ 3 _ rfl; (with_reducible repeat first | apply bd | apply be | apply ba); refine blk_put (cs := #[.bool t166, .int .i64 t167, .int .u64 t164, .bool t165]) ?_ 2 _ rfl; (with_reducible repeat first | apply bd | apply be | apply ba); refine blk_put (cs := #[.bool t166, .int .i64 t163, .int .u64 t164, .bool t165]) ?_ 1 _ rfl; (with_reducible repeat first | apply bd | apply be | apply ba); refine blk_put (cs := #[.bool t162, .int .i64 t163, .int .u64 t164, .bool t165]) ?_ 0 _ rfl; (with_reducible repeat first | apply bd | apply be | apply ba); exact BK159.out⟩, ⟨by (with_reducible repeat first | apply bd | apply be | apply ba); refine blk_put (cs := #[.bool t162, .int .i64 t163, .int .u64 t164, .bool t169]) ?_ 3 _ rfl; (with_reducible repeat first | apply bd | apply be | apply ba); refine blk_put (cs := #[.bool t162, .int .i64 t163, .int .u64 t168, .bool t169]) ?_ 2 _ rfl; (with_reducible repeat first | apply bd | apply be | apply ba); refine blk_put (cs := #[.bool t162, .int .i64 t167, .int .u64 t168, .bool t169]) ?_ 1 _ rfl; (with_reducible repeat first | apply bd | apply be | apply ba); refine blk_put (cs := #[.bool t166, .int .i64 t167, .int .u64 t168, .bool t169]) ?_ 0 _ rfl; (with_reducible repeat first | apply bd | apply be | apply ba); refine blk_far ?_ NB160_159.out _; (with_reducible repeat first | apply bd | apply be | apply ba); refine blk_far ?_ NB160_159.out _; (with_reducible repeat first | apply bd | apply be | apply ba); refine blk_far ?_ NB160_159.out _; (with_reducible repeat first | apply bd | apply be | apply ba); refine blk_far ?_ NB160_159.out _; (with_reducible repeat first | apply bd | apply be | apply ba); exact BK160.out⟩, ⟨by (with_reducible repeat first | apply bd | apply be | apply ba); refine blk_far ?_ NB161_160.out _; (with_reducible repeat first | apply bd | apply be | apply ba); refine blk_far ?_ NB161_160.out _; (with_reducible repeat first | apply bd | apply be | apply ba); refine blk_far ?_ NB161_160.out _; (with_reducible repeat first | apply bd | apply be | apply ba); refine blk_far ?_ NB161_160.out _; (with_reducible repeat first | apply bd | apply be | apply ba); refine blk_far ?_ NB161_159.out _; (with_reducible repeat first | apply bd | apply be | apply ba); refine blk_far ?_ NB161_159.out _; (with_reducible repeat first | apply bd | apply be | apply ba); refine blk_far ?_ NB161_159.out _; (with_reducible repeat first | apply bd | apply be | apply ba); refine blk_far ?_ NB161_159.out _; (with_reducible repeat first | apply bd | apply be | apply ba); exact BK161.out⟩, ⟨bl3 HB.out GE159.out GE160.out GE161.out⟩⟩
      ·replace c63 := Bool.eq_false_iff.mpr c63
       subst c63
       have H1 : (sum_Exact.j1 kj24 t162 t163 t164 t165 t166 t167 t168 t169) = some (r1, r2, r3, r4) := by rw [if_neg (show ¬ (false = true) by decide)] at H; exact H
       clear H
       have H := H1
       clear H1
       have H' := Aside0.mk H
       clear H
       go_wp2
       go_meet
       case rel => exact ⟨_, (t162), (t163), (t164), (t165), (t166), (t167), (t168), (t169), H', ⟨by have := HJ24.out; first | omega | exact Nat.le_refl _⟩, ⟨by (with_reducible repeat first | apply bd | apply be | apply ba); exact BK159.out⟩, ⟨by (with_reducible repeat first | apply bd | apply be | apply ba); exact BK160.out⟩, ⟨by (with_reducible repeat first | apply bd | apply be | apply ba); exact BK161.out⟩, ⟨bl3 HB.out GE159.out GE160.out GE161.out⟩⟩
     case rest =>
      clear HC62
      try clear c1 c2 p2 c3 c3b0 c3b1 c4 c5 c6 p6 c7 c8 c10 c13 c13b0 c13b1 c17 c18 c20 c29 c30 c32 c36 c45 c45b0 c46 c47 c49 c51 c51b0 c51b1 c52 c53 c55 c57 c58 c60 c63 c64 p64 c65 c67 hcz11_0 hcz11_1 hcz11_2 hcz11_3 hcz12_0 hcz12_1 hcz12_2 hcz12_3 hcz19_0 hcz19_1 hcz19_2 hcz19_3 hcz21_0 hcz21_1 hcz21_2 hcz21_3 hcz22_0 hcz22_1 hcz22_2 hcz22_3 hcz31_0 hcz31_1 hcz31_2 hcz31_3 hcz33_0 hcz33_1 hcz33_2 hcz33_3 hcz48_0 hcz48_1 hcz48_2 hcz48_3 hcz50_0 hcz50_1 hcz50_2 hcz50_3 hcz54_0 hcz54_1 hcz54_2 hcz54_3 hcz56_0 hcz56_1 hcz56_2 hcz56_3 hcz59_0 hcz59_1 hcz59_2 hcz59_3 hcz61_0 hcz61_1 hcz61_2 hcz61_3 hcz66_0 hcz66_1 hcz66_2 hcz66_3 hcz68_0 hcz68_1 hcz68_2 hcz68_3 hcz9_0 hcz9_1 hcz9_2 hcz9_3 hfz11_0 hfz11_1 hfz11_2 hfz11_3 hfz12_0 hfz12_1 hfz12_2 hfz12_3 hfz19_0 hfz19_1 hfz19_2 hfz19_3 hfz21_0 hfz21_1 hfz21_2 hfz21_3 hfz22_0 hfz22_1 hfz22_2 hfz22_3 hfz31_0 hfz31_1 hfz31_2 hfz31_3 hfz33_0 hfz33_1 hfz33_2 hfz33_3 hfz48_0 hfz48_1 hfz48_2 hfz48_3 hfz50_0 hfz50_1 hfz50_2 hfz50_3 hfz54_0 hfz54_1 hfz54_2 hfz54_3 hfz56_0 hfz56_1 hfz56_2 hfz56_3 hfz59_0 hfz59_1 hfz59_2 hfz59_3 hfz61_0 hfz61_1 hfz61_2 hfz61_3 hfz66_0 hfz66_1 hfz66_2 hfz66_3 hfz68_0 hfz68_1 hfz68_2 hfz68_3 hfz9_0 hfz9_1 hfz9_2 hfz9_3 p2 p6
      obtain ⟨kq, x160000_61, x160001_61, x160002_61, x160003_61, x161000_61, x161001_61, x161002_61, x161003_61, HA, HJ61, BK159, BK160, BK161, HB⟩ := hcut
      cases kq with
      |zero => exact absurd HA.out (by simp [sum_Exact.j1])
      |succ kj61 =>
       have H := HA.out
       clear HA
       simp only [sum_Exact.j1] at H
       replace H := Option.bind_eq_some_iff.mp H
       obtain ⟨⟨t170, t171⟩, A690, H⟩ := H
       replace H : (if (x160000_61 == x161000_61) = true then (some (x160000_61, x160001_61, IntKind.u64.wrap (x160002_61 + t170), t171)) else (if t171 = true then (sum_Exact.j2 kj61 x160000_61 x160001_61 (IntKind.u64.wrap ((IntKind.u64.wrap (x160002_61 - t170)) - 1)) t171) else (sum_Exact.j2 kj61 x160000_61 x160001_61 (IntKind.u64.wrap (x160002_61 - t170)) t171))) = some (r1, r2, r3, r4) := H
       have A69 := Aside0.mk A690
       clear A690
       by_cases c70 : (x160000_61 == x161000_61) = true
       ·rw [if_pos c70] at H
        have c70b0 : (x160000_61 == x161000_61) = true := c70
        (try (have c70b1 : decide (x160000_61 = x161000_61) = true := by simpa using c70))
        (try (have c70b2 : (x160000_61 == x161000_61) = true := by simpa using c70))
        clear c70
        simp only [Option.some.injEq, Prod.mk.injEq] at H
        obtain ⟨rfl, rfl, rfl, rfl⟩ := H
        have hnb71 := NB160_159.out
        have hnc71 := NB159_160.out
        have hnb72 := NB160_161.out
        have hnc72 := NB161_160.out
        have hcz73_0 : wc.cell? ⟨gb160, 0, none⟩ = some (.bool x161000_61) := (blk_cell BK160.out 0).trans rfl
        have hcz73_1 : wc.cell? ⟨gb160, 1, none⟩ = some (.int .i64 x161001_61) := (blk_cell BK160.out 1).trans rfl
        have hcz73_2 : wc.cell? ⟨gb160, 2, none⟩ = some (.int .u64 x161002_61) := (blk_cell BK160.out 2).trans rfl
        have hcz73_3 : wc.cell? ⟨gb160, 3, none⟩ = some (.bool x161003_61) := (blk_cell BK160.out 3).trans rfl
        have hfz73_0 := blk_frozen BK160.out 0
        have hfz73_1 := blk_frozen BK160.out 1
        have hfz73_2 := blk_frozen BK160.out 2
        have hfz73_3 := blk_frozen BK160.out 3
        have hnb74 := NB159_161.out
        have hnc74 := NB161_159.out
        have hcz75_0 : wc.cell? ⟨gb159, 0, none⟩ = some (.bool x160000_61) := (blk_cell BK159.out 0).trans rfl
        have hcz75_1 : wc.cell? ⟨gb159, 1, none⟩ = some (.int .i64 x160001_61) := (blk_cell BK159.out 1).trans rfl
        have hcz75_2 : wc.cell? ⟨gb159, 2, none⟩ = some (.int .u64 x160002_61) := (blk_cell BK159.out 2).trans rfl
        have hcz75_3 : wc.cell? ⟨gb159, 3, none⟩ = some (.bool x160003_61) := (blk_cell BK159.out 3).trans rfl
        have hfz75_0 := blk_frozen BK159.out 0
        have hfz75_1 := blk_frozen BK159.out 1
        have hfz75_2 := blk_frozen BK159.out 2
        have hfz75_3 := blk_frozen BK159.out 3
        go_wp2_with (first | ((with_reducible refine gate_callee (f := 59) rfl ?_); refine goesL_ (some 50) rfl rfl Try.func59 (by kernel_rfl) rfl #[.int .u64 x161002_61, .int .i64 (wrap64 (x160001_61 - x161001_61))] rfl gl ?_; (with_reducible refine (bits_Shift.calls kj61 x161002_61 (wrap64 (x160001_61 - x161001_61)) t170 t171 _ A69.out).mono ?_); rintro e w' ⟨rfl, ⟨nd, rfl⟩⟩; refine ⟨_, rfl, ?_⟩; (try (rw [drewN_self wc]; generalize hq_ : World.drewN wc _ = wc; have n0_ : Aside0 (wc.heap[gb159]? = some (.cells #[.bool x160000_61, .int .i64 x160001_61, .int .u64 x160002_61, .bool x160003_61] 56 (0, 0))) := ⟨by rw [← hq_]; exact (bv BK159.out)⟩; have n1_ : Aside0 (wc.heap[gb160]? = some (.cells #[.bool x161000_61, .int .i64 x161001_61, .int .u64 x161002_61, .bool x161003_61] 56 (0, 0))) := ⟨by rw [← hq_]; exact (bv BK160.out)⟩; have n2_ : Aside0 (wc.heap[gb161]? = some (.cells #[.bool false, .int .i64 0, .int .u64 0, .bool false] 56 (0, 0))) := ⟨by rw [← hq_]; exact (bv BK161.out)⟩; have n3_ : Aside0 (Below w.heap.size w wc) := ⟨by rw [← hq_]; exact (bl3 HB.out GE159.out GE160.out GE161.out)⟩; clear BK159 BK160 BK161 HB hq_; have BK159 := n0_; have BK160 := n1_; have BK161 := n2_; have HB := n3_; clear n0_ n1_ n2_ n3_)); obtain ⟨hcz76_0, hcz76_1, hcz76_2, hcz76_3⟩ := bc4 BK159.out; obtain ⟨hfz76_0, hfz76_1, hfz76_2, hfz76_3⟩ := bf4 BK159.out; obtain ⟨hcz77_0, hcz77_1, hcz77_2, hcz77_3⟩ := bc4 BK160.out; obtain ⟨hfz77_0, hfz77_1, hfz77_2, hfz77_3⟩ := bf4 BK160.out; obtain ⟨hcz78_0, hcz78_1, hcz78_2, hcz78_3⟩ := bc4 BK161.out; obtain ⟨hfz78_0, hfz78_1, hfz78_2, hfz78_3⟩ := bf4 BK161.out))
        refine bodyPost_ret (results_cell_row rfl _ _ gb161 56 #[.bool x160000_61, .int .i64 x160001_61, .int .u64 (IntKind.u64.wrap (x160002_61 + t170)), .bool t171] (0, 0) _ rfl (by (with_reducible repeat first | apply bd | apply be | apply ba); refine blk_put (cs := #[.bool x160000_61, .int .i64 x160001_61, .int .u64 (IntKind.u64.wrap (x160002_61 + t170)), .bool false]) ?_ 3 _ rfl; (with_reducible repeat first | apply bd | apply be | apply ba); refine blk_put (cs := #[.bool x160000_61, .int .i64 x160001_61, .int .u64 0, .bool false]) ?_ 2 _ rfl; (with_reducible repeat first | apply bd | apply be | apply ba); refine blk_put (cs := #[.bool x160000_61, .int .i64 0, .int .u64 0, .bool false]) ?_ 1 _ rfl; (with_reducible repeat first | apply bd | apply be | apply ba); refine blk_put (cs := #[.bool false, .int .i64 0, .int .u64 0, .bool false]) ?_ 0 _ rfl; (with_reducible repeat first | apply bd | apply be | apply ba); refine blk_far ?_ NB161_159.out _; (with_reducible repeat first | apply bd | apply be | apply ba); refine blk_far ?_ NB161_159.out _; (with_reducible repeat first | apply bd | apply be | apply ba); exact BK161.out) Try.underlying56 rfl (by kernel_rfl)) rfl ?_
        exact ⟨by first | rfl | (simp [errW_none, errW_some] <;> rfl) | (simp [*, errW_none, errW_some] <;> rfl), bl3 HB.out GE159.out GE160.out GE161.out⟩
       ·rw [if_neg c70] at H
        have c70b0 : (x160000_61 == x161000_61) = false := by simpa using c70
        (try (have c70b1 : decide (x160000_61 = x161000_61) = false := by simpa using c70))
        (try (have c70b2 : (x160000_61 == x161000_61) = false := by simpa using c70))
        (try (have c70b3 : ¬ (x160000_61 = x161000_61) := by simpa using c70))
        clear c70
        have HC79 := Aside0.mk H
        clear H
        have hnb80 := NB160_159.out
        have hnc80 := NB159_160.out
        have hnb81 := NB160_161.out
        have hnc81 := NB161_160.out
        have hcz82_0 : wc.cell? ⟨gb160, 0, none⟩ = some (.bool x161000_61) := (blk_cell BK160.out 0).trans rfl
        have hcz82_1 : wc.cell? ⟨gb160, 1, none⟩ = some (.int .i64 x161001_61) := (blk_cell BK160.out 1).trans rfl
        have hcz82_2 : wc.cell? ⟨gb160, 2, none⟩ = some (.int .u64 x161002_61) := (blk_cell BK160.out 2).trans rfl
        have hcz82_3 : wc.cell? ⟨gb160, 3, none⟩ = some (.bool x161003_61) := (blk_cell BK160.out 3).trans rfl
        have hfz82_0 := blk_frozen BK160.out 0
        have hfz82_1 := blk_frozen BK160.out 1
        have hfz82_2 := blk_frozen BK160.out 2
        have hfz82_3 := blk_frozen BK160.out 3
        have hnb83 := NB159_161.out
        have hnc83 := NB161_159.out
        have hcz84_0 : wc.cell? ⟨gb159, 0, none⟩ = some (.bool x160000_61) := (blk_cell BK159.out 0).trans rfl
        have hcz84_1 : wc.cell? ⟨gb159, 1, none⟩ = some (.int .i64 x160001_61) := (blk_cell BK159.out 1).trans rfl
        have hcz84_2 : wc.cell? ⟨gb159, 2, none⟩ = some (.int .u64 x160002_61) := (blk_cell BK159.out 2).trans rfl
        have hcz84_3 : wc.cell? ⟨gb159, 3, none⟩ = some (.bool x160003_61) := (blk_cell BK159.out 3).trans rfl
        have hfz84_0 := blk_frozen BK159.out 0
        have hfz84_1 := blk_frozen BK159.out 1
        have hfz84_2 := blk_frozen BK159.out 2
        have hfz84_3 := blk_frozen BK159.out 3
        go_upto_if 71 with (first | ((with_reducible refine gate_callee (f := 59) rfl ?_); refine goesL_ (some 50) rfl rfl Try.func59 (by kernel_rfl) rfl #[.int .u64 x161002_61, .int .i64 (wrap64 (x160001_61 - x161001_61))] rfl gl ?_; (with_reducible refine (bits_Shift.calls kj61 x161002_61 (wrap64 (x160001_61 - x161001_61)) t170 t171 _ A69.out).mono ?_); rintro e w' ⟨rfl, ⟨nd, rfl⟩⟩; refine ⟨_, rfl, ?_⟩; (try (rw [drewN_self wc]; generalize hq_ : World.drewN wc _ = wc; have n0_ : Aside0 (wc.heap[gb159]? = some (.cells #[.bool x160000_61, .int .i64 x160001_61, .int .u64 x160002_61, .bool x160003_61] 56 (0, 0))) := ⟨by rw [← hq_]; exact (bv BK159.out)⟩; have n1_ : Aside0 (wc.heap[gb160]? = some (.cells #[.bool x161000_61, .int .i64 x161001_61, .int .u64 x161002_61, .bool x161003_61] 56 (0, 0))) := ⟨by rw [← hq_]; exact (bv BK160.out)⟩; have n2_ : Aside0 (wc.heap[gb161]? = some (.cells #[.bool false, .int .i64 0, .int .u64 0, .bool false] 56 (0, 0))) := ⟨by rw [← hq_]; exact (bv BK161.out)⟩; have n3_ : Aside0 (Below w.heap.size w wc) := ⟨by rw [← hq_]; exact (bl3 HB.out GE159.out GE160.out GE161.out)⟩; clear BK159 BK160 BK161 HB hq_; have BK159 := n0_; have BK160 := n1_; have BK161 := n2_; have HB := n3_; clear n0_ n1_ n2_ n3_)); obtain ⟨hcz85_0, hcz85_1, hcz85_2, hcz85_3⟩ := bc4 BK159.out; obtain ⟨hfz85_0, hfz85_1, hfz85_2, hfz85_3⟩ := bf4 BK159.out; obtain ⟨hcz86_0, hcz86_1, hcz86_2, hcz86_3⟩ := bc4 BK160.out; obtain ⟨hfz86_0, hfz86_1, hfz86_2, hfz86_3⟩ := bf4 BK160.out))
        (try simp only [Act.put, sb, sz, ss])
        go_cut [] (fun wc => ∃ (kq : Nat) (x160002_78 : Int), Aside0 (sum_Exact.j2 kq x160000_61 x160001_61 x160002_78 t171 = some (r1, r2, r3, r4)) ∧ Aside0 (kq ≤ kj61) ∧ Aside0 (wc.heap[gb159]? = some (.cells #[.bool x160000_61, .int .i64 x160001_61, .int .u64 x160002_78, .bool t171] 56 (0, 0))) ∧ Aside0 (wc.heap[gb160]? = some (.cells #[.bool x161000_61, .int .i64 x161001_61, .int .u64 x161002_61, .bool x161003_61] 56 (0, 0))) ∧ Aside0 (wc.heap[gb161]? = some (.cells #[.bool false, .int .i64 0, .int .u64 0, .bool false] 56 (0, 0))) ∧ Aside0 (Below w.heap.size w wc))
        case first =>
         have H := HC79.out
         clear HC79
         by_cases c87 : t171 = true
         ·subst c87
          have H1 : (sum_Exact.j2 kj61 x160000_61 x160001_61 (IntKind.u64.wrap ((IntKind.u64.wrap (x160002_61 - t170)) - 1)) true) = some (r1, r2, r3, r4) := by rw [if_pos rfl] at H; exact H
          clear H
          have H := H1
          clear H1
          have H' := Aside0.mk H
          clear H
          have hnb88 := NB159_160.out
          have hnc88 := NB160_159.out
          have hnb89 := NB159_161.out
          have hnc89 := NB161_159.out
          have hcz90_0 : wc.cell? ⟨gb159, 0, none⟩ = some (.bool x160000_61) := (blk_cell BK159.out 0).trans rfl
          have hcz90_1 : wc.cell? ⟨gb159, 1, none⟩ = some (.int .i64 x160001_61) := (blk_cell BK159.out 1).trans rfl
          have hcz90_2 : wc.cell? ⟨gb159, 2, none⟩ = some (.int .u64 x160002_61) := (blk_cell BK159.out 2).trans rfl
          have hcz90_3 : wc.cell? ⟨gb159, 3, none⟩ = some (.bool x160003_61) := (blk_cell BK159.out 3).trans rfl
          have hfz90_0 := blk_frozen BK159.out 0
          have hfz90_1 := blk_frozen BK159.out 1
          have hfz90_2 := blk_frozen BK159.out 2
          have hfz90_3 := blk_frozen BK159.out 3
          go_wp2
          go_meet
          case rel => exact ⟨_, (IntKind.u64.wrap ((IntKind.u64.wrap (x160002_61 - t170)) - 1)), H', ⟨by have := HJ24.out; have := HJ61.out; first | omega | exact Nat.le_refl _⟩, ⟨by (with_reducible repeat first | apply bd | apply be | apply ba); refine blk_put (cs := #[.bool x160000_61, .int .i64 x160001_61, .int .u64 (IntKind.u64.wrap (x160002_61 - t170)), .bool true]) ?_ 2 _ rfl; (with_reducible repeat first | apply bd | apply be | apply ba); refine blk_put (cs := #[.bool x160000_61, .int .i64 x160001_61, .int .u64 x160002_61, .bool true]) ?_ 2 _ rfl; (with_reducible repeat first | apply bd | apply be | apply ba); refine blk_put (cs := #[.bool x160000_61, .int .i64 x160001_61, .int .u64 x160002_61, .bool x160003_61]) ?_ 3 _ rfl; (with_reducible repeat first | apply bd | apply be | apply ba); exact BK159.out⟩, ⟨by (with_reducible repeat first | apply bd | apply be | apply ba); refine blk_far ?_ NB160_159.out _; (with_reducible repeat first | apply bd | apply be | apply ba); refine blk_far ?_ NB160_159.out _; (with_reducible repeat first | apply bd | apply be | apply ba); refine blk_far ?_ NB160_159.out _; (with_reducible repeat first | apply bd | apply be | apply ba); exact BK160.out⟩, ⟨by (with_reducible repeat first | apply bd | apply be | apply ba); refine blk_far ?_ NB161_159.out _; (with_reducible repeat first | apply bd | apply be | apply ba); refine blk_far ?_ NB161_159.out _; (with_reducible repeat first | apply bd | apply be | apply ba); refine blk_far ?_ NB161_159.out _; (with_reducible repeat first | apply bd | apply be | apply ba); exact BK161.out⟩, ⟨bl3 HB.out GE159.out GE160.out GE161.out⟩⟩
         ·replace c87 := Bool.eq_false_iff.mpr c87
          subst c87
          have H1 : (sum_Exact.j2 kj61 x160000_61 x160001_61 (IntKind.u64.wrap (x160002_61 - t170)) false) = some (r1, r2, r3, r4) := by rw [if_neg (show ¬ (false = true) by decide)] at H; exact H
          clear H
          have H := H1
          clear H1
          have H' := Aside0.mk H
          clear H
          go_wp2
          go_meet
          case rel => exact ⟨_, (IntKind.u64.wrap (x160002_61 - t170)), H', ⟨by have := HJ24.out; have := HJ61.out; first | omega | exact Nat.le_refl _⟩, ⟨by (with_reducible repeat first | apply bd | apply be | apply ba); refine blk_put (cs := #[.bool x160000_61, .int .i64 x160001_61, .int .u64 x160002_61, .bool false]) ?_ 2 _ rfl; (with_reducible repeat first | apply bd | apply be | apply ba); refine blk_put (cs := #[.bool x160000_61, .int .i64 x160001_61, .int .u64 x160002_61, .bool x160003_61]) ?_ 3 _ rfl; (with_reducible repeat first | apply bd | apply be | apply ba); exact BK159.out⟩, ⟨by (with_reducible repeat first | apply bd | apply be | apply ba); refine blk_far ?_ NB160_159.out _; (with_reducible repeat first | apply bd | apply be | apply ba); refine blk_far ?_ NB160_159.out _; (with_reducible repeat first | apply bd | apply be | apply ba); exact BK160.out⟩, ⟨by (with_reducible repeat first | apply bd | apply be | apply ba); refine blk_far ?_ NB161_159.out _; (with_reducible repeat first | apply bd | apply be | apply ba); refine blk_far ?_ NB161_159.out _; (with_reducible repeat first | apply bd | apply be | apply ba); exact BK161.out⟩, ⟨bl3 HB.out GE159.out GE160.out GE161.out⟩⟩
        case rest =>
         clear HC79
         try clear c1 c2 p2 c3 c3b0 c3b1 c4 c5 c6 p6 c7 c8 c10 c13 c13b0 c13b1 c17 c18 c20 c29 c30 c32 c36 c45 c45b0 c46 c47 c49 c51 c51b0 c51b1 c52 c53 c55 c57 c58 c59 c60 c63 c64 p64 c65 c67 c70 c70b0 c70b1 c70b2 c71 c72 c74 c80 c81 c83 c87 c88 c89 hcz11_0 hcz11_1 hcz11_2 hcz11_3 hcz12_0 hcz12_1 hcz12_2 hcz12_3 hcz19_0 hcz19_1 hcz19_2 hcz19_3 hcz21_0 hcz21_1 hcz21_2 hcz21_3 hcz22_0 hcz22_1 hcz22_2 hcz22_3 hcz31_0 hcz31_1 hcz31_2 hcz31_3 hcz33_0 hcz33_1 hcz33_2 hcz33_3 hcz48_0 hcz48_1 hcz48_2 hcz48_3 hcz50_0 hcz50_1 hcz50_2 hcz50_3 hcz54_0 hcz54_1 hcz54_2 hcz54_3 hcz56_0 hcz56_1 hcz56_2 hcz56_3 hcz59_0 hcz59_1 hcz59_2 hcz59_3 hcz61_0 hcz61_1 hcz61_2 hcz61_3 hcz66_0 hcz66_1 hcz66_2 hcz66_3 hcz68_0 hcz68_1 hcz68_2 hcz68_3 hcz73_0 hcz73_1 hcz73_2 hcz73_3 hcz75_0 hcz75_1 hcz75_2 hcz75_3 hcz76_0 hcz76_1 hcz76_2 hcz76_3 hcz77_0 hcz77_1 hcz77_2 hcz77_3 hcz78_0 hcz78_1 hcz78_2 hcz78_3 hcz82_0 hcz82_1 hcz82_2 hcz82_3 hcz84_0 hcz84_1 hcz84_2 hcz84_3 hcz85_0 hcz85_1 hcz85_2 hcz85_3 hcz86_0 hcz86_1 hcz86_2 hcz86_3 hcz90_0 hcz90_1 hcz90_2 hcz90_3 hcz9_0 hcz9_1 hcz9_2 hcz9_3 hfz11_0 hfz11_1 hfz11_2 hfz11_3 hfz12_0 hfz12_1 hfz12_2 hfz12_3 hfz19_0 hfz19_1 hfz19_2 hfz19_3 hfz21_0 hfz21_1 hfz21_2 hfz21_3 hfz22_0 hfz22_1 hfz22_2 hfz22_3 hfz31_0 hfz31_1 hfz31_2 hfz31_3 hfz33_0 hfz33_1 hfz33_2 hfz33_3 hfz48_0 hfz48_1 hfz48_2 hfz48_3 hfz50_0 hfz50_1 hfz50_2 hfz50_3 hfz54_0 hfz54_1 hfz54_2 hfz54_3 hfz56_0 hfz56_1 hfz56_2 hfz56_3 hfz59_0 hfz59_1 hfz59_2 hfz59_3 hfz61_0 hfz61_1 hfz61_2 hfz61_3 hfz66_0 hfz66_1 hfz66_2 hfz66_3 hfz68_0 hfz68_1 hfz68_2 hfz68_3 hfz73_0 hfz73_1 hfz73_2 hfz73_3 hfz75_0 hfz75_1 hfz75_2 hfz75_3 hfz76_0 hfz76_1 hfz76_2 hfz76_3 hfz77_0 hfz77_1 hfz77_2 hfz77_3 hfz78_0 hfz78_1 hfz78_2 hfz78_3 hfz82_0 hfz82_1 hfz82_2 hfz82_3 hfz84_0 hfz84_1 hfz84_2 hfz84_3 hfz85_0 hfz85_1 hfz85_2 hfz85_3 hfz86_0 hfz86_1 hfz86_2 hfz86_3 hfz90_0 hfz90_1 hfz90_2 hfz90_3 hfz9_0 hfz9_1 hfz9_2 hfz9_3 p2 p6 p64
         obtain ⟨kq, x160002_78, HA, HJ78, BK159, BK160, BK161, HB⟩ := hcut
         cases kq with
         |zero => exact absurd HA.out (by simp [sum_Exact.j2])
         |succ kj78 =>
          have H := HA.out
          clear HA
          simp only [sum_Exact.j2] at H
          simp only [Option.some.injEq, Prod.mk.injEq] at H
          obtain ⟨rfl, rfl, rfl, rfl⟩ := H
          have hnb91 := NB159_160.out
          have hnc91 := NB160_159.out
          have hnb92 := NB159_161.out
          have hnc92 := NB161_159.out
          have hcz93_0 : wc.cell? ⟨gb159, 0, none⟩ = some (.bool x160000_61) := (blk_cell BK159.out 0).trans rfl
          have hcz93_1 : wc.cell? ⟨gb159, 1, none⟩ = some (.int .i64 x160001_61) := (blk_cell BK159.out 1).trans rfl
          have hcz93_2 : wc.cell? ⟨gb159, 2, none⟩ = some (.int .u64 x160002_78) := (blk_cell BK159.out 2).trans rfl
          have hcz93_3 : wc.cell? ⟨gb159, 3, none⟩ = some (.bool t171) := (blk_cell BK159.out 3).trans rfl
          have hfz93_0 := blk_frozen BK159.out 0
          have hfz93_1 := blk_frozen BK159.out 1
          have hfz93_2 := blk_frozen BK159.out 2
          have hfz93_3 := blk_frozen BK159.out 3
          have hnb94 := NB161_160.out
          have hnc94 := NB160_161.out
          have hcz95_0 : wc.cell? ⟨gb161, 0, none⟩ = some (.bool false) := (blk_cell BK161.out 0).trans rfl
          have hcz95_1 : wc.cell? ⟨gb161, 1, none⟩ = some (.int .i64 0) := (blk_cell BK161.out 1).trans rfl
          have hcz95_2 : wc.cell? ⟨gb161, 2, none⟩ = some (.int .u64 0) := (blk_cell BK161.out 2).trans rfl
          have hcz95_3 : wc.cell? ⟨gb161, 3, none⟩ = some (.bool false) := (blk_cell BK161.out 3).trans rfl
          have hfz95_0 := blk_frozen BK161.out 0
          have hfz95_1 := blk_frozen BK161.out 1
          have hfz95_2 := blk_frozen BK161.out 2
          have hfz95_3 := blk_frozen BK161.out 3
          go_wp2
          refine bodyPost_ret (results_cell_row rfl _ _ gb161 56 #[.bool x160000_61, .int .i64 x160001_61, .int .u64 x160002_78, .bool t171] (0, 0) _ rfl (by (with_reducible repeat first | apply bd | apply be | apply ba); refine blk_put (cs := #[.bool x160000_61, .int .i64 x160001_61, .int .u64 x160002_78, .bool false]) ?_ 3 _ rfl; (with_reducible repeat first | apply bd | apply be | apply ba); refine blk_put (cs := #[.bool x160000_61, .int .i64 x160001_61, .int .u64 0, .bool false]) ?_ 2 _ rfl; (with_reducible repeat first | apply bd | apply be | apply ba); refine blk_put (cs := #[.bool x160000_61, .int .i64 0, .int .u64 0, .bool false]) ?_ 1 _ rfl; (with_reducible repeat first | apply bd | apply be | apply ba); refine blk_put (cs := #[.bool false, .int .i64 0, .int .u64 0, .bool false]) ?_ 0 _ rfl; (with_reducible repeat first | apply bd | apply be | apply ba); exact BK161.out) Try.underlying56 rfl (by kernel_rfl)) rfl ?_
          exact ⟨by first | rfl | (simp [errW_none, errW_some] <;> rfl) | (simp [*, errW_none, errW_some] <;> rfl), bl3 HB.out GE159.out GE160.out GE161.out⟩

end Go.Proofs.Ytlkjoibpfhjhcaa.P
