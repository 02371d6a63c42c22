import Derived.Test.YtlkjoibpfhjhcaaQseZ
import Derived.Test.YtlkjoibpfhjhcaaQseM1
import Derived.Test.YtlkjoibpfhjhcaaQsePx7
import Derived.Test.YtlkjoibpfhjhcaaQseM2
import Derived.Test.YtlkjoibpfhjhcaaQsePx12
-- Printed by a program of this session's out of Lean's print of the translation; Lean checks it.
namespace Go.Proofs.Ytlkjoibpfhjhcaa.P
open Go.RowKit Go.Proofs.YtlkjoibpfhjhcaaW.PrintWords Go.Proofs.YtlkjoibpfhjhcaaW.PrintLast Go.Proofs.YtlkjoibpfhjhcaaW.PrintMore
attribute [local go_sem] max2_int min2_int max_two min_two max_three min_three max_four min_four   -- for this text's walks alone
set_option linter.unusedVariables false
set_option linter.unusedSimpArgs false

/-! ### sum_Add: function 12 -/
mutual
def sum_Add.j0 : Nat → Int → Int → Int → Int → Bool → Bool → Bool → Option (Int × Bool × Bool × Bool × Bool × Bool)
 |0, _, _, _, _, _, _, _ => none
 |k + 1, x0, x1, x2, x3, x13, x14, x39 => if x39 = true then ((format_Neg.f x0 x2).bind fun t236 => ((format_Neg.f x0 x3).bind fun t237 => ((sum_Infinite.f k x0 t236 t237 x13 x14).bind fun bt238 => (some (bt238.1, bt238.2.1, bt238.2.2.1, bt238.2.2.2.1, bt238.2.2.2.2.1, bt238.2.2.2.2.2))))) else ((sum_Of.f x0 x2).bind fun bt244 => ((sum_Of.f x0 x3).bind fun bt248 => ((sum_Exact.f k bt244.1 bt244.2.1 bt244.2.2.1 bt244.2.2.2 bt248.1 bt248.2.1 bt248.2.2.1 bt248.2.2.2).bind fun bt254 => (if bt254.2.2.1 = 0 then (sum_Add.j1 k x0 x1 (!bt254.2.2.2) bt244.1 bt244.2.1 bt244.2.2.1 bt244.2.2.2 bt248.1 bt248.2.1 bt248.2.2.1 bt248.2.2.2 bt254.1 bt254.2.1 bt254.2.2.1 bt254.2.2.2) else (sum_Add.j1 k x0 x1 false bt244.1 bt244.2.1 bt244.2.2.1 bt244.2.2.2 bt248.1 bt248.2.1 bt248.2.2.1 bt248.2.2.2 bt254.1 bt254.2.1 bt254.2.2.1 bt254.2.2.2)))))
def sum_Add.j1 : Nat → Int → Int → Bool → Bool → Int → Int → Bool → Bool → Int → Int → Bool → Bool → Int → Int → Bool → Option (Int × Bool × Bool × Bool × Bool × Bool)
 |0, _, _, _, _, _, _, _, _, _, _, _, _, _, _, _ => none
 |k + 1, x0, x1, x68, x253000, x253001, x253002, x253003, x254000, x254001, x254002, x254003, x259000, x259001, x259002, x259003 => if x68 = true then ((sum_Nought.f x0 x1 x253000 x254000).bind fun t259 => (some (t259, false, false, false, false, false))) else ((round_Pack.f k x0 x1 x259000 x259001 x259002 x259003).bind fun bt260 => (some (bt260.1, bt260.2.1, bt260.2.2.1, bt260.2.2.2.1, bt260.2.2.2.2.1, bt260.2.2.2.2.2)))
end
def sum_Add.f (k : Nat) (a0 : Int) (a1 : Int) (a2 : Int) (a3 : Int) : Option (Int × Bool × Bool × Bool × Bool × Bool) := (sum_Nans.f k a0 (([a2, a3] : List Int))).bind fun bt226 => (if bt226.2.2.2.2.2.2 = true then (some (bt226.1, bt226.2.1, bt226.2.2.1, bt226.2.2.2.1, bt226.2.2.2.2.1, bt226.2.2.2.2.2.1)) else ((format_IsInf.f k a0 a2).bind fun t234 => ((format_IsInf.f k a0 a3).bind fun t235 => (if t234 = true then (sum_Add.j0 k a0 a1 a2 a3 t234 t235 true) else (sum_Add.j0 k a0 a1 a2 a3 t234 t235 t235)))))
theorem sum_Add.mono_l : ∀ k, (∀ y0 y1 y2 y3 y4 y5 y6, LeO (sum_Add.j0 k y0 y1 y2 y3 y4 y5 y6) (sum_Add.j0 (k + 1) y0 y1 y2 y3 y4 y5 y6)) ∧ (∀ y0 y1 y2 y3 y4 y5 y6 y7 y8 y9 y10 y11 y12 y13 y14, LeO (sum_Add.j1 k y0 y1 y2 y3 y4 y5 y6 y7 y8 y9 y10 y11 y12 y13 y14) (sum_Add.j1 (k + 1) y0 y1 y2 y3 y4 y5 y6 y7 y8 y9 y10 y11 y12 y13 y14))
 |0 => ⟨fun _ _ _ _ _ _ _ r h => by simp [sum_Add.j0] at h, fun _ _ _ _ _ _ _ _ _ _ _ _ _ _ _ r h => by simp [sum_Add.j1] at h⟩
 |k + 1 => by
  obtain ⟨ih0, ih1⟩ := sum_Add.mono_l k
  refine ⟨?_, ?_⟩
  ·intro y0 y1 y2 y3 y4 y5 y6
   unfold sum_Add.j0
   repeat' first
   |(with_reducible exact ih0 _ _ _ _ _ _ _)
   |(with_reducible exact ih1 _ _ _ _ _ _ _ _ _ _ _ _ _ _ _)
   |(with_reducible exact format_IsInf.mono _ _ _)
   |(with_reducible exact round_Pack.mono _ _ _ _ _ _ _)
   |(with_reducible exact sum_Exact.mono _ _ _ _ _ _ _ _ _)
   |(with_reducible exact sum_Infinite.mono _ _ _ _ _ _)
   |(with_reducible exact sum_Nans.mono _ _ _)
   |(with_reducible exact LeO.refl _)
   |(with_reducible exact LeO.none _)
   |(with_reducible refine LeO.ite ?_ ?_)
   |(with_reducible refine LeO.bind ?_ (fun _ => ?_))
   |exact ih0 _ _ _ _ _ _ _
   |exact ih1 _ _ _ _ _ _ _ _ _ _ _ _ _ _ _
   |exact format_IsInf.mono _ _ _
   |exact round_Pack.mono _ _ _ _ _ _ _
   |exact sum_Exact.mono _ _ _ _ _ _ _ _ _
   |exact sum_Infinite.mono _ _ _ _ _ _
   |exact sum_Nans.mono _ _ _
   |exact LeO.none _
   |refine LeO.ite ?_ ?_
   |refine LeO.bind ?_ (fun _ => ?_)
  ·intro y0 y1 y2 y3 y4 y5 y6 y7 y8 y9 y10 y11 y12 y13 y14
   unfold sum_Add.j1
   repeat' first
   |(with_reducible exact ih0 _ _ _ _ _ _ _)
   |(with_reducible exact ih1 _ _ _ _ _ _ _ _ _ _ _ _ _ _ _)
   |(with_reducible exact format_IsInf.mono _ _ _)
   |(with_reducible exact round_Pack.mono _ _ _ _ _ _ _)
   |(with_reducible exact sum_Exact.mono _ _ _ _ _ _ _ _ _)
   |(with_reducible exact sum_Infinite.mono _ _ _ _ _ _)
   |(with_reducible exact sum_Nans.mono _ _ _)
   |(with_reducible exact LeO.refl _)
   |(with_reducible exact LeO.none _)
   |(with_reducible refine LeO.ite ?_ ?_)
   |(with_reducible refine LeO.bind ?_ (fun _ => ?_))
   |exact ih0 _ _ _ _ _ _ _
   |exact ih1 _ _ _ _ _ _ _ _ _ _ _ _ _ _ _
   |exact format_IsInf.mono _ _ _
   |exact round_Pack.mono _ _ _ _ _ _ _
   |exact sum_Exact.mono _ _ _ _ _ _ _ _ _
   |exact sum_Infinite.mono _ _ _ _ _ _
   |exact sum_Nans.mono _ _ _
   |exact LeO.none _
   |refine LeO.ite ?_ ?_
   |refine LeO.bind ?_ (fun _ => ?_)
theorem sum_Add.mono : ∀ a0 a1 a2 a3 k, LeO (sum_Add.f k a0 a1 a2 a3) (sum_Add.f (k + 1) a0 a1 a2 a3) := by
 intro a0 a1 a2 a3 k
 obtain ⟨ih0, ih1⟩ := sum_Add.mono_l k
 unfold sum_Add.f
 repeat' first
   |(with_reducible exact ih0 _ _ _ _ _ _ _)
   |(with_reducible exact ih1 _ _ _ _ _ _ _ _ _ _ _ _ _ _ _)
   |(with_reducible exact format_IsInf.mono _ _ _)
   |(with_reducible exact round_Pack.mono _ _ _ _ _ _ _)
   |(with_reducible exact sum_Exact.mono _ _ _ _ _ _ _ _ _)
   |(with_reducible exact sum_Infinite.mono _ _ _ _ _ _)
   |(with_reducible exact sum_Nans.mono _ _ _)
   |(with_reducible exact LeO.refl _)
   |(with_reducible exact LeO.none _)
   |(with_reducible refine LeO.ite ?_ ?_)
   |(with_reducible refine LeO.bind ?_ (fun _ => ?_))
   |exact ih0 _ _ _ _ _ _ _
   |exact ih1 _ _ _ _ _ _ _ _ _ _ _ _ _ _ _
   |exact format_IsInf.mono _ _ _
   |exact round_Pack.mono _ _ _ _ _ _ _
   |exact sum_Exact.mono _ _ _ _ _ _ _ _ _
   |exact sum_Infinite.mono _ _ _ _ _ _
   |exact sum_Nans.mono _ _ _
   |exact LeO.none _
   |refine LeO.ite ?_ ?_
   |refine LeO.bind ?_ (fun _ => ?_)
set_option maxHeartbeats 8000000 in
set_option maxRecDepth 100000 in
theorem sum_Add.calls (k : Nat) (a0 : Int) (a1 : Int) (a2 : Int) (a3 : Int) (r1 : Int) (r2 : Bool) (r3 : Bool) (r4 : Bool) (r5 : Bool) (r6 : Bool) (w : World) (h : sum_Add.f k a0 a1 a2 a3 = some (r1, r2, r3, r4, r5, r6)) :
  Calls Try.prog 12 #[.int .i64 a0, .int .i64 a1, .int .u32 a2, .int .u32 a3] w fun e w' => e = .returned (.tuple #[.int .u32 r1, .agg #[.bool r2, .bool r3, .bool r4, .bool r5, .bool r6]]) ∧ Below w.heap.size w w' := by
 have hu27 := Try.underlying27
 have hu56 := Try.underlying56
 have HB := Aside0.mk (Below.refl w.heap.size w)
 have H : ((sum_Nans.f k a0 (([a2, a3] : List Int))).bind fun bt226 => (if bt226.2.2.2.2.2.2 = true then (some (bt226.1, bt226.2.1, bt226.2.2.1, bt226.2.2.2.1, bt226.2.2.2.2.1, bt226.2.2.2.2.2.1)) else ((format_IsInf.f k a0 a2).bind fun t234 => ((format_IsInf.f k a0 a3).bind fun t235 => (if t234 = true then (sum_Add.j0 k a0 a1 a2 a3 t234 t235 true) else (sum_Add.j0 k a0 a1 a2 a3 t234 t235 t235)))))) = some (r1, r2, r3, r4, r5, r6) := h
 clear h
 obtain ⟨y223, hy223⟩ : ∃ y_ : List Int, y_ = (([a2, a3] : List Int)) := ⟨_, rfl⟩
 replace H : ((sum_Nans.f k a0 y223).bind fun bt226 => (if bt226.2.2.2.2.2.2 = true then (some (bt226.1, bt226.2.1, bt226.2.2.1, bt226.2.2.2.1, bt226.2.2.2.2.1, bt226.2.2.2.2.2.1)) else ((format_IsInf.f k a0 a2).bind fun t234 => ((format_IsInf.f k a0 a3).bind fun t235 => (if t234 = true then (sum_Add.j0 k a0 a1 a2 a3 t234 t235 true) else (sum_Add.j0 k a0 a1 a2 a3 t234 t235 t235)))))) = some (r1, r2, r3, r4, r5, r6) := by first | (rw [hy223]; with_reducible exact H) | (have H2_ := (Option.bind_some _ _).symm.trans H; rw [hy223]; with_reducible exact H2_) | (have H2_ := (Option.bind_some _ _).symm.trans H; with_reducible exact H2_) | with_reducible exact H | (rw [hy223]; exact H) | exact H
 have Ny223 := Aside0.mk hy223
 clear hy223
 replace H := Option.bind_eq_some_iff.mp H
 obtain ⟨⟨t226, t227, t228, t229, t230, t231, t232⟩, A50, H⟩ := H
 replace H : (if t232 = true then (some (t226, t227, t228, t229, t230, t231)) else ((format_IsInf.f k a0 a2).bind fun t234 => ((format_IsInf.f k a0 a3).bind fun t235 => (if t234 = true then (sum_Add.j0 k a0 a1 a2 a3 t234 t235 true) else (sum_Add.j0 k a0 a1 a2 a3 t234 t235 t235))))) = some (r1, r2, r3, r4, r5, r6) := H
 have A5 := Aside0.mk A50
 clear A50
 by_cases c6 : t232 = true
 ·subst c6
  have H1 : (some (t226, t227, t228, t229, t230, t231)) = some (r1, r2, r3, r4, r5, r6) := by rw [if_pos rfl] at H; exact H
  clear H
  have H := H1
  clear H1
  simp only [Option.some.injEq, Prod.mk.injEq] at H
  obtain ⟨rfl, rfl, rfl, rfl, rfl, rfl⟩ := H
  go_enter Try.func12, Try.ntmps12
  try go_wp2_with (first | ((with_reducible refine gate_dst (N := 9) rfl ?_); refine box_event ?hg (N := 9) ?hd (cs := F5) (t := 27) ?hr ?_; (case hd => rfl); (case hg => rfl); (case hr => first | (go_simp; done) | (go_simp; rfl)); intro gb222 hg w7 hbox hb; have n0_ := Aside0.mk (below_step (bl0 HB.out) hb); have n1_ := Aside0.mk (hbox); have n2_ := Aside0.mk ((by rw [hg]; exact (below_size (bl0 HB.out)) : w.heap.size ≤ gb222)); have n3_ := n2_; clear HB; have HB := n0_; have BK222 := n1_; have GW222 := n2_; have GE222 := n3_; clear n0_ n1_ n2_ n3_; clear hb hbox hg) | ((with_reducible refine gate_dst (N := 22) rfl ?_); refine Kd.R_lit (Kd.int .u32) _ 22 ?hg (N := 22) ?hd (xs := ([a2, a3] : List Int)) (inner := [.int .u32 a2, .int .u32 a3]) (ok := fun _ => True) (okp := fun _ => True) ?hr ?hp (fun _ hk => hk) trivial (Below.refl _ _) (Nat.le_refl _) (by simp) ?_; (case hd => rfl); (case hg => rfl); (case hr => first | (go_simp; done) | (go_simp; rfl)); (case hp => exact (Reps.one (show Kd.M (Kd.int .u32) _ _ _ a2 [.int .u32 a2] from rfl) (Reps.one (show Kd.M (Kd.int .u32) _ _ _ a3 [.int .u32 a3] from rfl) (Reps.none _ _)))); intro v224 w8 ho9 hb hg_ hnew_; clear hg_ hnew_; (first | rw [← Ny223.out] at ho9 | (simp only [Int.reduceToNat] at ho9; rw [← Ny223.out] at ho9)); have n0_ := Aside0.mk (Kd.R_lower ho9 (below_size (bl1 HB.out GE222.out))); have n1_ := Aside0.mk (blk_below (g := gb222) (o := .cells #[.bool false, .bool false, .bool false, .bool false, .bool false] 27 (0, 0)) (bv BK222.out) hb); have n2_ := Aside0.mk (below_step (bl1 HB.out GE222.out) hb); clear BK222; clear HB; have HO225 := n0_; have BK222 := n1_; have HB := n2_; clear n0_ n1_ n2_; clear hb ho9; obtain ⟨Ao10, co10, eo10⟩ := Kd.R_slice HO225.out; subst eo10) | ((with_reducible refine gate_callee (f := 31) rfl ?_); refine goesL_ (some 23) rfl rfl Try.func31 (by kernel_rfl) rfl #[.int .i64 a0, .slice Ao10 y223.length co10] rfl gl ?_; (with_reducible refine (sum_Nans.calls k a0 _ _ y223 t226 t227 t228 t229 t230 t231 true _ ?side1 ?side2 A5.out).mono ?_); (case side1 => repeat (first | exact (Kd.R_reads' HO225.out).2.2 | (with_reducible refine Kd.C_alloc ?_ _) | (with_reducible refine Kd.C_drewN ?_ _) | (with_reducible refine Kd.C_drew ?_))); (case side2 => exact (Kd.R_reads' HO225.out).2.1); rintro e w11 ⟨rfl, hb⟩; refine ⟨_, rfl, ?_⟩; have n0_ := Aside0.mk (Kd.R_below (by (with_reducible repeat (first | apply Kd.R_alloc | apply Kd.R_drewN | apply Kd.R_drew)); exact HO225.out) hb); have n1_ := Aside0.mk (blk_below (g := gb222) (o := .cells #[.bool false, .bool false, .bool false, .bool false, .bool false] 27 (0, 0)) (bv BK222.out) hb); have n2_ := Aside0.mk (below_step (bl1 HB.out GE222.out) hb); clear HO225; clear BK222; clear HB; have HO225 := n0_; have BK222 := n1_; have HB := n2_; clear n0_ n1_ n2_) | ((with_reducible refine gate_dst (N := 11) rfl ?_); refine box_event ?hg (N := 11) ?hd (cs := F5) (t := 27) ?hr ?_; (case hd => rfl); (case hg => rfl); (case hr => first | (go_simp; done) | (go_simp; rfl)); intro gb233 hg w12 hbox hb; have n0_ := Aside0.mk (Kd.R_below (by (with_reducible repeat (first | apply Kd.R_alloc | apply Kd.R_drewN | apply Kd.R_drew)); exact HO225.out) hb); have n1_ := Aside0.mk (blk_below (g := gb222) (o := .cells #[.bool false, .bool false, .bool false, .bool false, .bool false] 27 (0, 0)) (bv BK222.out) hb); have n2_ := Aside0.mk (below_step (bl1 HB.out GE222.out) hb); have n3_ := Aside0.mk (hbox); have n4_ := Aside0.mk ((by rw [hg]; exact (below_size (bl1 HB.out GE222.out)) : w.heap.size ≤ gb233)); have n5_ := n4_; have n6_ := Aside0.mk ((by rw [hg]; exact Nat.ne_of_lt (blk_lt (g := gb222) (o := .cells F5 27 (0, 0)) (bv BK222.out)) : gb222 ≠ gb233)); have n7_ := Aside0.mk (Ne.symm n6_.out); clear HO225; clear BK222; clear HB; have HO225 := n0_; have BK222 := n1_; have HB := n2_; have BK233 := n3_; have GW233 := n4_; have GE233 := n5_; have NB222_233 := n6_; have NB233_222 := n7_; clear n0_ n1_ n2_ n3_ n4_ n5_ n6_ n7_; clear hb hbox hg; have hnb13 := NB233_222.out; have hnc13 := NB222_233.out; obtain ⟨hcz14_0, hcz14_1, hcz14_2, hcz14_3, hcz14_4⟩ := bc5 BK233.out; obtain ⟨hfz14_0, hfz14_1, hfz14_2, hfz14_3, hfz14_4⟩ := bf5 BK233.out))
  have n0_ : Aside0 (Kd.R (Kd.int .u32) 22 (((((w12.setCell ⟨gb233, 0, none⟩ (.bool t227)).setCell ⟨gb233, 1, none⟩ (.bool t228)).setCell ⟨gb233, 2, none⟩ (.bool t229)).setCell ⟨gb233, 3, none⟩ (.bool t230)).setCell ⟨gb233, 4, none⟩ (.bool t231)) w.heap.size (fun _ => True) (.slice Ao10 y223.length co10) y223) := ⟨by (with_reducible repeat (first | apply Kd.R_alloc | apply Kd.R_drewN | apply Kd.R_drew)); exact Kd.R_mono (Kd.R_far (p := ⟨gb233, 4, none⟩) (Kd.R_far (p := ⟨gb233, 3, none⟩) (Kd.R_far (p := ⟨gb233, 2, none⟩) (Kd.R_far (p := ⟨gb233, 1, none⟩) (Kd.R_far (p := ⟨gb233, 0, none⟩) (Kd.R_types HO225.out BK233.out (by decide)) (fun _ hk => hk.2) (.bool t227)) (fun _ hk => hk.2) (.bool t228)) (fun _ hk => hk.2) (.bool t229)) (fun _ hk => hk.2) (.bool t230)) (fun _ hk => hk.2) (.bool t231)) (fun _ hk => trivial)⟩
  have n1_ : Aside0 ((((((w12.setCell ⟨gb233, 0, none⟩ (.bool t227)).setCell ⟨gb233, 1, none⟩ (.bool t228)).setCell ⟨gb233, 2, none⟩ (.bool t229)).setCell ⟨gb233, 3, none⟩ (.bool t230)).setCell ⟨gb233, 4, none⟩ (.bool t231)).heap[gb222]? = some (.cells #[.bool false, .bool false, .bool false, .bool false, .bool false] 27 (0, 0))) := ⟨by (with_reducible repeat first | apply bd | apply be | apply ba); refine blk_far ?_ NB222_233.out _; (with_reducible repeat first | apply bd | apply be | apply ba); refine blk_far ?_ NB222_233.out _; (with_reducible repeat first | apply bd | apply be | apply ba); refine blk_far ?_ NB222_233.out _; (with_reducible repeat first | apply bd | apply be | apply ba); refine blk_far ?_ NB222_233.out _; (with_reducible repeat first | apply bd | apply be | apply ba); refine blk_far ?_ NB222_233.out _; (with_reducible repeat first | apply bd | apply be | apply ba); exact BK222.out⟩
  have n2_ : Aside0 ((((((w12.setCell ⟨gb233, 0, none⟩ (.bool t227)).setCell ⟨gb233, 1, none⟩ (.bool t228)).setCell ⟨gb233, 2, none⟩ (.bool t229)).setCell ⟨gb233, 3, none⟩ (.bool t230)).setCell ⟨gb233, 4, none⟩ (.bool t231)).heap[gb233]? = some (.cells #[.bool t227, .bool t228, .bool t229, .bool t230, .bool t231] 27 (0, 0))) := ⟨by (with_reducible repeat first | apply bd | apply be | apply ba); refine blk_put (cs := #[.bool t227, .bool t228, .bool t229, .bool t230, .bool false]) ?_ 4 _ rfl; (with_reducible repeat first | apply bd | apply be | apply ba); refine blk_put (cs := #[.bool t227, .bool t228, .bool t229, .bool false, .bool false]) ?_ 3 _ rfl; (with_reducible repeat first | apply bd | apply be | apply ba); refine blk_put (cs := #[.bool t227, .bool t228, .bool false, .bool false, .bool false]) ?_ 2 _ rfl; (with_reducible repeat first | apply bd | apply be | apply ba); refine blk_put (cs := #[.bool t227, .bool false, .bool false, .bool false, .bool false]) ?_ 1 _ rfl; (with_reducible repeat first | apply bd | apply be | apply ba); refine blk_put (cs := F5) ?_ 0 _ rfl; (with_reducible repeat first | apply bd | apply be | apply ba); exact BK233.out⟩
  have n3_ : Aside0 (Below w.heap.size w (((((w12.setCell ⟨gb233, 0, none⟩ (.bool t227)).setCell ⟨gb233, 1, none⟩ (.bool t228)).setCell ⟨gb233, 2, none⟩ (.bool t229)).setCell ⟨gb233, 3, none⟩ (.bool t230)).setCell ⟨gb233, 4, none⟩ (.bool t231))) := ⟨bl2 HB.out GE222.out GE233.out⟩
  (try clear HO225)
  (try clear BK222)
  (try clear BK233)
  (try clear HB)
  generalize (((((w12.setCell ⟨gb233, 0, none⟩ (.bool t227)).setCell ⟨gb233, 1, none⟩ (.bool t228)).setCell ⟨gb233, 2, none⟩ (.bool t229)).setCell ⟨gb233, 3, none⟩ (.bool t230)).setCell ⟨gb233, 4, none⟩ (.bool t231)) = w15 at n0_ n1_ n2_ n3_ ⊢
  have HO225 := n0_
  have BK222 := n1_
  have BK233 := n2_
  have HB := n3_
  clear n0_ n1_ n2_ n3_
  have n0_ := Aside0.mk (Kd.R_drew HO225.out)
  have n1_ := Aside0.mk (blk_drew BK222.out)
  have n2_ := Aside0.mk (blk_drew BK233.out)
  have n3_ := Aside0.mk (below_drew1 HB.out)
  clear HO225
  clear BK222
  clear BK233
  clear HB
  have HO225 := n0_
  have BK222 := n1_
  have BK233 := n2_
  have HB := n3_
  clear n0_ n1_ n2_ n3_
  refine start_ (n := 4) (S := fun w' => w'.cell? ⟨gb233, 0, none⟩ = some (.bool t227) ∧ w'.cell? ⟨gb233, 1, none⟩ = some (.bool t228) ∧ w'.cell? ⟨gb233, 2, none⟩ = some (.bool t229) ∧ w'.cell? ⟨gb233, 3, none⟩ = some (.bool t230) ∧ w'.cell? ⟨gb233, 4, none⟩ = some (.bool t231)) (ds := []) #[false, false, false, false] (by kernel_rfl) rfl rfl ⟨(blk_cell BK233.out 0).trans rfl, (blk_cell BK233.out 1).trans rfl, (blk_cell BK233.out 2).trans rfl, (blk_cell BK233.out 3).trans rfl, (blk_cell BK233.out 4).trans rfl⟩ (fun hHeld => ?_)
  generalize w15.drew = w16 at HO225 BK222 BK233 HB hHeld ⊢
  refine pure_ (i := 0) (N := some 28) (v := ?_) (a' := ?_) #[true, false, false, false] rfl rfl (by kernel_rfl) (fun _ _ _ h => h) (Or.inl ⟨by rfl, ?_⟩) ?_ ?_
  rotate_left
  ·intro w'
   go_simp
   with_reducible rfl
  rotate_left
  ·simp only [Act.put, sb, sz, ss, i64_w, i32_w]
   rfl
  refine pure_ (i := 2) (N := some 8) (v := ?_) (a' := ?_) #[true, false, true, false] rfl rfl (by kernel_rfl) (fun _ _ _ h => h) (Or.inl ⟨by rfl, ?_⟩) ?_ ?_
  rotate_left
  ·intro w'
   go_simp
   with_reducible rfl
  rotate_left
  ·simp only [Act.put, sb, sz, ss, i64_w, i32_w]
   rfl
  refine take_ (i := 1) (N := some 29) (v := ?_) (a' := ?_) #[true, true, true, false] rfl rfl (by kernel_rfl) (fun _ _ _ h => h) (Or.inl ⟨by rfl, ?_⟩) hHeld ?_ ?_
  rotate_left
  ·rintro w' ⟨s0, s1, s2, s3, s4⟩
   go_simp
   with_reducible rfl
  rotate_left
  ·simp only [Act.put, sb, sz, ss, i64_w, i32_w]
   rfl
  refine one_ (i := 3) (N := none) #[true, true, true, true] rfl rfl (by kernel_rfl) (by decide) (fun K hK => ?_)
  have hs17 : w16.cell? ⟨gb222, 0, none⟩ = some (.bool false) := (blk_cell BK222.out 0).trans rfl
  have hfs17 := blk_frozen BK222.out 0
  have hns17_1 := NB233_222.out
  have hms17_1 := NB222_233.out
  have hs18 : w16.cell? ⟨gb222, 1, none⟩ = some (.bool false) := (blk_cell BK222.out 1).trans rfl
  have hfs18 := blk_frozen BK222.out 1
  have hns18_1 := NB233_222.out
  have hms18_1 := NB222_233.out
  have hs19 : w16.cell? ⟨gb222, 2, none⟩ = some (.bool false) := (blk_cell BK222.out 2).trans rfl
  have hfs19 := blk_frozen BK222.out 2
  have hns19_1 := NB233_222.out
  have hms19_1 := NB222_233.out
  have hs20 : w16.cell? ⟨gb222, 3, none⟩ = some (.bool false) := (blk_cell BK222.out 3).trans rfl
  have hfs20 := blk_frozen BK222.out 3
  have hns20_1 := NB233_222.out
  have hms20_1 := NB222_233.out
  have hs21 : w16.cell? ⟨gb222, 4, none⟩ = some (.bool false) := (blk_cell BK222.out 4).trans rfl
  have hfs21 := blk_frozen BK222.out 4
  have hns21_1 := NB233_222.out
  have hms21_1 := NB222_233.out
  refine skip_ (w1 := ?_) (by rfl) rfl ?_ ?_
  rotate_left
  ·go_simp
   rfl
  refine hK.out _ _ ⟨(cf5 NB233_222.out (hHeld.1)), (cf5 NB233_222.out (hHeld.2.1)), (cf5 NB233_222.out (hHeld.2.2.1)), (cf5 NB233_222.out (hHeld.2.2.2.1)), (cf5 NB233_222.out (hHeld.2.2.2.2))⟩ (fun hHeld => ?_)
  clear hK K
  refine done_ (by kernel_rfl) ?_
  try go_wp2
  refine bodyPost_ret (results_tc rfl _ _ gb222 27 #[.bool t227, .bool t228, .bool t229, .bool t230, .bool t231] (0, 0) _ rfl (by (with_reducible repeat first | apply bd | apply be | apply ba); refine blk_put (cs := #[.bool t227, .bool t228, .bool t229, .bool t230, .bool false]) ?_ 4 _ rfl; (with_reducible repeat first | apply bd | apply be | apply ba); refine blk_put (cs := #[.bool t227, .bool t228, .bool t229, .bool false, .bool false]) ?_ 3 _ rfl; (with_reducible repeat first | apply bd | apply be | apply ba); refine blk_put (cs := #[.bool t227, .bool t228, .bool false, .bool false, .bool false]) ?_ 2 _ rfl; (with_reducible repeat first | apply bd | apply be | apply ba); refine blk_put (cs := #[.bool t227, .bool false, .bool false, .bool false, .bool false]) ?_ 1 _ rfl; (with_reducible repeat first | apply bd | apply be | apply ba); refine blk_put (cs := F5) ?_ 0 _ rfl; (with_reducible repeat first | apply bd | apply be | apply ba); exact BK222.out) Try.underlying27 rfl (by kernel_rfl)) rfl ?_
  exact ⟨by first | rfl | (simp [errW_none, errW_some] <;> rfl) | (simp [*, errW_none, errW_some] <;> rfl), bl2 HB.out GE222.out GE233.out⟩
 ·replace c6 := Bool.eq_false_iff.mpr c6
  subst c6
  have H1 : ((format_IsInf.f k a0 a2).bind fun t234 => ((format_IsInf.f k a0 a3).bind fun t235 => (if t234 = true then (sum_Add.j0 k a0 a1 a2 a3 t234 t235 true) else (sum_Add.j0 k a0 a1 a2 a3 t234 t235 t235)))) = some (r1, r2, r3, r4, r5, r6) := by rw [if_neg (show ¬ (false = true) by decide)] at H; exact H
  clear H
  have H := H1
  clear H1
  replace H := Option.bind_eq_some_iff.mp H
  obtain ⟨t234, A220, H⟩ := H
  replace H : ((format_IsInf.f k a0 a3).bind fun t235 => (if t234 = true then (sum_Add.j0 k a0 a1 a2 a3 t234 t235 true) else (sum_Add.j0 k a0 a1 a2 a3 t234 t235 t235))) = some (r1, r2, r3, r4, r5, r6) := H
  have A22 := Aside0.mk A220
  clear A220
  replace H := Option.bind_eq_some_iff.mp H
  obtain ⟨t235, A230, H⟩ := H
  replace H : (if t234 = true then (sum_Add.j0 k a0 a1 a2 a3 t234 t235 true) else (sum_Add.j0 k a0 a1 a2 a3 t234 t235 t235)) = some (r1, r2, r3, r4, r5, r6) := H
  have A23 := Aside0.mk A230
  clear A230
  have HC24 := Aside0.mk H
  clear H
  go_enter Try.func12, Try.ntmps12
  go_upto_region 5 with (first | ((with_reducible refine gate_dst (N := 9) rfl ?_); refine box_event ?hg (N := 9) ?hd (cs := F5) (t := 27) ?hr ?_; (case hd => rfl); (case hg => rfl); (case hr => first | (go_simp; done) | (go_simp; rfl)); intro gb222 hg w25 hbox hb; have n0_ := Aside0.mk (below_step (bl0 HB.out) hb); have n1_ := Aside0.mk (hbox); have n2_ := Aside0.mk ((by rw [hg]; exact (below_size (bl0 HB.out)) : w.heap.size ≤ gb222)); have n3_ := n2_; clear HB; have HB := n0_; have BK222 := n1_; have GW222 := n2_; have GE222 := n3_; clear n0_ n1_ n2_ n3_; clear hb hbox hg) | ((with_reducible refine gate_dst (N := 22) rfl ?_); refine Kd.R_lit (Kd.int .u32) _ 22 ?hg (N := 22) ?hd (xs := ([a2, a3] : List Int)) (inner := [.int .u32 a2, .int .u32 a3]) (ok := fun _ => True) (okp := fun _ => True) ?hr ?hp (fun _ hk => hk) trivial (Below.refl _ _) (Nat.le_refl _) (by simp) ?_; (case hd => rfl); (case hg => rfl); (case hr => first | (go_simp; done) | (go_simp; rfl)); (case hp => exact (Reps.one (show Kd.M (Kd.int .u32) _ _ _ a2 [.int .u32 a2] from rfl) (Reps.one (show Kd.M (Kd.int .u32) _ _ _ a3 [.int .u32 a3] from rfl) (Reps.none _ _)))); intro v224 w26 ho27 hb hg_ hnew_; clear hg_ hnew_; (first | rw [← Ny223.out] at ho27 | (simp only [Int.reduceToNat] at ho27; rw [← Ny223.out] at ho27)); have n0_ := Aside0.mk (Kd.R_lower ho27 (below_size (bl1 HB.out GE222.out))); have n1_ := Aside0.mk (blk_below (g := gb222) (o := .cells #[.bool false, .bool false, .bool false, .bool false, .bool false] 27 (0, 0)) (bv BK222.out) hb); have n2_ := Aside0.mk (below_step (bl1 HB.out GE222.out) hb); clear BK222; clear HB; have HO225 := n0_; have BK222 := n1_; have HB := n2_; clear n0_ n1_ n2_; clear hb ho27; obtain ⟨Ao28, co28, eo28⟩ := Kd.R_slice HO225.out; subst eo28) | ((with_reducible refine gate_callee (f := 31) rfl ?_); refine goesL_ (some 23) rfl rfl Try.func31 (by kernel_rfl) rfl #[.int .i64 a0, .slice Ao28 y223.length co28] rfl gl ?_; (with_reducible refine (sum_Nans.calls k a0 _ _ y223 t226 t227 t228 t229 t230 t231 false _ ?side1 ?side2 A5.out).mono ?_); (case side1 => repeat (first | exact (Kd.R_reads' HO225.out).2.2 | (with_reducible refine Kd.C_alloc ?_ _) | (with_reducible refine Kd.C_drewN ?_ _) | (with_reducible refine Kd.C_drew ?_))); (case side2 => exact (Kd.R_reads' HO225.out).2.1); rintro e w29 ⟨rfl, hb⟩; refine ⟨_, rfl, ?_⟩; have n0_ := Aside0.mk (Kd.R_below (by (with_reducible repeat (first | apply Kd.R_alloc | apply Kd.R_drewN | apply Kd.R_drew)); exact HO225.out) hb); have n1_ := Aside0.mk (blk_below (g := gb222) (o := .cells #[.bool false, .bool false, .bool false, .bool false, .bool false] 27 (0, 0)) (bv BK222.out) hb); have n2_ := Aside0.mk (below_step (bl1 HB.out GE222.out) hb); clear HO225; clear BK222; clear HB; have HO225 := n0_; have BK222 := n1_; have HB := n2_; clear n0_ n1_ n2_) | ((with_reducible refine gate_dst (N := 11) rfl ?_); refine box_event ?hg (N := 11) ?hd (cs := F5) (t := 27) ?hr ?_; (case hd => rfl); (case hg => rfl); (case hr => first | (go_simp; done) | (go_simp; rfl)); intro gb233 hg w30 hbox hb; have n0_ := Aside0.mk (Kd.R_below (by (with_reducible repeat (first | apply Kd.R_alloc | apply Kd.R_drewN | apply Kd.R_drew)); exact HO225.out) hb); have n1_ := Aside0.mk (blk_below (g := gb222) (o := .cells #[.bool false, .bool false, .bool false, .bool false, .bool false] 27 (0, 0)) (bv BK222.out) hb); have n2_ := Aside0.mk (below_step (bl1 HB.out GE222.out) hb); have n3_ := Aside0.mk (hbox); have n4_ := Aside0.mk ((by rw [hg]; exact (below_size (bl1 HB.out GE222.out)) : w.heap.size ≤ gb233)); have n5_ := n4_; have n6_ := Aside0.mk ((by rw [hg]; exact Nat.ne_of_lt (blk_lt (g := gb222) (o := .cells F5 27 (0, 0)) (bv BK222.out)) : gb222 ≠ gb233)); have n7_ := Aside0.mk (Ne.symm n6_.out); clear HO225; clear BK222; clear HB; have HO225 := n0_; have BK222 := n1_; have HB := n2_; have BK233 := n3_; have GW233 := n4_; have GE233 := n5_; have NB222_233 := n6_; have NB233_222 := n7_; clear n0_ n1_ n2_ n3_ n4_ n5_ n6_ n7_; clear hb hbox hg; have hnb31 := NB233_222.out; have hnc31 := NB222_233.out; obtain ⟨hcz32_0, hcz32_1, hcz32_2, hcz32_3, hcz32_4⟩ := bc5 BK233.out; obtain ⟨hfz32_0, hfz32_1, hfz32_2, hfz32_3, hfz32_4⟩ := bf5 BK233.out) | ((with_reducible refine gate_store (t := 27) (p := 11) rfl ?_); refine store_event (t := 27) (p := 11) (v := ?vo_w33) (w1 := (((((w30.setCell ⟨gb233, 0, none⟩ (.bool t227)).setCell ⟨gb233, 1, none⟩ (.bool t228)).setCell ⟨gb233, 2, none⟩ (.bool t229)).setCell ⟨gb233, 3, none⟩ (.bool t230)).setCell ⟨gb233, 4, none⟩ (.bool t231))) ?hg ?ho ?hn ?hr ?_; (case ho => rfl); (case hg => rfl); (case hn => rfl); (case hr => first | (go_simp; done) | (go_simp; rfl)); intro w33 hw; have n0_ : Aside0 (Kd.R (Kd.int .u32) 22 w33 w.heap.size (fun _ => True) (.slice Ao28 y223.length co28) y223) := ⟨(by rw [hw]; exact (by (with_reducible repeat (first | apply Kd.R_alloc | apply Kd.R_drewN | apply Kd.R_drew)); exact Kd.R_mono (Kd.R_far (p := ⟨gb233, 4, none⟩) (Kd.R_far (p := ⟨gb233, 3, none⟩) (Kd.R_far (p := ⟨gb233, 2, none⟩) (Kd.R_far (p := ⟨gb233, 1, none⟩) (Kd.R_far (p := ⟨gb233, 0, none⟩) (Kd.R_types HO225.out BK233.out (by decide)) (fun _ hk => hk.2) (.bool t227)) (fun _ hk => hk.2) (.bool t228)) (fun _ hk => hk.2) (.bool t229)) (fun _ hk => hk.2) (.bool t230)) (fun _ hk => hk.2) (.bool t231)) (fun _ hk => trivial)))⟩; have n1_ : Aside0 (w33.heap[gb222]? = some (.cells #[.bool false, .bool false, .bool false, .bool false, .bool false] 27 (0, 0))) := ⟨(by rw [hw]; exact (by (with_reducible repeat first | apply bd | apply be | apply ba); refine blk_far ?_ NB222_233.out _; (with_reducible repeat first | apply bd | apply be | apply ba); refine blk_far ?_ NB222_233.out _; (with_reducible repeat first | apply bd | apply be | apply ba); refine blk_far ?_ NB222_233.out _; (with_reducible repeat first | apply bd | apply be | apply ba); refine blk_far ?_ NB222_233.out _; (with_reducible repeat first | apply bd | apply be | apply ba); refine blk_far ?_ NB222_233.out _; (with_reducible repeat first | apply bd | apply be | apply ba); exact BK222.out))⟩; have n2_ : Aside0 (w33.heap[gb233]? = some (.cells #[.bool t227, .bool t228, .bool t229, .bool t230, .bool t231] 27 (0, 0))) := ⟨(by rw [hw]; exact (by (with_reducible repeat first | apply bd | apply be | apply ba); refine blk_put (cs := #[.bool t227, .bool t228, .bool t229, .bool t230, .bool false]) ?_ 4 _ rfl; (with_reducible repeat first | apply bd | apply be | apply ba); refine blk_put (cs := #[.bool t227, .bool t228, .bool t229, .bool false, .bool false]) ?_ 3 _ rfl; (with_reducible repeat first | apply bd | apply be | apply ba); refine blk_put (cs := #[.bool t227, .bool t228, .bool false, .bool false, .bool false]) ?_ 2 _ rfl; (with_reducible repeat first | apply bd | apply be | apply ba); refine blk_put (cs := #[.bool t227, .bool false, .bool false, .bool false, .bool false]) ?_ 1 _ rfl; (with_reducible repeat first | apply bd | apply be | apply ba); refine blk_put (cs := F5) ?_ 0 _ rfl; (with_reducible repeat first | apply bd | apply be | apply ba); exact BK233.out))⟩; have n3_ : Aside0 (Below w.heap.size w w33) := ⟨(by rw [hw]; exact (bl2 HB.out GE222.out GE233.out))⟩; clear hw; clear HO225; clear BK222; clear BK233; clear HB; have HO225 := n0_; have BK222 := n1_; have BK233 := n2_; have HB := n3_; clear n0_ n1_ n2_ n3_) | ((with_reducible refine gate_callee (f := 32) rfl ?_); refine goesL_ (some 32) rfl rfl Try.func32 (by kernel_rfl) rfl #[.int .i64 a0, .int .u32 a2] rfl gl ?_; (with_reducible refine (format_IsInf.calls k a0 a2 t234 _ A22.out).mono ?_); rintro e w' ⟨rfl, ⟨nd, rfl⟩⟩; refine ⟨_, rfl, ?_⟩) | ((with_reducible refine gate_callee (f := 32) rfl ?_); refine goesL_ (some 35) rfl rfl Try.func32 (by kernel_rfl) rfl #[.int .i64 a0, .int .u32 a3] rfl gl ?_; (with_reducible refine (format_IsInf.calls k a0 a3 t235 _ A23.out).mono ?_); rintro e w' ⟨rfl, ⟨nd, rfl⟩⟩; refine ⟨_, rfl, ?_⟩))
  (try simp only [Act.put, sb, sz, ss])
  go_cut [39] (fun v39 wc => ∃ (kq : Nat) (x39_23 : Bool), v39 = .bool x39_23 ∧ Aside0 (sum_Add.j0 kq a0 a1 a2 a3 t234 t235 x39_23 = some (r1, r2, r3, r4, r5, r6)) ∧ Aside0 (kq ≤ k) ∧ Aside0 (wc.heap[gb222]? = some (.cells #[.bool false, .bool false, .bool false, .bool false, .bool false] 27 (0, 0))) ∧ Aside0 (wc.heap[gb233]? = some (.cells #[.bool t227, .bool t228, .bool t229, .bool t230, .bool t231] 27 (0, 0))) ∧ Aside0 (Below w.heap.size w wc))
  case first =>
   have H := HC24.out
   clear HC24
   by_cases c34 : t234 = true
   ·subst c34
    have H1 : (sum_Add.j0 k a0 a1 a2 a3 true t235 true) = some (r1, r2, r3, r4, r5, r6) := by rw [if_pos rfl] at H; exact H
    clear H
    have H := H1
    clear H1
    have H' := Aside0.mk H
    clear H
    go_wp2
    go_meet
    case rel => exact ⟨_, (true), (by first | rfl | (simp; done) | (simp [*]; done) | (congr 1; (try unfold wrap64); omega) | (congr 1; rw [IntKind.wrap_u64]; omega)), H', ⟨by first | omega | exact Nat.le_refl _⟩, ⟨by (with_reducible repeat first | apply bd | apply be | apply ba); exact BK222.out⟩, ⟨by (with_reducible repeat first | apply bd | apply be | apply ba); exact BK233.out⟩, ⟨bl2 HB.out GE222.out GE233.out⟩⟩
   ·replace c34 := Bool.eq_false_iff.mpr c34
    subst c34
    have H1 : (sum_Add.j0 k a0 a1 a2 a3 false t235 t235) = some (r1, r2, r3, r4, r5, r6) := by rw [if_neg (show ¬ (false = true) by decide)] at H; exact H
    clear H
    have H := H1
    clear H1
    have H' := Aside0.mk H
    clear H
    go_wp2
    go_meet
    case rel => exact ⟨_, (t235), (by first | rfl | (simp; done) | (simp [*]; done) | (congr 1; (try unfold wrap64); omega) | (congr 1; rw [IntKind.wrap_u64]; omega)), H', ⟨by first | omega | exact Nat.le_refl _⟩, ⟨by (with_reducible repeat first | apply bd | apply be | apply ba); exact BK222.out⟩, ⟨by (with_reducible repeat first | apply bd | apply be | apply ba); exact BK233.out⟩, ⟨bl2 HB.out GE222.out GE233.out⟩⟩
  case rest =>
   clear HC24
   try clear c1 p2 c3 c6 p6 c12 c13 c31 c32 c34 hcz14_0 hcz14_1 hcz14_2 hcz14_3 hcz14_4 hcz32_0 hcz32_1 hcz32_2 hcz32_3 hcz32_4 hfz14_0 hfz14_1 hfz14_2 hfz14_3 hfz14_4 hfz32_0 hfz32_1 hfz32_2 hfz32_3 hfz32_4
   obtain ⟨kq, x39_23, rfl, HA, HJ23, BK222, BK233, HB⟩ := hcut
   cases kq with
   |zero => exact absurd HA.out (by simp [sum_Add.j0])
   |succ kj23 =>
    have H := HA.out
    clear HA
    simp only [sum_Add.j0] at H
    by_cases c35 : x39_23 = true
    ·subst c35
     have H1 : ((format_Neg.f a0 a2).bind fun t236 => ((format_Neg.f a0 a3).bind fun t237 => ((sum_Infinite.f kj23 a0 t236 t237 t234 t235).bind fun bt238 => (some (bt238.1, bt238.2.1, bt238.2.2.1, bt238.2.2.2.1, bt238.2.2.2.2.1, bt238.2.2.2.2.2))))) = some (r1, r2, r3, r4, r5, r6) := by rw [if_pos rfl] at H; exact H
     clear H
     have H := H1
     clear H1
     replace H := Option.bind_eq_some_iff.mp H
     obtain ⟨t236, A360, H⟩ := H
     replace H : ((format_Neg.f a0 a3).bind fun t237 => ((sum_Infinite.f kj23 a0 t236 t237 t234 t235).bind fun bt238 => (some (bt238.1, bt238.2.1, bt238.2.2.1, bt238.2.2.2.1, bt238.2.2.2.2.1, bt238.2.2.2.2.2)))) = some (r1, r2, r3, r4, r5, r6) := H
     have A36 := Aside0.mk A360
     clear A360
     replace H := Option.bind_eq_some_iff.mp H
     obtain ⟨t237, A370, H⟩ := H
     replace H : ((sum_Infinite.f kj23 a0 t236 t237 t234 t235).bind fun bt238 => (some (bt238.1, bt238.2.1, bt238.2.2.1, bt238.2.2.2.1, bt238.2.2.2.2.1, bt238.2.2.2.2.2))) = some (r1, r2, r3, r4, r5, r6) := H
     have A37 := Aside0.mk A370
     clear A370
     replace H := Option.bind_eq_some_iff.mp H
     obtain ⟨⟨t238, t239, t240, t241, t242, t243⟩, A380, H⟩ := H
     replace H : (some (t238, t239, t240, t241, t242, t243)) = some (r1, r2, r3, r4, r5, r6) := H
     have A38 := Aside0.mk A380
     clear A380
     simp only [Option.some.injEq, Prod.mk.injEq] at H
     obtain ⟨rfl, rfl, rfl, rfl, rfl, rfl⟩ := H
     go_wp2_with (first | ((with_reducible refine gate_callee (f := 34) rfl ?_); refine goesL_ (some 43) rfl rfl Try.func34 (by kernel_rfl) rfl #[.int .i64 a0, .int .u32 a2] rfl gl ?_; (with_reducible refine (format_Neg.calls a0 a2 t236 _ A36.out).mono ?_); rintro e w' ⟨rfl, ⟨nd, rfl⟩⟩; refine ⟨_, rfl, ?_⟩; (try (rw [drewN_self wc]; generalize hq_ : World.drewN wc _ = wc; have n0_ : Aside0 (wc.heap[gb222]? = some (.cells #[.bool false, .bool false, .bool false, .bool false, .bool false] 27 (0, 0))) := ⟨by rw [← hq_]; exact (bv BK222.out)⟩; have n1_ : Aside0 (wc.heap[gb233]? = some (.cells #[.bool t227, .bool t228, .bool t229, .bool t230, .bool t231] 27 (0, 0))) := ⟨by rw [← hq_]; exact (bv BK233.out)⟩; have n2_ : Aside0 (Below w.heap.size w wc) := ⟨by rw [← hq_]; exact (bl2 HB.out GE222.out GE233.out)⟩; clear BK222 BK233 HB hq_; have BK222 := n0_; have BK233 := n1_; have HB := n2_; clear n0_ n1_ n2_))) | ((with_reducible refine gate_callee (f := 34) rfl ?_); refine goesL_ (some 46) rfl rfl Try.func34 (by kernel_rfl) rfl #[.int .i64 a0, .int .u32 a3] rfl gl ?_; (with_reducible refine (format_Neg.calls a0 a3 t237 _ A37.out).mono ?_); rintro e w' ⟨rfl, ⟨nd, rfl⟩⟩; refine ⟨_, rfl, ?_⟩; (try (rw [drewN_self wc]; generalize hq_ : World.drewN wc _ = wc; have n0_ : Aside0 (wc.heap[gb222]? = some (.cells #[.bool false, .bool false, .bool false, .bool false, .bool false] 27 (0, 0))) := ⟨by rw [← hq_]; exact (bv BK222.out)⟩; have n1_ : Aside0 (wc.heap[gb233]? = some (.cells #[.bool t227, .bool t228, .bool t229, .bool t230, .bool t231] 27 (0, 0))) := ⟨by rw [← hq_]; exact (bv BK233.out)⟩; have n2_ : Aside0 (Below w.heap.size w wc) := ⟨by rw [← hq_]; exact (bl2 HB.out GE222.out GE233.out)⟩; clear BK222 BK233 HB hq_; have BK222 := n0_; have BK233 := n1_; have HB := n2_; clear n0_ n1_ n2_))) | ((with_reducible refine gate_callee (f := 33) rfl ?_); refine goesL_ (some 49) rfl rfl Try.func33 (by kernel_rfl) rfl #[.int .i64 a0, .bool t236, .bool t237, .bool t234, .bool t235] rfl gl ?_; (with_reducible refine (sum_Infinite.calls kj23 a0 t236 t237 t234 t235 t238 t239 t240 t241 t242 t243 _ A38.out).mono ?_); rintro e w39 ⟨rfl, hb⟩; refine ⟨_, rfl, ?_⟩; have n0_ := Aside0.mk (blk_below (g := gb222) (o := .cells #[.bool false, .bool false, .bool false, .bool false, .bool false] 27 (0, 0)) (bv BK222.out) hb); have n1_ := Aside0.mk (blk_below (g := gb233) (o := .cells #[.bool t227, .bool t228, .bool t229, .bool t230, .bool t231] 27 (0, 0)) (bv BK233.out) hb); have n2_ := Aside0.mk (below_step (bl2 HB.out GE222.out GE233.out) hb); clear BK222; clear BK233; clear HB; have BK222 := n0_; have BK233 := n1_; have HB := n2_; clear n0_ n1_ n2_; have hnb40 := NB222_233.out; have hnc40 := NB233_222.out; obtain ⟨hcz41_0, hcz41_1, hcz41_2, hcz41_3, hcz41_4⟩ := bc5 BK222.out; obtain ⟨hfz41_0, hfz41_1, hfz41_2, hfz41_3, hfz41_4⟩ := bf5 BK222.out))
     refine bodyPost_ret (results_tc rfl _ _ gb222 27 #[.bool t239, .bool t240, .bool t241, .bool t242, .bool t243] (0, 0) _ rfl (by (with_reducible repeat first | apply bd | apply be | apply ba); refine blk_put (cs := #[.bool t239, .bool t240, .bool t241, .bool t242, .bool false]) ?_ 4 _ rfl; (with_reducible repeat first | apply bd | apply be | apply ba); refine blk_put (cs := #[.bool t239, .bool t240, .bool t241, .bool false, .bool false]) ?_ 3 _ rfl; (with_reducible repeat first | apply bd | apply be | apply ba); refine blk_put (cs := #[.bool t239, .bool t240, .bool false, .bool false, .bool false]) ?_ 2 _ rfl; (with_reducible repeat first | apply bd | apply be | apply ba); refine blk_put (cs := #[.bool t239, .bool false, .bool false, .bool false, .bool false]) ?_ 1 _ rfl; (with_reducible repeat first | apply bd | apply be | apply ba); refine blk_put (cs := F5) ?_ 0 _ rfl; (with_reducible repeat first | apply bd | apply be | apply ba); exact BK222.out) Try.underlying27 rfl (by kernel_rfl)) rfl ?_
     exact ⟨by first | rfl | (simp [errW_none, errW_some] <;> rfl) | (simp [*, errW_none, errW_some] <;> rfl), bl2 HB.out GE222.out GE233.out⟩
    ·replace c35 := Bool.eq_false_iff.mpr c35
     subst c35
     have H1 : ((sum_Of.f a0 a2).bind fun bt244 => ((sum_Of.f a0 a3).bind fun bt248 => ((sum_Exact.f kj23 bt244.1 bt244.2.1 bt244.2.2.1 bt244.2.2.2 bt248.1 bt248.2.1 bt248.2.2.1 bt248.2.2.2).bind fun bt254 => (if bt254.2.2.1 = 0 then (sum_Add.j1 kj23 a0 a1 (!bt254.2.2.2) bt244.1 bt244.2.1 bt244.2.2.1 bt244.2.2.2 bt248.1 bt248.2.1 bt248.2.2.1 bt248.2.2.2 bt254.1 bt254.2.1 bt254.2.2.1 bt254.2.2.2) else (sum_Add.j1 kj23 a0 a1 false bt244.1 bt244.2.1 bt244.2.2.1 bt244.2.2.2 bt248.1 bt248.2.1 bt248.2.2.1 bt248.2.2.2 bt254.1 bt254.2.1 bt254.2.2.1 bt254.2.2.2))))) = some (r1, r2, r3, r4, r5, r6) := by rw [if_neg (show ¬ (false = true) by decide)] at H; exact H
     clear H
     have H := H1
     clear H1
     replace H := Option.bind_eq_some_iff.mp H
     obtain ⟨⟨t244, t245, t246, t247⟩, A420, H⟩ := H
     replace H : ((sum_Of.f a0 a3).bind fun bt248 => ((sum_Exact.f kj23 t244 t245 t246 t247 bt248.1 bt248.2.1 bt248.2.2.1 bt248.2.2.2).bind fun bt254 => (if bt254.2.2.1 = 0 then (sum_Add.j1 kj23 a0 a1 (!bt254.2.2.2) t244 t245 t246 t247 bt248.1 bt248.2.1 bt248.2.2.1 bt248.2.2.2 bt254.1 bt254.2.1 bt254.2.2.1 bt254.2.2.2) else (sum_Add.j1 kj23 a0 a1 false t244 t245 t246 t247 bt248.1 bt248.2.1 bt248.2.2.1 bt248.2.2.2 bt254.1 bt254.2.1 bt254.2.2.1 bt254.2.2.2)))) = some (r1, r2, r3, r4, r5, r6) := H
     have A42 := Aside0.mk A420
     clear A420
     replace H := Option.bind_eq_some_iff.mp H
     obtain ⟨⟨t248, t249, t250, t251⟩, A430, H⟩ := H
     replace H : ((sum_Exact.f kj23 t244 t245 t246 t247 t248 t249 t250 t251).bind fun bt254 => (if bt254.2.2.1 = 0 then (sum_Add.j1 kj23 a0 a1 (!bt254.2.2.2) t244 t245 t246 t247 t248 t249 t250 t251 bt254.1 bt254.2.1 bt254.2.2.1 bt254.2.2.2) else (sum_Add.j1 kj23 a0 a1 false t244 t245 t246 t247 t248 t249 t250 t251 bt254.1 bt254.2.1 bt254.2.2.1 bt254.2.2.2))) = some (r1, r2, r3, r4, r5, r6) := H
     have A43 := Aside0.mk A430
     clear A430
     replace H := Option.bind_eq_some_iff.mp H
     obtain ⟨⟨t254, t255, t256, t257⟩, A440, H⟩ := H
     replace H : (if t256 = 0 then (sum_Add.j1 kj23 a0 a1 (!t257) t244 t245 t246 t247 t248 t249 t250 t251 t254 t255 t256 t257) else (sum_Add.j1 kj23 a0 a1 false t244 t245 t246 t247 t248 t249 t250 t251 t254 t255 t256 t257)) = some (r1, r2, r3, r4, r5, r6) := H
     have A44 := Aside0.mk A440
     clear A440
     have HC45 := Aside0.mk H
     clear H
     go_upto_region 9 with (first | ((with_reducible refine gate_callee (f := 35) rfl ?_); refine goesL_ (some 54) rfl rfl Try.func35 (by kernel_rfl) rfl #[.int .i64 a0, .int .u32 a2] rfl gl ?_; (with_reducible refine (sum_Of.calls a0 a2 t244 t245 t246 t247 _ A42.out).mono ?_); rintro e w46 ⟨rfl, hb⟩; refine ⟨_, rfl, ?_⟩; have n0_ := Aside0.mk (blk_below (g := gb222) (o := .cells #[.bool false, .bool false, .bool false, .bool false, .bool false] 27 (0, 0)) (bv BK222.out) hb); have n1_ := Aside0.mk (blk_below (g := gb233) (o := .cells #[.bool t227, .bool t228, .bool t229, .bool t230, .bool t231] 27 (0, 0)) (bv BK233.out) hb); have n2_ := Aside0.mk (below_step (bl2 HB.out GE222.out GE233.out) hb); clear BK222; clear BK233; clear HB; have BK222 := n0_; have BK233 := n1_; have HB := n2_; clear n0_ n1_ n2_) | ((with_reducible refine gate_callee (f := 35) rfl ?_); refine goesL_ (some 57) rfl rfl Try.func35 (by kernel_rfl) rfl #[.int .i64 a0, .int .u32 a3] rfl gl ?_; (with_reducible refine (sum_Of.calls a0 a3 t248 t249 t250 t251 _ A43.out).mono ?_); rintro e w47 ⟨rfl, hb⟩; refine ⟨_, rfl, ?_⟩; have n0_ := Aside0.mk (blk_below (g := gb222) (o := .cells #[.bool false, .bool false, .bool false, .bool false, .bool false] 27 (0, 0)) (bv BK222.out) hb); have n1_ := Aside0.mk (blk_below (g := gb233) (o := .cells #[.bool t227, .bool t228, .bool t229, .bool t230, .bool t231] 27 (0, 0)) (bv BK233.out) hb); have n2_ := Aside0.mk (below_step (bl2 HB.out GE222.out GE233.out) hb); clear BK222; clear BK233; clear HB; have BK222 := n0_; have BK233 := n1_; have HB := n2_; clear n0_ n1_ n2_) | ((with_reducible refine gate_dst (N := 15) rfl ?_); refine box_event ?hg (N := 15) ?hd (cs := #[.bool false, .int .i64 0, .int .u64 0, .bool false]) (t := 56) ?hr ?_; (case hd => rfl); (case hg => rfl); (case hr => first | (go_simp; done) | (go_simp; rfl)); intro gb252 hg w48 hbox hb; have n0_ := Aside0.mk (blk_below (g := gb222) (o := .cells #[.bool false, .bool false, .bool false, .bool false, .bool false] 27 (0, 0)) (bv BK222.out) hb); have n1_ := Aside0.mk (blk_below (g := gb233) (o := .cells #[.bool t227, .bool t228, .bool t229, .bool t230, .bool t231] 27 (0, 0)) (bv BK233.out) hb); have n2_ := Aside0.mk (below_step (bl2 HB.out GE222.out GE233.out) hb); have n3_ := Aside0.mk (hbox); have n4_ := Aside0.mk ((by rw [hg]; exact (below_size (bl2 HB.out GE222.out GE233.out)) : w.heap.size ≤ gb252)); have n5_ := n4_; have n6_ := Aside0.mk ((by rw [hg]; exact Nat.ne_of_lt (blk_lt (g := gb222) (o := .cells F5 27 (0, 0)) (bv BK222.out)) : gb222 ≠ gb252)); have n7_ := Aside0.mk (Ne.symm n6_.out); have n8_ := Aside0.mk ((by rw [hg]; exact Nat.ne_of_lt (blk_lt (g := gb233) (o := .cells #[.bool t227, .bool t228, .bool t229, .bool t230, .bool t231] 27 (0, 0)) (bv BK233.out)) : gb233 ≠ gb252)); have n9_ := Aside0.mk (Ne.symm n8_.out); clear BK222; clear BK233; clear HB; have BK222 := n0_; have BK233 := n1_; have HB := n2_; have BK252 := n3_; have GW252 := n4_; have GE252 := n5_; have NB222_252 := n6_; have NB252_222 := n7_; have NB233_252 := n8_; have NB252_233 := n9_; clear n0_ n1_ n2_ n3_ n4_ n5_ n6_ n7_ n8_ n9_; clear hb hbox hg) | ((with_reducible refine gate_dst (N := 16) rfl ?_); refine box_event ?hg (N := 16) ?hd (cs := #[.bool false, .int .i64 0, .int .u64 0, .bool false]) (t := 56) ?hr ?_; (case hd => rfl); (case hg => rfl); (case hr => first | (go_simp; done) | (go_simp; rfl)); intro gb253 hg w49 hbox hb; have n0_ := Aside0.mk (blk_below (g := gb222) (o := .cells #[.bool false, .bool false, .bool false, .bool false, .bool false] 27 (0, 0)) (bv BK222.out) hb); have n1_ := Aside0.mk (blk_below (g := gb233) (o := .cells #[.bool t227, .bool t228, .bool t229, .bool t230, .bool t231] 27 (0, 0)) (bv BK233.out) hb); have n2_ := Aside0.mk (blk_below (g := gb252) (o := .cells #[.bool false, .int .i64 0, .int .u64 0, .bool false] 56 (0, 0)) (bv BK252.out) hb); have n3_ := Aside0.mk (below_step (bl3 HB.out GE222.out GE233.out GE252.out) hb); have n4_ := Aside0.mk (hbox); have n5_ := Aside0.mk ((by rw [hg]; exact (below_size (bl3 HB.out GE222.out GE233.out GE252.out)) : w.heap.size ≤ gb253)); have n6_ := n5_; have n7_ := Aside0.mk ((by rw [hg]; exact Nat.ne_of_lt (blk_lt (g := gb222) (o := .cells F5 27 (0, 0)) (bv BK222.out)) : gb222 ≠ gb253)); have n8_ := Aside0.mk (Ne.symm n7_.out); have n9_ := Aside0.mk ((by rw [hg]; exact Nat.ne_of_lt (blk_lt (g := gb233) (o := .cells #[.bool t227, .bool t228, .bool t229, .bool t230, .bool t231] 27 (0, 0)) (bv BK233.out)) : gb233 ≠ gb253)); have n10_ := Aside0.mk (Ne.symm n9_.out); have n11_ := Aside0.mk ((by rw [hg]; exact Nat.ne_of_lt (blk_lt (g := gb252) (o := .cells #[.bool false, .int .i64 0, .int .u64 0, .bool false] 56 (0, 0)) (bv BK252.out)) : gb252 ≠ gb253)); have n12_ := Aside0.mk (Ne.symm n11_.out); clear BK222; clear BK233; clear BK252; clear HB; have BK222 := n0_; have BK233 := n1_; have BK252 := n2_; have HB := n3_; have BK253 := n4_; have GW253 := n5_; have GE253 := n6_; have NB222_253 := n7_; have NB253_222 := n8_; have NB233_253 := n9_; have NB253_233 := n10_; have NB252_253 := n11_; have NB253_252 := n12_; clear n0_ n1_ n2_ n3_ n4_ n5_ n6_ n7_ n8_ n9_ n10_ n11_ n12_; clear hb hbox hg; have hnb50 := NB252_222.out; have hnc50 := NB222_252.out; have hnb51 := NB252_233.out; have hnc51 := NB233_252.out; have hnb52 := NB252_253.out; have hnc52 := NB253_252.out; obtain ⟨hcz53_0, hcz53_1, hcz53_2, hcz53_3⟩ := bc4 BK252.out; obtain ⟨hfz53_0, hfz53_1, hfz53_2, hfz53_3⟩ := bf4 BK252.out; have hnb54 := NB253_222.out; have hnc54 := NB222_253.out; have hnb55 := NB253_233.out; have hnc55 := NB233_253.out; obtain ⟨hcz56_0, hcz56_1, hcz56_2, hcz56_3⟩ := bc4 BK253.out; obtain ⟨hfz56_0, hfz56_1, hfz56_2, hfz56_3⟩ := bf4 BK253.out) | ((with_reducible refine gate_callee (f := 36) rfl ?_); refine goesL_ (some 60) rfl rfl Try.func36 (by kernel_rfl) rfl #[.agg #[.bool t244, .int .i64 t245, .int .u64 t246, .bool t247], .agg #[.bool t248, .int .i64 t249, .int .u64 t250, .bool t251]] rfl gl ?_; (with_reducible refine (sum_Exact.calls kj23 t244 t245 t246 t247 t248 t249 t250 t251 t254 t255 t256 t257 _ A44.out).mono ?_); rintro e w57 ⟨rfl, hb⟩; refine ⟨_, rfl, ?_⟩; have n0_ := Aside0.mk (blk_below (g := gb222) (o := .cells #[.bool false, .bool false, .bool false, .bool false, .bool false] 27 (0, 0)) (by (with_reducible repeat first | apply bd | apply be | apply ba); refine blk_far ?_ NB222_253.out _; (with_reducible repeat first | apply bd | apply be | apply ba); refine blk_far ?_ NB222_253.out _; (with_reducible repeat first | apply bd | apply be | apply ba); refine blk_far ?_ NB222_253.out _; (with_reducible repeat first | apply bd | apply be | apply ba); refine blk_far ?_ NB222_253.out _; (with_reducible repeat first | apply bd | apply be | apply ba); refine blk_far ?_ NB222_252.out _; (with_reducible repeat first | apply bd | apply be | apply ba); refine blk_far ?_ NB222_252.out _; (with_reducible repeat first | apply bd | apply be | apply ba); refine blk_far ?_ NB222_252.out _; (with_reducible repeat first | apply bd | apply be | apply ba); refine blk_far ?_ NB222_252.out _; (with_reducible repeat first | apply bd | apply be | apply ba); exact BK222.out) hb); have n1_ := Aside0.mk (blk_below (g := gb233) (o := .cells #[.bool t227, .bool t228, .bool t229, .bool t230, .bool t231] 27 (0, 0)) (by (with_reducible repeat first | apply bd | apply be | apply ba); refine blk_far ?_ NB233_253.out _; (with_reducible repeat first | apply bd | apply be | apply ba); refine blk_far ?_ NB233_253.out _; (with_reducible repeat first | apply bd | apply be | apply ba); refine blk_far ?_ NB233_253.out _; (with_reducible repeat first | apply bd | apply be | apply ba); refine blk_far ?_ NB233_253.out _; (with_reducible repeat first | apply bd | apply be | apply ba); refine blk_far ?_ NB233_252.out _; (with_reducible repeat first | apply bd | apply be | apply ba); refine blk_far ?_ NB233_252.out _; (with_reducible repeat first | apply bd | apply be | apply ba); refine blk_far ?_ NB233_252.out _; (with_reducible repeat first | apply bd | apply be | apply ba); refine blk_far ?_ NB233_252.out _; (with_reducible repeat first | apply bd | apply be | apply ba); exact BK233.out) hb); have n2_ := Aside0.mk (blk_below (g := gb252) (o := .cells #[.bool t244, .int .i64 t245, .int .u64 t246, .bool t247] 56 (0, 0)) (by (with_reducible repeat first | apply bd | apply be | apply ba); refine blk_far ?_ NB252_253.out _; (with_reducible repeat first | apply bd | apply be | apply ba); refine blk_far ?_ NB252_253.out _; (with_reducible repeat first | apply bd | apply be | apply ba); refine blk_far ?_ NB252_253.out _; (with_reducible repeat first | apply bd | apply be | apply ba); refine blk_far ?_ NB252_253.out _; (with_reducible repeat first | apply bd | apply be | apply ba); refine blk_put (cs := #[.bool t244, .int .i64 t245, .int .u64 t246, .bool false]) ?_ 3 _ rfl; (with_reducible repeat first | apply bd | apply be | apply ba); refine blk_put (cs := #[.bool t244, .int .i64 t245, .int .u64 0, .bool false]) ?_ 2 _ rfl; (with_reducible repeat first | apply bd | apply be | apply ba); refine blk_put (cs := #[.bool t244, .int .i64 0, .int .u64 0, .bool false]) ?_ 1 _ rfl; (with_reducible repeat first | apply bd | apply be | apply ba); refine blk_put (cs := #[.bool false, .int .i64 0, .int .u64 0, .bool false]) ?_ 0 _ rfl; (with_reducible repeat first | apply bd | apply be | apply ba); exact BK252.out) hb); have n3_ := Aside0.mk (blk_below (g := gb253) (o := .cells #[.bool t248, .int .i64 t249, .int .u64 t250, .bool t251] 56 (0, 0)) (by (with_reducible repeat first | apply bd | apply be | apply ba); refine blk_put (cs := #[.bool t248, .int .i64 t249, .int .u64 t250, .bool false]) ?_ 3 _ rfl; (with_reducible repeat first | apply bd | apply be | apply ba); refine blk_put (cs := #[.bool t248, .int .i64 t249, .int .u64 0, .bool false]) ?_ 2 _ rfl; (with_reducible repeat first | apply bd | apply be | apply ba); refine blk_put (cs := #[.bool t248, .int .i64 0, .int .u64 0, .bool false]) ?_ 1 _ rfl; (with_reducible repeat first | apply bd | apply be | apply ba); refine blk_put (cs := #[.bool false, .int .i64 0, .int .u64 0, .bool false]) ?_ 0 _ rfl; (with_reducible repeat first | apply bd | apply be | apply ba); refine blk_far ?_ NB253_252.out _; (with_reducible repeat first | apply bd | apply be | apply ba); refine blk_far ?_ NB253_252.out _; (with_reducible repeat first | apply bd | apply be | apply ba); refine blk_far ?_ NB253_252.out _; (with_reducible repeat first | apply bd | apply be | apply ba); refine blk_far ?_ NB253_252.out _; (with_reducible repeat first | apply bd | apply be | apply ba); exact BK253.out) hb); have n4_ := Aside0.mk (below_step (bl4 HB.out GE222.out GE233.out GE252.out GE253.out) hb); clear BK222; clear BK233; clear BK252; clear BK253; clear HB; have BK222 := n0_; have BK233 := n1_; have BK252 := n2_; have BK253 := n3_; have HB := n4_; clear n0_ n1_ n2_ n3_ n4_) | ((with_reducible refine gate_dst (N := 17) rfl ?_); refine box_event ?hg (N := 17) ?hd (cs := #[.bool false, .int .i64 0, .int .u64 0, .bool false]) (t := 56) ?hr ?_; (case hd => rfl); (case hg => rfl); (case hr => first | (go_simp; done) | (go_simp; rfl)); intro gb258 hg w58 hbox hb; have n0_ := Aside0.mk (blk_below (g := gb222) (o := .cells #[.bool false, .bool false, .bool false, .bool false, .bool false] 27 (0, 0)) (bv BK222.out) hb); have n1_ := Aside0.mk (blk_below (g := gb233) (o := .cells #[.bool t227, .bool t228, .bool t229, .bool t230, .bool t231] 27 (0, 0)) (bv BK233.out) hb); have n2_ := Aside0.mk (blk_below (g := gb252) (o := .cells #[.bool t244, .int .i64 t245, .int .u64 t246, .bool t247] 56 (0, 0)) (bv BK252.out) hb); have n3_ := Aside0.mk (blk_below (g := gb253) (o := .cells #[.bool t248, .int .i64 t249, .int .u64 t250, .bool t251] 56 (0, 0)) (bv BK253.out) hb); have n4_ := Aside0.mk (below_step (bl4 HB.out GE222.out GE233.out GE252.out GE253.out) hb); have n5_ := Aside0.mk (hbox); have n6_ := Aside0.mk ((by rw [hg]; exact (below_size (bl4 HB.out GE222.out GE233.out GE252.out GE253.out)) : w.heap.size ≤ gb258)); have n7_ := n6_; have n8_ := Aside0.mk ((by rw [hg]; exact Nat.ne_of_lt (blk_lt (g := gb222) (o := .cells F5 27 (0, 0)) (bv BK222.out)) : gb222 ≠ gb258)); have n9_ := Aside0.mk (Ne.symm n8_.out); have n10_ := Aside0.mk ((by rw [hg]; exact Nat.ne_of_lt (blk_lt (g := gb233) (o := .cells #[.bool t227, .bool t228, .bool t229, .bool t230, .bool t231] 27 (0, 0)) (bv BK233.out)) : gb233 ≠ gb258)); have n11_ := Aside0.mk (Ne.symm n10_.out); have n12_ := Aside0.mk ((by rw [hg]; exact Nat.ne_of_lt (blk_lt (g := gb252) (o := .cells #[.bool t244, .int .i64 t245, .int .u64 t246, .bool t247] 56 (0, 0)) (bv BK252.out)) : gb252 ≠ gb258)); have n13_ := Aside0.mk (Ne.symm n12_.out); have n14_ := Aside0.mk ((by rw [hg]; exact Nat.ne_of_lt (blk_lt (g := gb253) (o := .cells #[.bool t248, .int .i64 t249, .int .u64 t250, .bool t251] 56 (0, 0)) (bv BK253.out)) : gb253 ≠ gb258)); have n15_ := Aside0.mk (Ne.symm n14_.out); clear BK222; clear BK233; clear BK252; clear BK253; clear HB; have BK222 := n0_; have BK233 := n1_; have BK252 := n2_; have BK253 := n3_; have HB := n4_; have BK258 := n5_; have GW258 := n6_; have GE258 := n7_; have NB222_258 := n8_; have NB258_222 := n9_; have NB233_258 := n10_; have NB258_233 := n11_; have NB252_258 := n12_; have NB258_252 := n13_; have NB253_258 := n14_; have NB258_253 := n15_; clear n0_ n1_ n2_ n3_ n4_ n5_ n6_ n7_ n8_ n9_ n10_ n11_ n12_ n13_ n14_ n15_; clear hb hbox hg; have hnb59 := NB258_222.out; have hnc59 := NB222_258.out; have hnb60 := NB258_233.out; have hnc60 := NB233_258.out; have hnb61 := NB258_252.out; have hnc61 := NB252_258.out; have hnb62 := NB258_253.out; have hnc62 := NB253_258.out; obtain ⟨hcz63_0, hcz63_1, hcz63_2, hcz63_3⟩ := bc4 BK258.out; obtain ⟨hfz63_0, hfz63_1, hfz63_2, hfz63_3⟩ := bf4 BK258.out))
     (try simp only [Act.put, sb, sz, ss])
     go_cut [68] (fun v68 wc => ∃ (kq : Nat) (x68_44 : Bool), v68 = .bool x68_44 ∧ Aside0 (sum_Add.j1 kq a0 a1 x68_44 t244 t245 t246 t247 t248 t249 t250 t251 t254 t255 t256 t257 = some (r1, r2, r3, r4, r5, r6)) ∧ Aside0 (kq ≤ kj23) ∧ Aside0 (wc.heap[gb222]? = some (.cells #[.bool false, .bool false, .bool false, .bool false, .bool false] 27 (0, 0))) ∧ Aside0 (wc.heap[gb233]? = some (.cells #[.bool t227, .bool t228, .bool t229, .bool t230, .bool t231] 27 (0, 0))) ∧ Aside0 (wc.heap[gb252]? = some (.cells #[.bool t244, .int .i64 t245, .int .u64 t246, .bool t247] 56 (0, 0))) ∧ Aside0 (wc.heap[gb253]? = some (.cells #[.bool t248, .int .i64 t249, .int .u64 t250, .bool t251] 56 (0, 0))) ∧ Aside0 (wc.heap[gb258]? = some (.cells #[.bool t254, .int .i64 t255, .int .u64 t256, .bool t257] 56 (0, 0))) ∧ Aside0 (Below w.heap.size w wc))
     case first =>
      have H := HC45.out
      clear HC45
      by_cases c64 : t256 = 0
      ·rw [if_pos c64] at H
       have c64b0 : (t256 == 0) = true := beq_iff_eq.mpr c64
       have c64b1 : (t256 != 0) = false := bne_eq_false_iff_eq.mpr c64
       clear c64
       (first | rw [c64b0] | (simp only [i64_w, i32_w]; rw [c64b0]) | skip)
       have H' := Aside0.mk H
       clear H
       have hnb65 := NB258_222.out
       have hnc65 := NB222_258.out
       have hnb66 := NB258_233.out
       have hnc66 := NB233_258.out
       have hnb67 := NB258_252.out
       have hnc67 := NB252_258.out
       have hnb68 := NB258_253.out
       have hnc68 := NB253_258.out
       have hcz69_0 : w58.cell? ⟨gb258, 0, none⟩ = some (.bool false) := (blk_cell BK258.out 0).trans rfl
       have hcz69_1 : w58.cell? ⟨gb258, 1, none⟩ = some (.int .i64 0) := (blk_cell BK258.out 1).trans rfl
       have hcz69_2 : w58.cell? ⟨gb258, 2, none⟩ = some (.int .u64 0) := (blk_cell BK258.out 2).trans rfl
       have hcz69_3 : w58.cell? ⟨gb258, 3, none⟩ = some (.bool false) := (blk_cell BK258.out 3).trans rfl
       have hfz69_0 := blk_frozen BK258.out 0
       have hfz69_1 := blk_frozen BK258.out 1
       have hfz69_2 := blk_frozen BK258.out 2
       have hfz69_3 := blk_frozen BK258.out 3
       go_wp2
       go_meet
       case rel => exact ⟨_, (!t257), (by first | rfl | (simp; done) | (simp [*]; done) | (congr 1; (try unfold wrap64); omega) | (congr 1; rw [IntKind.wrap_u64]; omega)), H', ⟨by have := HJ23.out; first | omega | exact Nat.le_refl _⟩, ⟨by (with_reducible repeat first | apply bd | apply be | apply ba); refine blk_far ?_ NB222_258.out _; (with_reducible repeat first | apply bd | apply be | apply ba); refine blk_far ?_ NB222_258.out _; (with_reducible repeat first | apply bd | apply be | apply ba); refine blk_far ?_ NB222_258.out _; (with_reducible repeat first | apply bd | apply be | apply ba); refine blk_far ?_ NB222_258.out _; (with_reducible repeat first | apply bd | apply be | apply ba); exact BK222.out⟩, ⟨by (with_reducible repeat first | apply bd | apply be | apply ba); refine blk_far ?_ NB233_258.out _; (with_reducible repeat first | apply bd | apply be | apply ba); refine blk_far ?_ NB233_258.out _; (with_reducible repeat first | apply bd | apply be | apply ba); refine blk_far ?_ NB233_258.out _; (with_reducible repeat first | apply bd | apply be | apply ba); refine blk_far ?_ NB233_258.out _; (with_reducible repeat first | apply bd | apply be | apply ba); exact BK233.out⟩, ⟨by (with_reducible repeat first | apply bd | apply be | apply ba); refine blk_far ?_ NB252_258.out _; (with_reducible repeat first | apply bd | apply be | apply ba); refine blk_far ?_ NB252_258.out _; (with_reducible repeat first | apply bd | apply be | apply ba); refine blk_far ?_ NB252_258.out _; (with_reducible repeat first | apply bd | apply be | apply ba); refine blk_far ?_ NB252_258.out _; (with_reducible repeat first | apply bd | apply be | apply ba); exact BK252.out⟩, ⟨by (with_reducible repeat first | apply bd | apply be | apply ba); refine blk_far ?_ NB253_258.out _; (with_reducible repeat first | apply bd | apply be | apply ba); refine blk_far ?_ NB253_258.out _; (with_reducible repeat first | apply bd | apply be | apply ba); refine blk_far ?_ NB253_258.out _; (with_reducible repeat first | apply bd | apply be | apply ba); refine blk_far ?_ NB253_258.out _; (with_reducible repeat first | apply bd | apply be | apply ba); exact BK253.out⟩, ⟨by (with_reducible repeat first | apply bd | apply be | apply ba); refine blk_put (cs := #[.bool t254, .int .i64 t255, .int .u64 t256, .bool false]) ?_ 3 _ rfl; (with_reducible repeat first | apply bd | apply be | apply ba); refine blk_put (cs := #[.bool t254, .int .i64 t255, .int .u64 0, .bool false]) ?_ 2 _ rfl; (with_reducible repeat first | apply bd | apply be | apply ba); refine blk_put (cs := #[.bool t254, .int .i64 0, .int .u64 0, .bool false]) ?_ 1 _ rfl; (with_reducible repeat first | apply bd | apply be | apply ba); refine blk_put (cs := #[.bool false, .int .i64 0, .int .u64 0, .bool false]) ?_ 0 _ rfl; (with_reducible repeat first | apply bd | apply be | apply ba); exact BK258.out⟩, ⟨bl5 HB.out GE222.out GE233.out GE252.out GE253.out GE258.out⟩⟩
      ·rw [if_neg c64] at H
       have c64b0 : (t256 == 0) = false := beq_eq_false_iff_ne.mpr c64
       have c64b1 : (t256 != 0) = true := bne_iff_ne.mpr c64
       (first | rw [c64b0] | (simp only [i64_w, i32_w]; rw [c64b0]) | skip)
       have H' := Aside0.mk H
       clear H
       have hnb70 := NB258_222.out
       have hnc70 := NB222_258.out
       have hnb71 := NB258_233.out
       have hnc71 := NB233_258.out
       have hnb72 := NB258_252.out
       have hnc72 := NB252_258.out
       have hnb73 := NB258_253.out
       have hnc73 := NB253_258.out
       have hcz74_0 : w58.cell? ⟨gb258, 0, none⟩ = some (.bool false) := (blk_cell BK258.out 0).trans rfl
       have hcz74_1 : w58.cell? ⟨gb258, 1, none⟩ = some (.int .i64 0) := (blk_cell BK258.out 1).trans rfl
       have hcz74_2 : w58.cell? ⟨gb258, 2, none⟩ = some (.int .u64 0) := (blk_cell BK258.out 2).trans rfl
       have hcz74_3 : w58.cell? ⟨gb258, 3, none⟩ = some (.bool false) := (blk_cell BK258.out 3).trans rfl
       have hfz74_0 := blk_frozen BK258.out 0
       have hfz74_1 := blk_frozen BK258.out 1
       have hfz74_2 := blk_frozen BK258.out 2
       have hfz74_3 := blk_frozen BK258.out 3
       go_wp2
       go_meet
       case rel => exact ⟨_, (false), (by first | rfl | (simp; done) | (simp [*]; done) | (congr 1; (try unfold wrap64); omega) | (congr 1; rw [IntKind.wrap_u64]; omega)), H', ⟨by have := HJ23.out; first | omega | exact Nat.le_refl _⟩, ⟨by (with_reducible repeat first | apply bd | apply be | apply ba); refine blk_far ?_ NB222_258.out _; (with_reducible repeat first | apply bd | apply be | apply ba); refine blk_far ?_ NB222_258.out _; (with_reducible repeat first | apply bd | apply be | apply ba); refine blk_far ?_ NB222_258.out _; (with_reducible repeat first | apply bd | apply be | apply ba); refine blk_far ?_ NB222_258.out _; (with_reducible repeat first | apply bd | apply be | apply ba); exact BK222.out⟩, ⟨by (with_reducible repeat first | apply bd | apply be | apply ba); refine blk_far ?_ NB233_258.out _; (with_reducible repeat first | apply bd | apply be | apply ba); refine blk_far ?_ NB233_258.out _; (with_reducible repeat first | apply bd | apply be | apply ba); refine blk_far ?_ NB233_258.out _; (with_reducible repeat first | apply bd | apply be | apply ba); refine blk_far ?_ NB233_258.out _; (with_reducible repeat first | apply bd | apply be | apply ba); exact BK233.out⟩, ⟨by (with_reducible repeat first | apply bd | apply be | apply ba); refine blk_far ?_ NB252_258.out _; (with_reducible repeat first | apply bd | apply be | apply ba); refine blk_far ?_ NB252_258.out _; (with_reducible repeat first | apply bd | apply be | apply ba); refine blk_far ?_ NB252_258.out _; (with_reducible repeat first | apply bd | apply be | apply ba); refine blk_far ?_ NB252_258.out _; (with_reducible repeat first | apply bd | apply be | apply ba); exact BK252.out⟩, ⟨by (with_reducible repeat first | apply bd | apply be | apply ba); refine blk_far ?_ NB253_258.out _; (with_reducible repeat first | apply bd | apply be | apply ba); refine blk_far ?_ NB253_258.out _; (with_reducible repeat first | apply bd | apply be | apply ba); refine blk_far ?_ NB253_258.out _; (with_reducible repeat first | apply bd | apply be | apply ba); refine blk_far ?_ NB253_258.out _; (with_reducible repeat first | apply bd | apply be | apply ba); exact BK253.out⟩, ⟨by (with_reducible repeat first | apply bd | apply be | apply ba); refine blk_put (cs := #[.bool t254, .int .i64 t255, .int .u64 t256, .bool false]) ?_ 3 _ rfl; (with_reducible repeat first | apply bd | apply be | apply ba); refine blk_put (cs := #[.bool t254, .int .i64 t255, .int .u64 0, .bool false]) ?_ 2 _ rfl; (with_reducible repeat first | apply bd | apply be | apply ba); refine blk_put (cs := #[.bool t254, .int .i64 0, .int .u64 0, .bool false]) ?_ 1 _ rfl; (with_reducible repeat first | apply bd | apply be | apply ba); refine blk_put (cs := #[.bool false, .int .i64 0, .int .u64 0, .bool false]) ?_ 0 _ rfl; (with_reducible repeat first | apply bd | apply be | apply ba); exact BK258.out⟩, ⟨bl5 HB.out GE222.out GE233.out GE252.out GE253.out GE258.out⟩⟩
     case rest =>
      clear HC45
      try clear c1 p2 c3 c4 c5 c6 p6 c7 c12 c13 c31 c32 c33 c34 c35 c36 c40 c50 c51 c52 c54 c55 c59 c60 c61 c62 c64 c64b0 c64b1 p64 c65 c66 c67 c68 c70 c71 c72 c73 hcz14_0 hcz14_1 hcz14_2 hcz14_3 hcz14_4 hcz32_0 hcz32_1 hcz32_2 hcz32_3 hcz32_4 hcz41_0 hcz41_1 hcz41_2 hcz41_3 hcz41_4 hcz53_0 hcz53_1 hcz53_2 hcz53_3 hcz56_0 hcz56_1 hcz56_2 hcz56_3 hcz63_0 hcz63_1 hcz63_2 hcz63_3 hcz69_0 hcz69_1 hcz69_2 hcz69_3 hcz74_0 hcz74_1 hcz74_2 hcz74_3 hfz14_0 hfz14_1 hfz14_2 hfz14_3 hfz14_4 hfz32_0 hfz32_1 hfz32_2 hfz32_3 hfz32_4 hfz41_0 hfz41_1 hfz41_2 hfz41_3 hfz41_4 hfz53_0 hfz53_1 hfz53_2 hfz53_3 hfz56_0 hfz56_1 hfz56_2 hfz56_3 hfz63_0 hfz63_1 hfz63_2 hfz63_3 hfz69_0 hfz69_1 hfz69_2 hfz69_3 hfz74_0 hfz74_1 hfz74_2 hfz74_3 p2 p6
      obtain ⟨kq, x68_44, rfl, HA, HJ44, BK222, BK233, BK252, BK253, BK258, HB⟩ := hcut
      cases kq with
      |zero => exact absurd HA.out (by simp [sum_Add.j1])
      |succ kj44 =>
       have H := HA.out
       clear HA
       simp only [sum_Add.j1] at H
       by_cases c75 : x68_44 = true
       ·subst c75
        have H1 : ((sum_Nought.f a0 a1 t244 t248).bind fun t259 => (some (t259, false, false, false, false, false))) = some (r1, r2, r3, r4, r5, r6) := by rw [if_pos rfl] at H; exact H
        clear H
        have H := H1
        clear H1
        replace H := Option.bind_eq_some_iff.mp H
        obtain ⟨t259, A760, H⟩ := H
        replace H : (some (t259, false, false, false, false, false)) = some (r1, r2, r3, r4, r5, r6) := H
        have A76 := Aside0.mk A760
        clear A760
        simp only [Option.some.injEq, Prod.mk.injEq] at H
        obtain ⟨rfl, rfl, rfl, rfl, rfl, rfl⟩ := H
        have hnb77 := NB252_222.out
        have hnc77 := NB222_252.out
        have hnb78 := NB252_233.out
        have hnc78 := NB233_252.out
        have hnb79 := NB252_253.out
        have hnc79 := NB253_252.out
        have hnb80 := NB252_258.out
        have hnc80 := NB258_252.out
        have hcz81_0 : wc.cell? ⟨gb252, 0, none⟩ = some (.bool t244) := (blk_cell BK252.out 0).trans rfl
        have hcz81_1 : wc.cell? ⟨gb252, 1, none⟩ = some (.int .i64 t245) := (blk_cell BK252.out 1).trans rfl
        have hcz81_2 : wc.cell? ⟨gb252, 2, none⟩ = some (.int .u64 t246) := (blk_cell BK252.out 2).trans rfl
        have hcz81_3 : wc.cell? ⟨gb252, 3, none⟩ = some (.bool t247) := (blk_cell BK252.out 3).trans rfl
        have hfz81_0 := blk_frozen BK252.out 0
        have hfz81_1 := blk_frozen BK252.out 1
        have hfz81_2 := blk_frozen BK252.out 2
        have hfz81_3 := blk_frozen BK252.out 3
        have hnb82 := NB253_222.out
        have hnc82 := NB222_253.out
        have hnb83 := NB253_233.out
        have hnc83 := NB233_253.out
        have hnb84 := NB253_258.out
        have hnc84 := NB258_253.out
        have hcz85_0 : wc.cell? ⟨gb253, 0, none⟩ = some (.bool t248) := (blk_cell BK253.out 0).trans rfl
        have hcz85_1 : wc.cell? ⟨gb253, 1, none⟩ = some (.int .i64 t249) := (blk_cell BK253.out 1).trans rfl
        have hcz85_2 : wc.cell? ⟨gb253, 2, none⟩ = some (.int .u64 t250) := (blk_cell BK253.out 2).trans rfl
        have hcz85_3 : wc.cell? ⟨gb253, 3, none⟩ = some (.bool t251) := (blk_cell BK253.out 3).trans rfl
        have hfz85_0 := blk_frozen BK253.out 0
        have hfz85_1 := blk_frozen BK253.out 1
        have hfz85_2 := blk_frozen BK253.out 2
        have hfz85_3 := blk_frozen BK253.out 3
        go_wp2_with (first | ((with_reducible refine gate_callee (f := 37) rfl ?_); refine goesL_ (some 75) rfl rfl Try.func37 (by kernel_rfl) rfl #[.int .i64 a0, .int .i64 a1, .bool t244, .bool t248] rfl gl ?_; (with_reducible refine (sum_Nought.calls a0 a1 t244 t248 t259 _ A76.out).mono ?_); rintro e w' ⟨rfl, ⟨nd, rfl⟩⟩; refine ⟨_, rfl, ?_⟩; (try (rw [drewN_self wc]; generalize hq_ : World.drewN wc _ = wc; have n0_ : Aside0 (wc.heap[gb222]? = some (.cells #[.bool false, .bool false, .bool false, .bool false, .bool false] 27 (0, 0))) := ⟨by rw [← hq_]; exact (bv BK222.out)⟩; have n1_ : Aside0 (wc.heap[gb233]? = some (.cells #[.bool t227, .bool t228, .bool t229, .bool t230, .bool t231] 27 (0, 0))) := ⟨by rw [← hq_]; exact (bv BK233.out)⟩; have n2_ : Aside0 (wc.heap[gb252]? = some (.cells #[.bool t244, .int .i64 t245, .int .u64 t246, .bool t247] 56 (0, 0))) := ⟨by rw [← hq_]; exact (bv BK252.out)⟩; have n3_ : Aside0 (wc.heap[gb253]? = some (.cells #[.bool t248, .int .i64 t249, .int .u64 t250, .bool t251] 56 (0, 0))) := ⟨by rw [← hq_]; exact (bv BK253.out)⟩; have n4_ : Aside0 (wc.heap[gb258]? = some (.cells #[.bool t254, .int .i64 t255, .int .u64 t256, .bool t257] 56 (0, 0))) := ⟨by rw [← hq_]; exact (bv BK258.out)⟩; have n5_ : Aside0 (Below w.heap.size w wc) := ⟨by rw [← hq_]; exact (bl5 HB.out GE222.out GE233.out GE252.out GE253.out GE258.out)⟩; clear BK222 BK233 BK252 BK253 BK258 HB hq_; have BK222 := n0_; have BK233 := n1_; have BK252 := n2_; have BK253 := n3_; have BK258 := n4_; have HB := n5_; clear n0_ n1_ n2_ n3_ n4_ n5_)); have hnb86 := NB222_233.out; have hnc86 := NB233_222.out; have hnb87 := NB222_258.out; have hnc87 := NB258_222.out; obtain ⟨hcz88_0, hcz88_1, hcz88_2, hcz88_3, hcz88_4⟩ := bc5 BK222.out; obtain ⟨hfz88_0, hfz88_1, hfz88_2, hfz88_3, hfz88_4⟩ := bf5 BK222.out))
        refine bodyPost_ret (results_tc rfl _ _ gb222 27 #[.bool false, .bool false, .bool false, .bool false, .bool false] (0, 0) _ rfl (by (with_reducible repeat first | apply bd | apply be | apply ba); refine blk_put (cs := F5) ?_ 4 _ rfl; (with_reducible repeat first | apply bd | apply be | apply ba); refine blk_put (cs := F5) ?_ 3 _ rfl; (with_reducible repeat first | apply bd | apply be | apply ba); refine blk_put (cs := F5) ?_ 2 _ rfl; (with_reducible repeat first | apply bd | apply be | apply ba); refine blk_put (cs := F5) ?_ 1 _ rfl; (with_reducible repeat first | apply bd | apply be | apply ba); refine blk_put (cs := F5) ?_ 0 _ rfl; (with_reducible repeat first | apply bd | apply be | apply ba); exact BK222.out) Try.underlying27 rfl (by kernel_rfl)) rfl ?_
        exact ⟨by first | rfl | (simp [errW_none, errW_some] <;> rfl) | (simp [*, errW_none, errW_some] <;> rfl), bl5 HB.out GE222.out GE233.out GE252.out GE253.out GE258.out⟩
       ·replace c75 := Bool.eq_false_iff.mpr c75
        subst c75
        have H1 : ((round_Pack.f kj44 a0 a1 t254 t255 t256 t257).bind fun bt260 => (some (bt260.1, bt260.2.1, bt260.2.2.1, bt260.2.2.2.1, bt260.2.2.2.2.1, bt260.2.2.2.2.2))) = some (r1, r2, r3, r4, r5, r6) := by rw [if_neg (show ¬ (false = true) by decide)] at H; exact H
        clear H
        have H := H1
        clear H1
        replace H := Option.bind_eq_some_iff.mp H
        obtain ⟨⟨t260, t261, t262, t263, t264, t265⟩, A890, H⟩ := H
        replace H : (some (t260, t261, t262, t263, t264, t265)) = some (r1, r2, r3, r4, r5, r6) := H
        have A89 := Aside0.mk A890
        clear A890
        simp only [Option.some.injEq, Prod.mk.injEq] at H
        obtain ⟨rfl, rfl, rfl, rfl, rfl, rfl⟩ := H
        have hnb90 := NB258_222.out
        have hnc90 := NB222_258.out
        have hnb91 := NB258_233.out
        have hnc91 := NB233_258.out
        have hnb92 := NB258_252.out
        have hnc92 := NB252_258.out
        have hnb93 := NB258_253.out
        have hnc93 := NB253_258.out
        have hcz94_0 : wc.cell? ⟨gb258, 0, none⟩ = some (.bool t254) := (blk_cell BK258.out 0).trans rfl
        have hcz94_1 : wc.cell? ⟨gb258, 1, none⟩ = some (.int .i64 t255) := (blk_cell BK258.out 1).trans rfl
        have hcz94_2 : wc.cell? ⟨gb258, 2, none⟩ = some (.int .u64 t256) := (blk_cell BK258.out 2).trans rfl
        have hcz94_3 : wc.cell? ⟨gb258, 3, none⟩ = some (.bool t257) := (blk_cell BK258.out 3).trans rfl
        have hfz94_0 := blk_frozen BK258.out 0
        have hfz94_1 := blk_frozen BK258.out 1
        have hfz94_2 := blk_frozen BK258.out 2
        have hfz94_3 := blk_frozen BK258.out 3
        go_wp2_with (first | ((with_reducible refine gate_callee (f := 38) rfl ?_); refine goesL_ (some 87) rfl rfl Try.func38 (by kernel_rfl) rfl #[.int .i64 a0, .int .i64 a1, .bool t254, .int .i64 t255, .int .u64 t256, .bool t257] rfl gl ?_; (with_reducible refine (round_Pack.calls kj44 a0 a1 t254 t255 t256 t257 t260 t261 t262 t263 t264 t265 _ A89.out).mono ?_); rintro e w95 ⟨rfl, hb⟩; refine ⟨_, rfl, ?_⟩; have n0_ := Aside0.mk (blk_below (g := gb222) (o := .cells #[.bool false, .bool false, .bool false, .bool false, .bool false] 27 (0, 0)) (bv BK222.out) hb); have n1_ := Aside0.mk (blk_below (g := gb233) (o := .cells #[.bool t227, .bool t228, .bool t229, .bool t230, .bool t231] 27 (0, 0)) (bv BK233.out) hb); have n2_ := Aside0.mk (blk_below (g := gb252) (o := .cells #[.bool t244, .int .i64 t245, .int .u64 t246, .bool t247] 56 (0, 0)) (bv BK252.out) hb); have n3_ := Aside0.mk (blk_below (g := gb253) (o := .cells #[.bool t248, .int .i64 t249, .int .u64 t250, .bool t251] 56 (0, 0)) (bv BK253.out) hb); have n4_ := Aside0.mk (blk_below (g := gb258) (o := .cells #[.bool t254, .int .i64 t255, .int .u64 t256, .bool t257] 56 (0, 0)) (bv BK258.out) hb); have n5_ := Aside0.mk (below_step (bl5 HB.out GE222.out GE233.out GE252.out GE253.out GE258.out) hb); clear BK222; clear BK233; clear BK252; clear BK253; clear BK258; clear HB; have BK222 := n0_; have BK233 := n1_; have BK252 := n2_; have BK253 := n3_; have BK258 := n4_; have HB := n5_; clear n0_ n1_ n2_ n3_ n4_ n5_; have hnb96 := NB222_233.out; have hnc96 := NB233_222.out; have hnb97 := NB222_252.out; have hnc97 := NB252_222.out; have hnb98 := NB222_253.out; have hnc98 := NB253_222.out; obtain ⟨hcz99_0, hcz99_1, hcz99_2, hcz99_3, hcz99_4⟩ := bc5 BK222.out; obtain ⟨hfz99_0, hfz99_1, hfz99_2, hfz99_3, hfz99_4⟩ := bf5 BK222.out))
        refine bodyPost_ret (results_tc rfl _ _ gb222 27 #[.bool t261, .bool t262, .bool t263, .bool t264, .bool t265] (0, 0) _ rfl (by (with_reducible repeat first | apply bd | apply be | apply ba); refine blk_put (cs := #[.bool t261, .bool t262, .bool t263, .bool t264, .bool false]) ?_ 4 _ rfl; (with_reducible repeat first | apply bd | apply be | apply ba); refine blk_put (cs := #[.bool t261, .bool t262, .bool t263, .bool false, .bool false]) ?_ 3 _ rfl; (with_reducible repeat first | apply bd | apply be | apply ba); refine blk_put (cs := #[.bool t261, .bool t262, .bool false, .bool false, .bool false]) ?_ 2 _ rfl; (with_reducible repeat first | apply bd | apply be | apply ba); refine blk_put (cs := #[.bool t261, .bool false, .bool false, .bool false, .bool false]) ?_ 1 _ rfl; (with_reducible repeat first | apply bd | apply be | apply ba); refine blk_put (cs := F5) ?_ 0 _ rfl; (with_reducible repeat first | apply bd | apply be | apply ba); exact BK222.out) Try.underlying27 rfl (by kernel_rfl)) rfl ?_
        exact ⟨by first | rfl | (simp [errW_none, errW_some] <;> rfl) | (simp [*, errW_none, errW_some] <;> rfl), bl5 HB.out GE222.out GE233.out GE252.out GE253.out GE258.out⟩

end Go.Proofs.Ytlkjoibpfhjhcaa.P
