import Derived.Test.YtejkemahdincjaaQstZ
import Derived.Test.YtejkemahdincjaaQstM1
import Derived.Test.YtejkemahdincjaaQstWMore
import Derived.Test.YtejkemahdincjaaQstWTab
import Derived.Test.YtejkemahdincjaaQstWEqStruct
import Derived.ChangeKeysEq
-- Printed by a program of this session's out of Lean's print of the translation; Lean checks it.
set_option linter.unusedVariables false
set_option linter.unusedSimpArgs false
namespace Go.Proofs.Ytejkemahdincjaa.P
open Go.RowKit Go.Proofs.YtejkemahdincjaaW.PrintWords Go.Proofs.YtejkemahdincjaaW.PrintLast Go.Proofs.YtejkemahdincjaaW.PrintMore
attribute [local go_sem] max2_int min2_int max_two min_two max_three min_three max_four min_four

-- NEED 0
/-! ### sum_full: function 53 -/
def sum_full.f (k : Nat) (a0_0 : Bool) (a0_1 : Int) (a0_2 : Int) (a0_3 : Bool) : Option (Bool × Int × Int × Bool) := (bits_Len.f k a0_2).bind fun t156 => ((bits_Shift.f k a0_2 (wrap64 (-(wrap64 (62 - t156))))).bind fun bt157 => (some (a0_0, wrap64 (a0_1 - (wrap64 (62 - t156))), bt157.1, a0_3)))
theorem sum_full.mono : ∀ a0 a1 a2 a3 k, LeO (sum_full.f k a0 a1 a2 a3) (sum_full.f (k + 1) a0 a1 a2 a3) := by
 intro a0 a1 a2 a3 k
 unfold sum_full.f
 repeat' first
   |(with_reducible exact bits_Len.mono _ _)
   |(with_reducible exact bits_Shift.mono _ _ _)
   |(with_reducible exact LeO.refl _)
   |(with_reducible exact LeO.none _)
   |(with_reducible refine LeO.ite ?_ ?_)
   |(with_reducible refine LeO.bind ?_ (fun _ => ?_))
   |exact bits_Len.mono _ _
   |exact bits_Shift.mono _ _ _
   |exact LeO.none _
   |refine LeO.ite ?_ ?_
   |refine LeO.bind ?_ (fun _ => ?_)
set_option maxHeartbeats 8000000 in
set_option maxRecDepth 100000 in
theorem sum_full.calls (k : Nat) (a0_0 : Bool) (a0_1 : Int) (a0_2 : Int) (a0_3 : Bool) (r1 : Bool) (r2 : Int) (r3 : Int) (r4 : Bool) (w : World) (h : sum_full.f k a0_0 a0_1 a0_2 a0_3 = some (r1, r2, r3, r4)) :
  Calls Try.prog 53 #[.agg #[.bool a0_0, .int .i64 a0_1, .int .u64 a0_2, .bool a0_3]] w fun e w' => e = .returned (.agg #[.bool r1, .int .i64 r2, .int .u64 r3, .bool r4]) ∧ Below w.heap.size w w' := by
 have hu52 := Try.underlying52
 have HB := Aside0.mk (Below.refl w.heap.size w)
 have H : ((bits_Len.f k a0_2).bind fun t156 => ((bits_Shift.f k a0_2 (wrap64 (-(wrap64 (62 - t156))))).bind fun bt157 => (some (a0_0, wrap64 (a0_1 - (wrap64 (62 - t156))), bt157.1, a0_3)))) = some (r1, r2, r3, r4) := h
 clear h
 replace H := Option.bind_eq_some_iff.mp H
 obtain ⟨t156, A20, H⟩ := H
 replace H : ((bits_Shift.f k a0_2 (wrap64 (-(wrap64 (62 - t156))))).bind fun bt157 => (some (a0_0, wrap64 (a0_1 - (wrap64 (62 - t156))), bt157.1, a0_3))) = some (r1, r2, r3, r4) := H
 have A2 := Aside0.mk A20
 clear A20
 replace H := Option.bind_eq_some_iff.mp H
 obtain ⟨⟨t157, t158⟩, A30, H⟩ := H
 replace H : (some (a0_0, wrap64 (a0_1 - (wrap64 (62 - t156))), t157, a0_3)) = some (r1, r2, r3, r4) := H
 have A3 := Aside0.mk A30
 clear A30
 simp only [Option.some.injEq, Prod.mk.injEq] at H
 obtain ⟨rfl, rfl, rfl, rfl⟩ := H
 go_enter Try.func53, Try.ntmps53
 go_wp2_with (first | ((with_reducible refine gate_dst (N := 1) rfl ?_); refine box_event ?hg (N := 1) ?hd (cs := #[.bool a0_0, .int .i64 a0_1, .int .u64 a0_2, .bool a0_3]) (t := 52) ?hr ?_; (case hd => rfl); (case hg => rfl); (case hr => first | (go_simp; done) | (go_simp; rfl)); intro gb154 hg w4 hbox hb; have n0_ := Aside0.mk (below_step (bl0 HB.out) hb); have n1_ := Aside0.mk (hbox); have n2_ := Aside0.mk ((by rw [hg]; exact (below_size (bl0 HB.out)) : w.heap.size ≤ gb154)); have n3_ := n2_; clear HB; have HB := n0_; have BK154 := n1_; have GW154 := n2_; have GE154 := n3_; clear n0_ n1_ n2_ n3_; clear hb hbox hg) | ((with_reducible refine gate_dst (N := 2) rfl ?_); refine box_event ?hg (N := 2) ?hd (cs := #[.bool false, .int .i64 0, .int .u64 0, .bool false]) (t := 52) ?hr ?_; (case hd => rfl); (case hg => rfl); (case hr => first | (go_simp; done) | (go_simp; rfl)); intro gb155 hg w5 hbox hb; have n0_ := Aside0.mk (blk_below (g := gb154) (o := .cells #[.bool a0_0, .int .i64 a0_1, .int .u64 a0_2, .bool a0_3] 52 (0, 0)) (bv BK154.out) hb); have n1_ := Aside0.mk (below_step (bl1 HB.out GE154.out) hb); have n2_ := Aside0.mk (hbox); have n3_ := Aside0.mk ((by rw [hg]; exact (below_size (bl1 HB.out GE154.out)) : w.heap.size ≤ gb155)); have n4_ := n3_; have n5_ := Aside0.mk ((by rw [hg]; exact Nat.ne_of_lt (blk_lt (g := gb154) (o := .cells #[.bool a0_0, .int .i64 a0_1, .int .u64 a0_2, .bool a0_3] 52 (0, 0)) (bv BK154.out)) : gb154 ≠ gb155)); have n6_ := Aside0.mk (Ne.symm n5_.out); clear BK154; clear HB; have BK154 := n0_; have HB := n1_; have BK155 := n2_; have GW155 := n3_; have GE155 := n4_; have NB154_155 := n5_; have NB155_154 := n6_; clear n0_ n1_ n2_ n3_ n4_ n5_ n6_; clear hb hbox hg; have hnb6 := NB154_155.out; have hnc6 := NB155_154.out; obtain ⟨hcz7_0, hcz7_1, hcz7_2, hcz7_3⟩ := bc4 BK154.out; obtain ⟨hfz7_0, hfz7_1, hfz7_2, hfz7_3⟩ := bf4 BK154.out) | ((with_reducible refine gate_callee (f := 63) rfl ?_); refine goesL_ (some 6) rfl rfl Try.func63 (by kernel_rfl) rfl #[.int .u64 a0_2] rfl gl ?_; (with_reducible refine (bits_Len.calls k a0_2 t156 _ A2.out).mono ?_); rintro e w' ⟨rfl, ⟨nd, rfl⟩⟩; refine ⟨_, rfl, ?_⟩; (try (rw [drewN_self w5]; generalize hq_ : World.drewN w5 _ = w5; have n0_ : Aside0 (w5.heap[gb154]? = some (.cells #[.bool a0_0, .int .i64 a0_1, .int .u64 a0_2, .bool a0_3] 52 (0, 0))) := ⟨by rw [← hq_]; exact (bv BK154.out)⟩; have n1_ : Aside0 (w5.heap[gb155]? = some (.cells #[.bool false, .int .i64 0, .int .u64 0, .bool false] 52 (0, 0))) := ⟨by rw [← hq_]; exact (bv BK155.out)⟩; have n2_ : Aside0 (Below w.heap.size w w5) := ⟨by rw [← hq_]; exact (bl2 HB.out GE154.out GE155.out)⟩; clear BK154 BK155 HB hq_; have BK154 := n0_; have BK155 := n1_; have HB := n2_; clear n0_ n1_ n2_)); obtain ⟨hcz8_0, hcz8_1, hcz8_2, hcz8_3⟩ := bc4 BK154.out; obtain ⟨hfz8_0, hfz8_1, hfz8_2, hfz8_3⟩ := bf4 BK154.out) | ((with_reducible refine gate_callee (f := 54) rfl ?_); refine goesL_ (some 13) rfl rfl Try.func54 (by kernel_rfl) rfl #[.int .u64 a0_2, .int .i64 (wrap64 (-(wrap64 (62 - t156))))] rfl gl ?_; (with_reducible refine (bits_Shift.calls k a0_2 (wrap64 (-(wrap64 (62 - t156)))) t157 t158 _ A3.out).mono ?_); rintro e w' ⟨rfl, ⟨nd, rfl⟩⟩; refine ⟨_, rfl, ?_⟩; (try (rw [drewN_self w5]; generalize hq_ : World.drewN w5 _ = w5; have n0_ : Aside0 (w5.heap[gb154]? = some (.cells #[.bool a0_0, .int .i64 a0_1, .int .u64 a0_2, .bool a0_3] 52 (0, 0))) := ⟨by rw [← hq_]; exact (bv BK154.out)⟩; have n1_ : Aside0 (w5.heap[gb155]? = some (.cells #[.bool false, .int .i64 0, .int .u64 0, .bool false] 52 (0, 0))) := ⟨by rw [← hq_]; exact (bv BK155.out)⟩; have n2_ : Aside0 (Below w.heap.size w w5) := ⟨by rw [← hq_]; exact (bl2 HB.out GE154.out GE155.out)⟩; clear BK154 BK155 HB hq_; have BK154 := n0_; have BK155 := n1_; have HB := n2_; clear n0_ n1_ n2_)); obtain ⟨hcz9_0, hcz9_1, hcz9_2, hcz9_3⟩ := bc4 BK154.out; obtain ⟨hfz9_0, hfz9_1, hfz9_2, hfz9_3⟩ := bf4 BK154.out; obtain ⟨hcz10_0, hcz10_1, hcz10_2, hcz10_3⟩ := bc4 BK155.out; obtain ⟨hfz10_0, hfz10_1, hfz10_2, hfz10_3⟩ := bf4 BK155.out))
 refine bodyPost_ret (results_cell_row rfl _ _ gb155 52 #[.bool a0_0, .int .i64 (wrap64 (a0_1 - (wrap64 (62 - t156)))), .int .u64 t157, .bool a0_3] (0, 0) _ rfl (by (with_reducible repeat first | apply bd | apply be | apply ba); refine blk_put (cs := #[.bool a0_0, .int .i64 (wrap64 (a0_1 - (wrap64 (62 - t156)))), .int .u64 t157, .bool false]) ?_ 3 _ rfl; (with_reducible repeat first | apply bd | apply be | apply ba); refine blk_put (cs := #[.bool a0_0, .int .i64 (wrap64 (a0_1 - (wrap64 (62 - t156)))), .int .u64 0, .bool false]) ?_ 2 _ rfl; (with_reducible repeat first | apply bd | apply be | apply ba); refine blk_put (cs := #[.bool a0_0, .int .i64 0, .int .u64 0, .bool false]) ?_ 1 _ rfl; (with_reducible repeat first | apply bd | apply be | apply ba); refine blk_put (cs := #[.bool false, .int .i64 0, .int .u64 0, .bool false]) ?_ 0 _ rfl; (with_reducible repeat first | apply bd | apply be | apply ba); refine blk_far ?_ NB155_154.out _; (with_reducible repeat first | apply bd | apply be | apply ba); refine blk_far ?_ NB155_154.out _; (with_reducible repeat first | apply bd | apply be | apply ba); exact BK155.out) Try.underlying52 rfl (by kernel_rfl)) rfl ?_
 exact ⟨by first | rfl | (simp [errW_none, errW_some] <;> rfl) | (simp [*, errW_none, errW_some] <;> rfl), bl2 HB.out GE154.out GE155.out⟩

-- NEED 0
/-! ### sum_Exact: function 30 -/
mutual
def sum_Exact.j0 : Nat → Bool → Bool → Int → Int → Bool → Bool → Int → Int → Bool → Option (Bool × Int × Int × Bool)
 |0, _, _, _, _, _, _, _, _, _ => none
 |k + 1, x39, x160000, x160001, x160002, x160003, x161000, x161001, x161002, x161003 => if x39 = true then (sum_Exact.j1 k x161000 x161001 x161002 x161003 x160000 x160001 x160002 x160003) else (sum_Exact.j1 k x160000 x160001 x160002 x160003 x161000 x161001 x161002 x161003)
def sum_Exact.j1 : Nat → Bool → Int → Int → Bool → Bool → Int → Int → Bool → Option (Bool × Int × Int × Bool)
 |0, _, _, _, _, _, _, _, _ => none
 |k + 1, x160000, x160001, x160002, x160003, x161000, x161001, x161002, x161003 => (bits_Shift.f k x161002 (wrap64 (x160001 - x161001))).bind fun bt170 => (if (x160000 == x161000) = true then (some (x160000, x160001, IntKind.u64.wrap (x160002 + bt170.1), bt170.2)) else (if bt170.2 = true then (sum_Exact.j2 k x160000 x160001 (IntKind.u64.wrap ((IntKind.u64.wrap (x160002 - bt170.1)) - 1)) bt170.2) else (sum_Exact.j2 k x160000 x160001 (IntKind.u64.wrap (x160002 - bt170.1)) bt170.2)))
def sum_Exact.j2 : Nat → Bool → Int → Int → Bool → Option (Bool × Int × Int × Bool)
 |0, _, _, _, _ => none
 |k + 1, x160000, x160001, x160002, x160003 => some (x160000, x160001, x160002, x160003)
end
def sum_Exact.f (k : Nat) (a0_0 : Bool) (a0_1 : Int) (a0_2 : Int) (a0_3 : Bool) (a1_0 : Bool) (a1_1 : Int) (a1_2 : Int) (a1_3 : Bool) : Option (Bool × Int × Int × Bool) := if a0_2 = 0 then (some (a1_0, a1_1, a1_2, a1_3)) else (if a1_2 = 0 then (some (a0_0, a0_1, a0_2, a0_3)) else ((sum_full.f k a0_0 a0_1 a0_2 a0_3).bind fun bt162 => ((sum_full.f k a1_0 a1_1 a1_2 a1_3).bind fun bt166 => (if bt162.2.1 < bt166.2.1 then (sum_Exact.j0 k true bt162.1 bt162.2.1 bt162.2.2.1 bt162.2.2.2 bt166.1 bt166.2.1 bt166.2.2.1 bt166.2.2.2) else (if bt162.2.1 = bt166.2.1 then (sum_Exact.j0 k (decide (bt162.2.2.1 < bt166.2.2.1)) bt162.1 bt162.2.1 bt162.2.2.1 bt162.2.2.2 bt166.1 bt166.2.1 bt166.2.2.1 bt166.2.2.2) else (sum_Exact.j0 k false bt162.1 bt162.2.1 bt162.2.2.1 bt162.2.2.2 bt166.1 bt166.2.1 bt166.2.2.1 bt166.2.2.2))))))
theorem sum_Exact.mono_l : ∀ k, (∀ y0 y1 y2 y3 y4 y5 y6 y7 y8, LeO (sum_Exact.j0 k y0 y1 y2 y3 y4 y5 y6 y7 y8) (sum_Exact.j0 (k + 1) y0 y1 y2 y3 y4 y5 y6 y7 y8)) ∧ (∀ y0 y1 y2 y3 y4 y5 y6 y7, LeO (sum_Exact.j1 k y0 y1 y2 y3 y4 y5 y6 y7) (sum_Exact.j1 (k + 1) y0 y1 y2 y3 y4 y5 y6 y7)) ∧ (∀ y0 y1 y2 y3, LeO (sum_Exact.j2 k y0 y1 y2 y3) (sum_Exact.j2 (k + 1) y0 y1 y2 y3))
 |0 => ⟨fun _ _ _ _ _ _ _ _ _ r h => by simp [sum_Exact.j0] at h, fun _ _ _ _ _ _ _ _ r h => by simp [sum_Exact.j1] at h, fun _ _ _ _ r h => by simp [sum_Exact.j2] at h⟩
 |k + 1 => by
  obtain ⟨ih0, ih1, ih2⟩ := sum_Exact.mono_l k
  refine ⟨?_, ?_, ?_⟩
  ·intro y0 y1 y2 y3 y4 y5 y6 y7 y8
   unfold sum_Exact.j0
   repeat' first
   |(with_reducible exact ih0 _ _ _ _ _ _ _ _ _)
   |(with_reducible exact ih1 _ _ _ _ _ _ _ _)
   |(with_reducible exact ih2 _ _ _ _)
   |(with_reducible exact bits_Shift.mono _ _ _)
   |(with_reducible exact sum_full.mono _ _ _ _ _)
   |(with_reducible exact LeO.refl _)
   |(with_reducible exact LeO.none _)
   |(with_reducible refine LeO.ite ?_ ?_)
   |(with_reducible refine LeO.bind ?_ (fun _ => ?_))
   |exact ih0 _ _ _ _ _ _ _ _ _
   |exact ih1 _ _ _ _ _ _ _ _
   |exact ih2 _ _ _ _
   |exact bits_Shift.mono _ _ _
   |exact sum_full.mono _ _ _ _ _
   |exact LeO.none _
   |refine LeO.ite ?_ ?_
   |refine LeO.bind ?_ (fun _ => ?_)
  ·intro y0 y1 y2 y3 y4 y5 y6 y7
   unfold sum_Exact.j1
   repeat' first
   |(with_reducible exact ih0 _ _ _ _ _ _ _ _ _)
   |(with_reducible exact ih1 _ _ _ _ _ _ _ _)
   |(with_reducible exact ih2 _ _ _ _)
   |(with_reducible exact bits_Shift.mono _ _ _)
   |(with_reducible exact sum_full.mono _ _ _ _ _)
   |(with_reducible exact LeO.refl _)
   |(with_reducible exact LeO.none _)
   |(with_reducible refine LeO.ite ?_ ?_)
   |(with_reducible refine LeO.bind ?_ (fun _ => ?_))
   |exact ih0 _ _ _ _ _ _ _ _ _
   |exact ih1 _ _ _ _ _ _ _ _
   |exact ih2 _ _ _ _
   |exact bits_Shift.mono _ _ _
   |exact sum_full.mono _ _ _ _ _
   |exact LeO.none _
   |refine LeO.ite ?_ ?_
   |refine LeO.bind ?_ (fun _ => ?_)
  ·intro y0 y1 y2 y3
   unfold sum_Exact.j2
   repeat' first
   |(with_reducible exact ih0 _ _ _ _ _ _ _ _ _)
   |(with_reducible exact ih1 _ _ _ _ _ _ _ _)
   |(with_reducible exact ih2 _ _ _ _)
   |(with_reducible exact bits_Shift.mono _ _ _)
   |(with_reducible exact sum_full.mono _ _ _ _ _)
   |(with_reducible exact LeO.refl _)
   |(with_reducible exact LeO.none _)
   |(with_reducible refine LeO.ite ?_ ?_)
   |(with_reducible refine LeO.bind ?_ (fun _ => ?_))
   |exact ih0 _ _ _ _ _ _ _ _ _
   |exact ih1 _ _ _ _ _ _ _ _
   |exact ih2 _ _ _ _
   |exact bits_Shift.mono _ _ _
   |exact sum_full.mono _ _ _ _ _
   |exact LeO.none _
   |refine LeO.ite ?_ ?_
   |refine LeO.bind ?_ (fun _ => ?_)
theorem sum_Exact.mono : ∀ a0 a1 a2 a3 a4 a5 a6 a7 k, LeO (sum_Exact.f k a0 a1 a2 a3 a4 a5 a6 a7) (sum_Exact.f (k + 1) a0 a1 a2 a3 a4 a5 a6 a7) := by
 intro a0 a1 a2 a3 a4 a5 a6 a7 k
 obtain ⟨ih0, ih1, ih2⟩ := sum_Exact.mono_l k
 unfold sum_Exact.f
 repeat' first
   |(with_reducible exact ih0 _ _ _ _ _ _ _ _ _)
   |(with_reducible exact ih1 _ _ _ _ _ _ _ _)
   |(with_reducible exact ih2 _ _ _ _)
   |(with_reducible exact bits_Shift.mono _ _ _)
   |(with_reducible exact sum_full.mono _ _ _ _ _)
   |(with_reducible exact LeO.refl _)
   |(with_reducible exact LeO.none _)
   |(with_reducible refine LeO.ite ?_ ?_)
   |(with_reducible refine LeO.bind ?_ (fun _ => ?_))
   |exact ih0 _ _ _ _ _ _ _ _ _
   |exact ih1 _ _ _ _ _ _ _ _
   |exact ih2 _ _ _ _
   |exact bits_Shift.mono _ _ _
   |exact sum_full.mono _ _ _ _ _
   |exact LeO.none _
   |refine LeO.ite ?_ ?_
   |refine LeO.bind ?_ (fun _ => ?_)

-- NEED 0
/-! ### format_Zero: function 55 -/
def format_Zero.f (a0 : Int) (a1 : Bool) : Option (Int) := (format_Join.f a0 a1 0 0).bind fun t172 => (some t172)
set_option maxHeartbeats 8000000 in
set_option maxRecDepth 100000 in
theorem format_Zero.calls (a0 : Int) (a1 : Bool) (r : Int) (w : World) (h : format_Zero.f a0 a1 = some r) :
  Calls Try.prog 55 #[.int .i64 a0, .bool a1] w fun e w' => e = .returned (.int .u32 r) ∧ Drawn0 w w' := by
 have H : ((format_Join.f a0 a1 0 0).bind fun t172 => (some t172)) = some r := h
 clear h
 replace H := Option.bind_eq_some_iff.mp H
 obtain ⟨t172, A30, H⟩ := H
 replace H : (some t172) = some r := H
 have A3 := Aside0.mk A30
 clear A30
 obtain rfl := Option.some.inj H
 go_enter Try.func55, Try.ntmps55
 go_wp2_with (first | ((with_reducible refine gate_callee (f := 64) rfl ?_); refine goesL_ (some 7) rfl rfl Try.func64 (by kernel_rfl) rfl #[.int .i64 a0, .bool a1, .int .i64 0, .int .u32 0] rfl gl ?_; (with_reducible refine (format_Join.calls a0 a1 0 0 t172 _ A3.out).mono ?_); rintro e w' ⟨rfl, ⟨nd, rfl⟩⟩; refine ⟨_, rfl, ?_⟩))
 go_ret
 exact ⟨by first | rfl | (simp; done) | (simp [*]; done) | (congr 1; (try unfold wrap64); omega) | (congr 1; rw [IntKind.wrap_u64]; omega), by repeat (first | exact Drawn0.refl _ | apply Drawn0.step)⟩

-- NEED 0
/-! ### sum_Nought: function 31 -/
def sum_Nought.f (a0 : Int) (a1 : Int) (a2 : Bool) (a3 : Bool) : Option (Int) := if (a2 == a3) = true then ((format_Zero.f a0 a2).bind fun t173 => (some t173)) else ((format_Zero.f a0 (a1 == 3)).bind fun t174 => (some t174))
set_option maxHeartbeats 8000000 in
set_option maxRecDepth 100000 in
theorem sum_Nought.calls (a0 : Int) (a1 : Int) (a2 : Bool) (a3 : Bool) (r : Int) (w : World) (h : sum_Nought.f a0 a1 a2 a3 = some r) :
  Calls Try.prog 31 #[.int .i64 a0, .int .i64 a1, .bool a2, .bool a3] w fun e w' => e = .returned (.int .u32 r) ∧ Drawn0 w w' := by
 have H : (if (a2 == a3) = true then ((format_Zero.f a0 a2).bind fun t173 => (some t173)) else ((format_Zero.f a0 (a1 == 3)).bind fun t174 => (some t174))) = some r := h
 clear h
 by_cases c5 : (a2 == a3) = true
 ·rw [if_pos c5] at H
  have c5b0 : (a2 == a3) = true := c5
  (try (have c5b1 : decide (a2 = a3) = true := by simpa using c5))
  (try (have c5b2 : (a2 == a3) = true := by simpa using c5))
  clear c5
  replace H := Option.bind_eq_some_iff.mp H
  obtain ⟨t173, A60, H⟩ := H
  replace H : (some t173) = some r := H
  have A6 := Aside0.mk A60
  clear A60
  obtain rfl := Option.some.inj H
  go_enter Try.func31, Try.ntmps31
  go_wp2_with (first | ((with_reducible refine gate_callee (f := 55) rfl ?_); refine goesL_ (some 14) rfl rfl Try.func55 (by kernel_rfl) rfl #[.int .i64 a0, .bool a2] rfl gl ?_; (with_reducible refine (format_Zero.calls a0 a2 t173 _ A6.out).mono ?_); rintro e w' ⟨rfl, ⟨nd, rfl⟩⟩; refine ⟨_, rfl, ?_⟩))
  go_ret
  exact ⟨by first | rfl | (simp; done) | (simp [*]; done) | (congr 1; (try unfold wrap64); omega) | (congr 1; rw [IntKind.wrap_u64]; omega), by repeat (first | exact Drawn0.refl _ | apply Drawn0.step)⟩
 ·rw [if_neg c5] at H
  have c5b0 : (a2 == a3) = false := by simpa using c5
  (try (have c5b1 : decide (a2 = a3) = false := by simpa using c5))
  (try (have c5b2 : (a2 == a3) = false := by simpa using c5))
  (try (have c5b3 : ¬ (a2 = a3) := by simpa using c5))
  clear c5
  replace H := Option.bind_eq_some_iff.mp H
  obtain ⟨t174, A70, H⟩ := H
  replace H : (some t174) = some r := H
  have A7 := Aside0.mk A70
  clear A70
  obtain rfl := Option.some.inj H
  go_enter Try.func31, Try.ntmps31
  go_wp2_with (first | ((with_reducible refine gate_callee (f := 55) rfl ?_); refine goesL_ (some 18) rfl rfl Try.func55 (by kernel_rfl) rfl #[.int .i64 a0, .bool (a1 == 3)] rfl gl ?_; (with_reducible refine (format_Zero.calls a0 (a1 == 3) t174 _ A7.out).mono ?_); rintro e w' ⟨rfl, ⟨nd, rfl⟩⟩; refine ⟨_, rfl, ?_⟩))
  go_ret
  exact ⟨by first | rfl | (simp; done) | (simp [*]; done) | (congr 1; (try unfold wrap64); omega) | (congr 1; rw [IntKind.wrap_u64]; omega), by repeat (first | exact Drawn0.refl _ | apply Drawn0.step)⟩

-- NEED 0
/-! ### round_Unit: function 57 -/
def round_Unit.f (k : Nat) (a0 : Int) (a1 : Int) (a2 : Int) : Option (Int) := (format_Widths.f a0).bind fun bt175 => ((format_Least.f a0).bind fun t177 => (if a2 > 0 then ((bits_Len.f k a2).bind fun t178 => (some (wrap64 ((mx t177 (wrap64 ((wrap64 (a1 + t178)) - 1))) - bt175.2)))) else (some (wrap64 (t177 - bt175.2)))))
theorem round_Unit.mono : ∀ a0 a1 a2 k, LeO (round_Unit.f k a0 a1 a2) (round_Unit.f (k + 1) a0 a1 a2) := by
 intro a0 a1 a2 k
 unfold round_Unit.f
 repeat' first
   |(with_reducible exact bits_Len.mono _ _)
   |(with_reducible exact LeO.refl _)
   |(with_reducible exact LeO.none _)
   |(with_reducible refine LeO.ite ?_ ?_)
   |(with_reducible refine LeO.bind ?_ (fun _ => ?_))
   |exact bits_Len.mono _ _
   |exact LeO.none _
   |refine LeO.ite ?_ ?_
   |refine LeO.bind ?_ (fun _ => ?_)
set_option maxHeartbeats 8000000 in
set_option maxRecDepth 100000 in
theorem round_Unit.calls (k : Nat) (a0 : Int) (a1 : Int) (a2 : Int) (r : Int) (w : World) (h : round_Unit.f k a0 a1 a2 = some r) :
  Calls Try.prog 57 #[.int .i64 a0, .int .i64 a1, .int .u64 a2] w fun e w' => e = .returned (.int .i64 r) ∧ Below w.heap.size w w' := by
 have HB := Aside0.mk (Below.refl w.heap.size w)
 have H : ((format_Widths.f a0).bind fun bt175 => ((format_Least.f a0).bind fun t177 => (if a2 > 0 then ((bits_Len.f k a2).bind fun t178 => (some (wrap64 ((mx t177 (wrap64 ((wrap64 (a1 + t178)) - 1))) - bt175.2)))) else (some (wrap64 (t177 - bt175.2)))))) = some r := h
 clear h
 replace H := Option.bind_eq_some_iff.mp H
 obtain ⟨⟨t175, t176⟩, A40, H⟩ := H
 replace H : ((format_Least.f a0).bind fun t177 => (if a2 > 0 then ((bits_Len.f k a2).bind fun t178 => (some (wrap64 ((mx t177 (wrap64 ((wrap64 (a1 + t178)) - 1))) - t176)))) else (some (wrap64 (t177 - t176))))) = some r := H
 have A4 := Aside0.mk A40
 clear A40
 replace H := Option.bind_eq_some_iff.mp H
 obtain ⟨t177, A50, H⟩ := H
 replace H : (if a2 > 0 then ((bits_Len.f k a2).bind fun t178 => (some (wrap64 ((mx t177 (wrap64 ((wrap64 (a1 + t178)) - 1))) - t176)))) else (some (wrap64 (t177 - t176)))) = some r := H
 have A5 := Aside0.mk A50
 clear A50
 by_cases c6 : a2 > 0
 ·rw [if_pos c6] at H
  have c6b0 : decide (0 < a2) = true := decide_eq_true c6
  clear c6
  replace H := Option.bind_eq_some_iff.mp H
  obtain ⟨t178, A70, H⟩ := H
  replace H : (some (wrap64 ((mx t177 (wrap64 ((wrap64 (a1 + t178)) - 1))) - t176))) = some r := H
  have A7 := Aside0.mk A70
  clear A70
  obtain ⟨ji8, hji8⟩ : ∃ j_ : Int, (mx t177 (wrap64 ((wrap64 (a1 + t178)) - 1))) = j_ := ⟨_, rfl⟩
  replace H : (some (wrap64 ((ji8) - t176))) = some r := by first | (rw [hji8] at H; exact H) | (simp only [hji8] at H ⊢; exact H)
  (try rw [hji8] at A4)
  (try rw [hji8] at A5)
  (try rw [hji8] at A7)
  have hji8_ : (if t177 < (wrap64 ((wrap64 (a1 + t178)) - 1)) then (wrap64 ((wrap64 (a1 + t178)) - 1)) else t177) = ji8 := hji8
  obtain rfl := Option.some.inj H
  go_enter Try.func57, Try.ntmps57
  go_wp2_with (first | ((with_reducible refine gate_callee (f := 56) rfl ?_); refine goesL_ (some 12) rfl rfl Try.func56 (by kernel_rfl) rfl #[.int .i64 a0] rfl gl ?_; (with_reducible refine (format_Widths.calls a0 t175 t176 _ A4.out).mono ?_); rintro e w' ⟨rfl, ⟨nd, rfl⟩⟩; refine ⟨_, rfl, ?_⟩) | ((with_reducible refine gate_callee (f := 60) rfl ?_); refine goesL_ (some 16) rfl rfl Try.func60 (by kernel_rfl) rfl #[.int .i64 a0] rfl gl ?_; (with_reducible refine (format_Least.calls a0 t177 _ A5.out).mono ?_); rintro e w' ⟨rfl, ⟨nd, rfl⟩⟩; refine ⟨_, rfl, ?_⟩) | ((with_reducible refine gate_callee (f := 63) rfl ?_); refine goesL_ (some 22) rfl rfl Try.func63 (by kernel_rfl) rfl #[.int .u64 a2] rfl gl ?_; (with_reducible refine (bits_Len.calls k a2 t178 _ A7.out).mono ?_); rintro e w' ⟨rfl, ⟨nd, rfl⟩⟩; refine ⟨_, rfl, ?_⟩))
  go_ret
  exact ⟨by first | rfl | (simp [errW_none, errW_some] <;> rfl) | (simp only [← hji8]; first | rfl | (simp [errW_none, errW_some] <;> rfl)) | (simp [*, errW_none, errW_some] <;> rfl), bl0 HB.out⟩
 ·rw [if_neg c6] at H
  have c6b0 : decide (0 < a2) = false := decide_eq_false c6
  clear c6
  obtain rfl := Option.some.inj H
  go_enter Try.func57, Try.ntmps57
  go_wp2_with (first | ((with_reducible refine gate_callee (f := 56) rfl ?_); refine goesL_ (some 12) rfl rfl Try.func56 (by kernel_rfl) rfl #[.int .i64 a0] rfl gl ?_; (with_reducible refine (format_Widths.calls a0 t175 t176 _ A4.out).mono ?_); rintro e w' ⟨rfl, ⟨nd, rfl⟩⟩; refine ⟨_, rfl, ?_⟩) | ((with_reducible refine gate_callee (f := 60) rfl ?_); refine goesL_ (some 16) rfl rfl Try.func60 (by kernel_rfl) rfl #[.int .i64 a0] rfl gl ?_; (with_reducible refine (format_Least.calls a0 t177 _ A5.out).mono ?_); rintro e w' ⟨rfl, ⟨nd, rfl⟩⟩; refine ⟨_, rfl, ?_⟩))
  go_ret
  exact ⟨by first | rfl | (simp [errW_none, errW_some] <;> rfl) | (simp [*, errW_none, errW_some] <;> rfl), bl0 HB.out⟩


-- NEED 0
/-! ### round_Units: function 58 -/
def round_Units.f (k : Nat) (a0 : Int) (a1 : Int) (a2 : Bool) : Option (Int × Int) := if a1 ≤ 0 then ((bits_Shift.f k a0 a1).bind fun bt179 => (if a2 = true then (some (bt179.1, 1)) else (some (bt179.1, 0)))) else ((bits_Shift.f k a0 a1).bind fun bt181 => (if bt181.2 = true then ((bits_Shift.f k a0 (wrap64 (a1 - 1))).bind fun bt183 => (if (Go.bits .and .u64 bt183.1 1) = 0 then (some (bt181.1, 1)) else (if bt183.2 = true then (some (bt181.1, 3)) else (if a2 = true then (some (bt181.1, 3)) else (some (bt181.1, 2)))))) else (if a2 = true then (some (bt181.1, 1)) else (some (bt181.1, 0)))))
theorem round_Units.mono : ∀ a0 a1 a2 k, LeO (round_Units.f k a0 a1 a2) (round_Units.f (k + 1) a0 a1 a2) := by
 intro a0 a1 a2 k
 unfold round_Units.f
 repeat' first
   |(with_reducible exact bits_Shift.mono _ _ _)
   |(with_reducible exact LeO.refl _)
   |(with_reducible exact LeO.none _)
   |(with_reducible refine LeO.ite ?_ ?_)
   |(with_reducible refine LeO.bind ?_ (fun _ => ?_))
   |exact bits_Shift.mono _ _ _
   |exact LeO.none _
   |refine LeO.ite ?_ ?_
   |refine LeO.bind ?_ (fun _ => ?_)
set_option maxHeartbeats 8000000 in
set_option maxRecDepth 100000 in
theorem round_Units.calls (k : Nat) (a0 : Int) (a1 : Int) (a2 : Bool) (r1 : Int) (r2 : Int) (w : World) (h : round_Units.f k a0 a1 a2 = some (r1, r2)) :
  Calls Try.prog 58 #[.int .u64 a0, .int .i64 a1, .bool a2] w fun e w' => e = .returned (.tuple #[.int .u64 r1, .int .i64 r2]) ∧ Drawn0 w w' := by
 have H : (if a1 ≤ 0 then ((bits_Shift.f k a0 a1).bind fun bt179 => (if a2 = true then (some (bt179.1, 1)) else (some (bt179.1, 0)))) else ((bits_Shift.f k a0 a1).bind fun bt181 => (if bt181.2 = true then ((bits_Shift.f k a0 (wrap64 (a1 - 1))).bind fun bt183 => (if (Go.bits .and .u64 bt183.1 1) = 0 then (some (bt181.1, 1)) else (if bt183.2 = true then (some (bt181.1, 3)) else (if a2 = true then (some (bt181.1, 3)) else (some (bt181.1, 2)))))) else (if a2 = true then (some (bt181.1, 1)) else (some (bt181.1, 0)))))) = some (r1, r2) := h
 clear h
 by_cases c4 : a1 ≤ 0
 ·rw [if_pos c4] at H
  have c4b0 : decide (a1 ≤ 0) = true := decide_eq_true c4
  clear c4
  replace H := Option.bind_eq_some_iff.mp H
  obtain ⟨⟨t179, t180⟩, A50, H⟩ := H
  replace H : (if a2 = true then (some (t179, 1)) else (some (t179, 0))) = some (r1, r2) := H
  have A5 := Aside0.mk A50
  clear A50
  by_cases c6 : a2 = true
  ·subst c6
   have H1 : (some (t179, 1)) = some (r1, r2) := by rw [if_pos rfl] at H; exact H
   clear H
   have H := H1
   clear H1
   simp only [Option.some.injEq, Prod.mk.injEq] at H
   obtain ⟨rfl, rfl⟩ := H
   go_enter Try.func58, Try.ntmps58
   go_wp2_with (first | ((with_reducible refine gate_callee (f := 54) rfl ?_); refine goesL_ (some 19) rfl rfl Try.func54 (by kernel_rfl) rfl #[.int .u64 a0, .int .i64 a1] rfl gl ?_; (with_reducible refine (bits_Shift.calls k a0 a1 t179 t180 _ A5.out).mono ?_); rintro e w' ⟨rfl, ⟨nd, rfl⟩⟩; refine ⟨_, rfl, ?_⟩))
   go_ret2
   exact ⟨by first | rfl | (simp; done) | (simp [*]; done) | (congr 1; (try unfold wrap64); omega) | (congr 1; rw [IntKind.wrap_u64]; omega), by repeat (first | exact Drawn0.refl _ | apply Drawn0.step)⟩
  ·replace c6 := Bool.eq_false_iff.mpr c6
   subst c6
   have H1 : (some (t179, 0)) = some (r1, r2) := by rw [if_neg (show ¬ (false = true) by decide)] at H; exact H
   clear H
   have H := H1
   clear H1
   simp only [Option.some.injEq, Prod.mk.injEq] at H
   obtain ⟨rfl, rfl⟩ := H
   go_enter Try.func58, Try.ntmps58
   go_wp2_with (first | ((with_reducible refine gate_callee (f := 54) rfl ?_); refine goesL_ (some 19) rfl rfl Try.func54 (by kernel_rfl) rfl #[.int .u64 a0, .int .i64 a1] rfl gl ?_; (with_reducible refine (bits_Shift.calls k a0 a1 t179 t180 _ A5.out).mono ?_); rintro e w' ⟨rfl, ⟨nd, rfl⟩⟩; refine ⟨_, rfl, ?_⟩))
   go_ret2
   exact ⟨by first | rfl | (simp; done) | (simp [*]; done) | (congr 1; (try unfold wrap64); omega) | (congr 1; rw [IntKind.wrap_u64]; omega), by repeat (first | exact Drawn0.refl _ | apply Drawn0.step)⟩
 ·rw [if_neg c4] at H
  have c4b0 : decide (a1 ≤ 0) = false := decide_eq_false c4
  clear c4
  replace H := Option.bind_eq_some_iff.mp H
  obtain ⟨⟨t181, t182⟩, A70, H⟩ := H
  replace H : (if t182 = true then ((bits_Shift.f k a0 (wrap64 (a1 - 1))).bind fun bt183 => (if (Go.bits .and .u64 bt183.1 1) = 0 then (some (t181, 1)) else (if bt183.2 = true then (some (t181, 3)) else (if a2 = true then (some (t181, 3)) else (some (t181, 2)))))) else (if a2 = true then (some (t181, 1)) else (some (t181, 0)))) = some (r1, r2) := H
  have A7 := Aside0.mk A70
  clear A70
  by_cases c8 : t182 = true
  ·subst c8
   have H1 : ((bits_Shift.f k a0 (wrap64 (a1 - 1))).bind fun bt183 => (if (Go.bits .and .u64 bt183.1 1) = 0 then (some (t181, 1)) else (if bt183.2 = true then (some (t181, 3)) else (if a2 = true then (some (t181, 3)) else (some (t181, 2)))))) = some (r1, r2) := by rw [if_pos rfl] at H; exact H
   clear H
   have H := H1
   clear H1
   replace H := Option.bind_eq_some_iff.mp H
   obtain ⟨⟨t183, t184⟩, A90, H⟩ := H
   replace H : (if (Go.bits .and .u64 t183 1) = 0 then (some (t181, 1)) else (if t184 = true then (some (t181, 3)) else (if a2 = true then (some (t181, 3)) else (some (t181, 2))))) = some (r1, r2) := H
   have A9 := Aside0.mk A90
   clear A90
   by_cases c10 : (Go.bits .and .u64 t183 1) = 0
   ·rw [if_pos c10] at H
    have c10b0 : ((Go.bits .and .u64 t183 1) == 0) = true := beq_iff_eq.mpr c10
    have c10b1 : ((Go.bits .and .u64 t183 1) != 0) = false := bne_eq_false_iff_eq.mpr c10
    clear c10
    simp only [Option.some.injEq, Prod.mk.injEq] at H
    obtain ⟨rfl, rfl⟩ := H
    go_enter Try.func58, Try.ntmps58
    go_wp2_with (first | ((with_reducible refine gate_callee (f := 54) rfl ?_); refine goesL_ (some 28) rfl rfl Try.func54 (by kernel_rfl) rfl #[.int .u64 a0, .int .i64 a1] rfl gl ?_; (with_reducible refine (bits_Shift.calls k a0 a1 t181 true _ A7.out).mono ?_); rintro e w' ⟨rfl, ⟨nd, rfl⟩⟩; refine ⟨_, rfl, ?_⟩) | ((with_reducible refine gate_callee (f := 54) rfl ?_); refine goesL_ (some 40) rfl rfl Try.func54 (by kernel_rfl) rfl #[.int .u64 a0, .int .i64 (wrap64 (a1 - 1))] rfl gl ?_; (with_reducible refine (bits_Shift.calls k a0 (wrap64 (a1 - 1)) t183 t184 _ A9.out).mono ?_); rintro e w' ⟨rfl, ⟨nd, rfl⟩⟩; refine ⟨_, rfl, ?_⟩))
    go_ret2
    exact ⟨by first | rfl | (simp; done) | (simp [*]; done) | (congr 1; (try unfold wrap64); omega) | (congr 1; rw [IntKind.wrap_u64]; omega), by repeat (first | exact Drawn0.refl _ | apply Drawn0.step)⟩
   ·rw [if_neg c10] at H
    have c10b0 : ((Go.bits .and .u64 t183 1) == 0) = false := beq_eq_false_iff_ne.mpr c10
    have c10b1 : ((Go.bits .and .u64 t183 1) != 0) = true := bne_iff_ne.mpr c10
    by_cases c11 : t184 = true
    ·subst c11
     have H1 : (some (t181, 3)) = some (r1, r2) := by rw [if_pos rfl] at H; exact H
     clear H
     have H := H1
     clear H1
     simp only [Option.some.injEq, Prod.mk.injEq] at H
     obtain ⟨rfl, rfl⟩ := H
     go_enter Try.func58, Try.ntmps58
     go_wp2_with (first | ((with_reducible refine gate_callee (f := 54) rfl ?_); refine goesL_ (some 28) rfl rfl Try.func54 (by kernel_rfl) rfl #[.int .u64 a0, .int .i64 a1] rfl gl ?_; (with_reducible refine (bits_Shift.calls k a0 a1 t181 true _ A7.out).mono ?_); rintro e w' ⟨rfl, ⟨nd, rfl⟩⟩; refine ⟨_, rfl, ?_⟩) | ((with_reducible refine gate_callee (f := 54) rfl ?_); refine goesL_ (some 40) rfl rfl Try.func54 (by kernel_rfl) rfl #[.int .u64 a0, .int .i64 (wrap64 (a1 - 1))] rfl gl ?_; (with_reducible refine (bits_Shift.calls k a0 (wrap64 (a1 - 1)) t183 true _ A9.out).mono ?_); rintro e w' ⟨rfl, ⟨nd, rfl⟩⟩; refine ⟨_, rfl, ?_⟩))
     go_ret2
     exact ⟨by first | rfl | (simp; done) | (simp [*]; done) | (congr 1; (try unfold wrap64); omega) | (congr 1; rw [IntKind.wrap_u64]; omega), by repeat (first | exact Drawn0.refl _ | apply Drawn0.step)⟩
    ·replace c11 := Bool.eq_false_iff.mpr c11
     subst c11
     have H1 : (if a2 = true then (some (t181, 3)) else (some (t181, 2))) = some (r1, r2) := by rw [if_neg (show ¬ (false = true) by decide)] at H; exact H
     clear H
     have H := H1
     clear H1
     by_cases c12 : a2 = true
     ·subst c12
      have H1 : (some (t181, 3)) = some (r1, r2) := by rw [if_pos rfl] at H; exact H
      clear H
      have H := H1
      clear H1
      simp only [Option.some.injEq, Prod.mk.injEq] at H
      obtain ⟨rfl, rfl⟩ := H
      go_enter Try.func58, Try.ntmps58
      go_wp2_with (first | ((with_reducible refine gate_callee (f := 54) rfl ?_); refine goesL_ (some 28) rfl rfl Try.func54 (by kernel_rfl) rfl #[.int .u64 a0, .int .i64 a1] rfl gl ?_; (with_reducible refine (bits_Shift.calls k a0 a1 t181 true _ A7.out).mono ?_); rintro e w' ⟨rfl, ⟨nd, rfl⟩⟩; refine ⟨_, rfl, ?_⟩) | ((with_reducible refine gate_callee (f := 54) rfl ?_); refine goesL_ (some 40) rfl rfl Try.func54 (by kernel_rfl) rfl #[.int .u64 a0, .int .i64 (wrap64 (a1 - 1))] rfl gl ?_; (with_reducible refine (bits_Shift.calls k a0 (wrap64 (a1 - 1)) t183 false _ A9.out).mono ?_); rintro e w' ⟨rfl, ⟨nd, rfl⟩⟩; refine ⟨_, rfl, ?_⟩))
      go_ret2
      exact ⟨by first | rfl | (simp; done) | (simp [*]; done) | (congr 1; (try unfold wrap64); omega) | (congr 1; rw [IntKind.wrap_u64]; omega), by repeat (first | exact Drawn0.refl _ | apply Drawn0.step)⟩
     ·replace c12 := Bool.eq_false_iff.mpr c12
      subst c12
      have H1 : (some (t181, 2)) = some (r1, r2) := by rw [if_neg (show ¬ (false = true) by decide)] at H; exact H
      clear H
      have H := H1
      clear H1
      simp only [Option.some.injEq, Prod.mk.injEq] at H
      obtain ⟨rfl, rfl⟩ := H
      go_enter Try.func58, Try.ntmps58
      go_wp2_with (first | ((with_reducible refine gate_callee (f := 54) rfl ?_); refine goesL_ (some 28) rfl rfl Try.func54 (by kernel_rfl) rfl #[.int .u64 a0, .int .i64 a1] rfl gl ?_; (with_reducible refine (bits_Shift.calls k a0 a1 t181 true _ A7.out).mono ?_); rintro e w' ⟨rfl, ⟨nd, rfl⟩⟩; refine ⟨_, rfl, ?_⟩) | ((with_reducible refine gate_callee (f := 54) rfl ?_); refine goesL_ (some 40) rfl rfl Try.func54 (by kernel_rfl) rfl #[.int .u64 a0, .int .i64 (wrap64 (a1 - 1))] rfl gl ?_; (with_reducible refine (bits_Shift.calls k a0 (wrap64 (a1 - 1)) t183 false _ A9.out).mono ?_); rintro e w' ⟨rfl, ⟨nd, rfl⟩⟩; refine ⟨_, rfl, ?_⟩))
      go_ret2
      exact ⟨by first | rfl | (simp; done) | (simp [*]; done) | (congr 1; (try unfold wrap64); omega) | (congr 1; rw [IntKind.wrap_u64]; omega), by repeat (first | exact Drawn0.refl _ | apply Drawn0.step)⟩
  ·replace c8 := Bool.eq_false_iff.mpr c8
   subst c8
   have H1 : (if a2 = true then (some (t181, 1)) else (some (t181, 0))) = some (r1, r2) := by rw [if_neg (show ¬ (false = true) by decide)] at H; exact H
   clear H
   have H := H1
   clear H1
   by_cases c13 : a2 = true
   ·subst c13
    have H1 : (some (t181, 1)) = some (r1, r2) := by rw [if_pos rfl] at H; exact H
    clear H
    have H := H1
    clear H1
    simp only [Option.some.injEq, Prod.mk.injEq] at H
    obtain ⟨rfl, rfl⟩ := H
    go_enter Try.func58, Try.ntmps58
    go_wp2_with (first | ((with_reducible refine gate_callee (f := 54) rfl ?_); refine goesL_ (some 28) rfl rfl Try.func54 (by kernel_rfl) rfl #[.int .u64 a0, .int .i64 a1] rfl gl ?_; (with_reducible refine (bits_Shift.calls k a0 a1 t181 false _ A7.out).mono ?_); rintro e w' ⟨rfl, ⟨nd, rfl⟩⟩; refine ⟨_, rfl, ?_⟩))
    go_ret2
    exact ⟨by first | rfl | (simp; done) | (simp [*]; done) | (congr 1; (try unfold wrap64); omega) | (congr 1; rw [IntKind.wrap_u64]; omega), by repeat (first | exact Drawn0.refl _ | apply Drawn0.step)⟩
   ·replace c13 := Bool.eq_false_iff.mpr c13
    subst c13
    have H1 : (some (t181, 0)) = some (r1, r2) := by rw [if_neg (show ¬ (false = true) by decide)] at H; exact H
    clear H
    have H := H1
    clear H1
    simp only [Option.some.injEq, Prod.mk.injEq] at H
    obtain ⟨rfl, rfl⟩ := H
    go_enter Try.func58, Try.ntmps58
    go_wp2_with (first | ((with_reducible refine gate_callee (f := 54) rfl ?_); refine goesL_ (some 28) rfl rfl Try.func54 (by kernel_rfl) rfl #[.int .u64 a0, .int .i64 a1] rfl gl ?_; (with_reducible refine (bits_Shift.calls k a0 a1 t181 false _ A7.out).mono ?_); rintro e w' ⟨rfl, ⟨nd, rfl⟩⟩; refine ⟨_, rfl, ?_⟩))
    go_ret2
    exact ⟨by first | rfl | (simp; done) | (simp [*]; done) | (congr 1; (try unfold wrap64); omega) | (congr 1; rw [IntKind.wrap_u64]; omega), by repeat (first | exact Drawn0.refl _ | apply Drawn0.step)⟩

-- NEED 0
/-! ### round_Up: function 59 -/
def round_Up.f (a0 : Int) (a1 : Bool) (a2 : Int) (a3 : Int) : Option (Bool) := if a0 = 1 then (some false) else (if a0 = 2 then (if a1 = true then (some false) else (some (a3 != 0))) else (if a0 = 3 then (if a1 = true then (some (a3 != 0)) else (some false)) else (if a0 = 4 then (some (decide (a3 ≥ 2))) else (if a3 = 3 then (some true) else (if a3 = 2 then (some ((Go.bits .and .u64 a2 1) == 1)) else (some false))))))
set_option maxHeartbeats 8000000 in
set_option maxRecDepth 100000 in
theorem round_Up.calls (a0 : Int) (a1 : Bool) (a2 : Int) (a3 : Int) (r : Bool) (w : World) (h : round_Up.f a0 a1 a2 a3 = some r) :
  Calls Try.prog 59 #[.int .i64 a0, .bool a1, .int .u64 a2, .int .i64 a3] w fun e w' => e = .returned (.bool r) ∧ Drawn0 w w' := by
 have H : (if a0 = 1 then (some false) else (if a0 = 2 then (if a1 = true then (some false) else (some (a3 != 0))) else (if a0 = 3 then (if a1 = true then (some (a3 != 0)) else (some false)) else (if a0 = 4 then (some (decide (a3 ≥ 2))) else (if a3 = 3 then (some true) else (if a3 = 2 then (some ((Go.bits .and .u64 a2 1) == 1)) else (some false))))))) = some r := h
 clear h
 by_cases c5 : a0 = 1
 ·rw [if_pos c5] at H
  have c5b0 : (a0 == 1) = true := beq_iff_eq.mpr c5
  have c5b1 : (a0 != 1) = false := bne_eq_false_iff_eq.mpr c5
  clear c5
  obtain rfl := Option.some.inj H
  go_enter Try.func59, Try.ntmps59
  go_wp2
  go_ret
  exact ⟨by first | rfl | (simp; done) | (simp [*]; done) | (congr 1; (try unfold wrap64); omega) | (congr 1; rw [IntKind.wrap_u64]; omega), by repeat (first | exact Drawn0.refl _ | apply Drawn0.step)⟩
 ·rw [if_neg c5] at H
  have c5b0 : (a0 == 1) = false := beq_eq_false_iff_ne.mpr c5
  have c5b1 : (a0 != 1) = true := bne_iff_ne.mpr c5
  by_cases c6 : a0 = 2
  ·rw [if_pos c6] at H
   have c6b0 : (a0 == 2) = true := beq_iff_eq.mpr c6
   have c6b1 : (a0 != 2) = false := bne_eq_false_iff_eq.mpr c6
   clear c6
   by_cases c7 : a1 = true
   ·subst c7
    have H1 : (some false) = some r := by rw [if_pos rfl] at H; exact H
    clear H
    have H := H1
    clear H1
    obtain rfl := Option.some.inj H
    go_enter Try.func59, Try.ntmps59
    go_wp2
    go_ret
    exact ⟨by first | rfl | (simp; done) | (simp [*]; done) | (congr 1; (try unfold wrap64); omega) | (congr 1; rw [IntKind.wrap_u64]; omega), by repeat (first | exact Drawn0.refl _ | apply Drawn0.step)⟩
   ·replace c7 := Bool.eq_false_iff.mpr c7
    subst c7
    have H1 : (some (a3 != 0)) = some r := by rw [if_neg (show ¬ (false = true) by decide)] at H; exact H
    clear H
    have H := H1
    clear H1
    obtain rfl := Option.some.inj H
    go_enter Try.func59, Try.ntmps59
    go_wp2
    go_ret
    exact ⟨by first | rfl | (simp; done) | (simp [*]; done) | (congr 1; (try unfold wrap64); omega) | (congr 1; rw [IntKind.wrap_u64]; omega), by repeat (first | exact Drawn0.refl _ | apply Drawn0.step)⟩
  ·rw [if_neg c6] at H
   have c6b0 : (a0 == 2) = false := beq_eq_false_iff_ne.mpr c6
   have c6b1 : (a0 != 2) = true := bne_iff_ne.mpr c6
   by_cases c8 : a0 = 3
   ·rw [if_pos c8] at H
    have c8b0 : (a0 == 3) = true := beq_iff_eq.mpr c8
    have c8b1 : (a0 != 3) = false := bne_eq_false_iff_eq.mpr c8
    clear c8
    by_cases c9 : a1 = true
    ·subst c9
     have H1 : (some (a3 != 0)) = some r := by rw [if_pos rfl] at H; exact H
     clear H
     have H := H1
     clear H1
     obtain rfl := Option.some.inj H
     go_enter Try.func59, Try.ntmps59
     go_wp2
     go_ret
     exact ⟨by first | rfl | (simp; done) | (simp [*]; done) | (congr 1; (try unfold wrap64); omega) | (congr 1; rw [IntKind.wrap_u64]; omega), by repeat (first | exact Drawn0.refl _ | apply Drawn0.step)⟩
    ·replace c9 := Bool.eq_false_iff.mpr c9
     subst c9
     have H1 : (some false) = some r := by rw [if_neg (show ¬ (false = true) by decide)] at H; exact H
     clear H
     have H := H1
     clear H1
     obtain rfl := Option.some.inj H
     go_enter Try.func59, Try.ntmps59
     go_wp2
     go_ret
     exact ⟨by first | rfl | (simp; done) | (simp [*]; done) | (congr 1; (try unfold wrap64); omega) | (congr 1; rw [IntKind.wrap_u64]; omega), by repeat (first | exact Drawn0.refl _ | apply Drawn0.step)⟩
   ·rw [if_neg c8] at H
    have c8b0 : (a0 == 3) = false := beq_eq_false_iff_ne.mpr c8
    have c8b1 : (a0 != 3) = true := bne_iff_ne.mpr c8
    by_cases c10 : a0 = 4
    ·rw [if_pos c10] at H
     have c10b0 : (a0 == 4) = true := beq_iff_eq.mpr c10
     have c10b1 : (a0 != 4) = false := bne_eq_false_iff_eq.mpr c10
     clear c10
     obtain rfl := Option.some.inj H
     go_enter Try.func59, Try.ntmps59
     go_wp2
     go_ret
     exact ⟨by first | rfl | (simp; done) | (simp [*]; done) | (congr 1; (try unfold wrap64); omega) | (congr 1; rw [IntKind.wrap_u64]; omega), by repeat (first | exact Drawn0.refl _ | apply Drawn0.step)⟩
    ·rw [if_neg c10] at H
     have c10b0 : (a0 == 4) = false := beq_eq_false_iff_ne.mpr c10
     have c10b1 : (a0 != 4) = true := bne_iff_ne.mpr c10
     by_cases c11 : a3 = 3
     ·rw [if_pos c11] at H
      have c11b0 : (a3 == 3) = true := beq_iff_eq.mpr c11
      have c11b1 : (a3 != 3) = false := bne_eq_false_iff_eq.mpr c11
      clear c11
      obtain rfl := Option.some.inj H
      go_enter Try.func59, Try.ntmps59
      go_wp2
      go_ret
      exact ⟨by first | rfl | (simp; done) | (simp [*]; done) | (congr 1; (try unfold wrap64); omega) | (congr 1; rw [IntKind.wrap_u64]; omega), by repeat (first | exact Drawn0.refl _ | apply Drawn0.step)⟩
     ·rw [if_neg c11] at H
      have c11b0 : (a3 == 3) = false := beq_eq_false_iff_ne.mpr c11
      have c11b1 : (a3 != 3) = true := bne_iff_ne.mpr c11
      by_cases c12 : a3 = 2
      ·rw [if_pos c12] at H
       have c12b0 : (a3 == 2) = true := beq_iff_eq.mpr c12
       have c12b1 : (a3 != 2) = false := bne_eq_false_iff_eq.mpr c12
       clear c12
       obtain rfl := Option.some.inj H
       go_enter Try.func59, Try.ntmps59
       go_wp2
       go_ret
       exact ⟨by first | rfl | (simp; done) | (simp [*]; done) | (congr 1; (try unfold wrap64); omega) | (congr 1; rw [IntKind.wrap_u64]; omega), by repeat (first | exact Drawn0.refl _ | apply Drawn0.step)⟩
      ·rw [if_neg c12] at H
       have c12b0 : (a3 == 2) = false := beq_eq_false_iff_ne.mpr c12
       have c12b1 : (a3 != 2) = true := bne_iff_ne.mpr c12
       obtain rfl := Option.some.inj H
       go_enter Try.func59, Try.ntmps59
       go_wp2
       go_ret
       exact ⟨by first | rfl | (simp; done) | (simp [*]; done) | (congr 1; (try unfold wrap64); omega) | (congr 1; rw [IntKind.wrap_u64]; omega), by repeat (first | exact Drawn0.refl _ | apply Drawn0.step)⟩

-- NEED 0
/-! ### format_Greatest: function 78 -/
def format_Greatest.f (a0 : Int) (a1 : Bool) : Option (Int) := (format_Widths.f a0).bind fun bt185 => ((format_Top.f a0).bind fun t187 => (if 0 ≤ (IntKind.u64.wrap (bt185.2)) then ((format_Join.f a0 a1 (wrap64 (t187 - 1)) (((shl .u32 1 (IntKind.u64.wrap (bt185.2))) - 1) % 4294967296)).bind fun t188 => (some t188)) else (none)))
set_option maxHeartbeats 8000000 in
set_option maxRecDepth 100000 in
theorem format_Greatest.calls (a0 : Int) (a1 : Bool) (r : Int) (w : World) (h : format_Greatest.f a0 a1 = some r) :
  Calls Try.prog 78 #[.int .i64 a0, .bool a1] w fun e w' => e = .returned (.int .u32 r) ∧ Drawn0 w w' := by
 have H : ((format_Widths.f a0).bind fun bt185 => ((format_Top.f a0).bind fun t187 => (if 0 ≤ (IntKind.u64.wrap (bt185.2)) then ((format_Join.f a0 a1 (wrap64 (t187 - 1)) (((shl .u32 1 (IntKind.u64.wrap (bt185.2))) - 1) % 4294967296)).bind fun t188 => (some t188)) else (none)))) = some r := h
 clear h
 replace H := Option.bind_eq_some_iff.mp H
 obtain ⟨⟨t185, t186⟩, A30, H⟩ := H
 replace H : ((format_Top.f a0).bind fun t187 => (if 0 ≤ (IntKind.u64.wrap (t186)) then ((format_Join.f a0 a1 (wrap64 (t187 - 1)) (((shl .u32 1 (IntKind.u64.wrap (t186))) - 1) % 4294967296)).bind fun t188 => (some t188)) else (none))) = some r := H
 have A3 := Aside0.mk A30
 clear A30
 replace H := Option.bind_eq_some_iff.mp H
 obtain ⟨t187, A40, H⟩ := H
 replace H : (if 0 ≤ (IntKind.u64.wrap (t186)) then ((format_Join.f a0 a1 (wrap64 (t187 - 1)) (((shl .u32 1 (IntKind.u64.wrap (t186))) - 1) % 4294967296)).bind fun t188 => (some t188)) else (none)) = some r := H
 have A4 := Aside0.mk A40
 clear A40
 obtain ⟨ji5, hji5⟩ : ∃ j_ : Int, (IntKind.u64.wrap (t186)) = j_ := ⟨_, rfl⟩
 replace H : (if 0 ≤ (ji5) then ((format_Join.f a0 a1 (wrap64 (t187 - 1)) (((shl .u32 1 (ji5)) - 1) % 4294967296)).bind fun t188 => (some t188)) else (none)) = some r := by first | (rw [hji5] at H; exact H) | (simp only [hji5] at H ⊢; exact H)
 (try rw [hji5] at A3)
 (try rw [hji5] at A4)
 by_cases c6 : 0 ≤ (ji5)
 ·rw [if_pos c6] at H
  have c6b0 := eq_true c6
  have c6b1 : decide (0 ≤ (ji5)) = true := decide_eq_true c6
  clear c6
  obtain ⟨ji7, hji7⟩ : ∃ j_ : Int, (shl .u32 1 (ji5)) = j_ := ⟨_, rfl⟩
  replace H : ((format_Join.f a0 a1 (wrap64 (t187 - 1)) (((ji7) - 1) % 4294967296)).bind fun t188 => (some t188)) = some r := by first | (rw [hji7] at H; exact H) | (simp only [hji7] at H ⊢; exact H)
  (try rw [hji7] at A3)
  (try rw [hji7] at A4)
  have hji7_ : (IntKind.u32.wrap (1 * 2 ^ min (ji5).toNat 32)) = ji7 := hji7
  have hji7z : (ji5) ≤ 32 → (IntKind.u32.wrap (1 * 2 ^ (ji5).toNat)) = ji7 := shl_small hji7
  have hji7u : (IntKind.u32.wrap (2 ^ min (ji5).toNat 32)) = ji7 := by have h_ := hji7_; rw [Int.one_mul] at h_; exact h_
  have hji7v : (ji5) ≤ 32 → (IntKind.u32.wrap (2 ^ (ji5).toNat)) = ji7 := fun hle_ => by have h_ := hji7z hle_; rw [Int.one_mul] at h_; exact h_
  obtain ⟨ji8, hji8⟩ : ∃ j_ : Int, (((ji7) - 1) % 4294967296) = j_ := ⟨_, rfl⟩
  replace H : ((format_Join.f a0 a1 (wrap64 (t187 - 1)) (ji8)).bind fun t188 => (some t188)) = some r := by first | (rw [hji8] at H; exact H) | (simp only [hji8] at H ⊢; exact H)
  (try rw [hji8] at A3)
  (try rw [hji8] at A4)
  have hji8l : 0 ≤ ji8 := by rw [← hji8]; exact Int.emod_nonneg _ (by decide)
  have hji8h : ji8 ≤ 4294967295 := by have := Int.emod_lt_of_pos (((ji7) - 1)) (show (0 : Int) < 4294967296 by decide); omega
  have hji8w : (IntKind.u32.wrap ((ji7) - 1)) = ji8 := (u32_w _).trans hji8
  (try (have hji8_ := hji8; simp only [Int.add_emod_emod, Int.emod_add_emod, Int.sub_emod_emod, Int.emod_sub_emod] at hji8_))
  replace H := Option.bind_eq_some_iff.mp H
  obtain ⟨t188, A90, H⟩ := H
  replace H : (some t188) = some r := H
  have A9 := Aside0.mk A90
  clear A90
  obtain rfl := Option.some.inj H
  go_enter Try.func78, Try.ntmps78
  go_wp2_with (first | ((with_reducible refine gate_callee (f := 56) rfl ?_); refine goesL_ (some 9) rfl rfl Try.func56 (by kernel_rfl) rfl #[.int .i64 a0] rfl gl ?_; (with_reducible refine (format_Widths.calls a0 t185 t186 _ A3.out).mono ?_); rintro e w' ⟨rfl, ⟨nd, rfl⟩⟩; refine ⟨_, rfl, ?_⟩) | ((with_reducible refine gate_callee (f := 61) rfl ?_); refine goesL_ (some 15) rfl rfl Try.func61 (by kernel_rfl) rfl #[.int .i64 a0] rfl gl ?_; (with_reducible refine (format_Top.calls a0 t187 _ A4.out).mono ?_); rintro e w' ⟨rfl, ⟨nd, rfl⟩⟩; refine ⟨_, rfl, ?_⟩) | ((with_reducible refine gate_callee (f := 64) rfl ?_); refine goesL_ (some 21) rfl rfl Try.func64 (by kernel_rfl) rfl #[.int .i64 a0, .bool a1, .int .i64 (wrap64 (t187 - 1)), .int .u32 ji8] rfl (by (try simp only [List.map_toArray, List.map_cons, List.map_nil]); first | done | (simp only [hji8]; rfl) | rfl | (simp only [List.length_drop, List.length_take]; rfl)) ?_; (with_reducible refine (format_Join.calls a0 a1 (wrap64 (t187 - 1)) ji8 t188 _ A9.out).mono ?_); rintro e w' ⟨rfl, ⟨nd, rfl⟩⟩; refine ⟨_, rfl, ?_⟩))
  go_ret
  exact ⟨by first | rfl | (simp; done) | (simp only [← hji5, ← hji7, ← hji8] <;> (first | rfl | (simp; done))) | (simp [*]; done) | (congr 1; (try unfold wrap64); omega) | (congr 1; rw [IntKind.wrap_u64]; omega), by repeat (first | exact Drawn0.refl _ | apply Drawn0.step)⟩
 ·rw [if_neg c6] at H
  exact absurd H (by simp)

-- NEED 0
/-! ### round_beyond: function 62 -/
def round_beyond.f (a0 : Int) (a1 : Int) (a2 : Bool) : Option (Int × Bool × Bool × Bool × Bool × Bool) := if a1 = 1 then ((format_Greatest.f a0 a2).bind fun t191 => (some (t191, false, false, true, false, true))) else (if a1 = 2 then (if a2 = true then ((format_Greatest.f a0 a2).bind fun t192 => (some (t192, false, false, true, false, true))) else ((format_Inf.f a0 a2).bind fun t193 => (some (t193, false, false, true, false, true)))) else (if a1 = 3 then (if a2 = true then ((format_Inf.f a0 a2).bind fun t194 => (some (t194, false, false, true, false, true))) else ((format_Greatest.f a0 a2).bind fun t195 => (some (t195, false, false, true, false, true)))) else ((format_Inf.f a0 a2).bind fun t196 => (some (t196, false, false, true, false, true)))))

-- NEED 0
/-! ### bits_Cut: function 65 -/
def bits_Cut.f (a0 : Int) (a1 : Int) : Option (Int) := if a1 < 1 then (some 0) else (if a1 ≥ 64 then (some a0) else (if 0 ≤ (IntKind.u64.wrap (a1)) then (some (Go.bits .and .u64 a0 (IntKind.u64.wrap ((shl .u64 1 (IntKind.u64.wrap (a1))) - 1)))) else (none)))
set_option maxHeartbeats 8000000 in
set_option maxRecDepth 100000 in
theorem bits_Cut.calls (a0 : Int) (a1 : Int) (r : Int) (w : World) (h : bits_Cut.f a0 a1 = some r) :
  Calls Try.prog 65 #[.int .u64 a0, .int .i64 a1] w fun e w' => e = .returned (.int .u64 r) ∧ Drawn0 w w' := by
 have H : (if a1 < 1 then (some 0) else (if a1 ≥ 64 then (some a0) else (if 0 ≤ (IntKind.u64.wrap (a1)) then (some (Go.bits .and .u64 a0 (IntKind.u64.wrap ((shl .u64 1 (IntKind.u64.wrap (a1))) - 1)))) else (none)))) = some r := h
 clear h
 by_cases c3 : a1 < 1
 ·rw [if_pos c3] at H
  have c3b0 : decide (a1 < 1) = true := decide_eq_true c3
  clear c3
  obtain rfl := Option.some.inj H
  go_enter Try.func65, Try.ntmps65
  go_wp2
  go_ret
  exact ⟨by first | rfl | (simp; done) | (simp [*]; done) | (congr 1; (try unfold wrap64); omega) | (congr 1; rw [IntKind.wrap_u64]; omega), by repeat (first | exact Drawn0.refl _ | apply Drawn0.step)⟩
 ·rw [if_neg c3] at H
  have c3b0 : decide (a1 < 1) = false := decide_eq_false c3
  clear c3
  by_cases c4 : a1 ≥ 64
  ·rw [if_pos c4] at H
   have c4b0 : decide (64 ≤ a1) = true := decide_eq_true c4
   clear c4
   obtain rfl := Option.some.inj H
   go_enter Try.func65, Try.ntmps65
   go_wp2
   go_ret
   exact ⟨by first | rfl | (simp; done) | (simp [*]; done) | (congr 1; (try unfold wrap64); omega) | (congr 1; rw [IntKind.wrap_u64]; omega), by repeat (first | exact Drawn0.refl _ | apply Drawn0.step)⟩
  ·rw [if_neg c4] at H
   have c4b0 : decide (64 ≤ a1) = false := decide_eq_false c4
   clear c4
   obtain ⟨ji5, hji5⟩ : ∃ j_ : Int, (IntKind.u64.wrap (a1)) = j_ := ⟨_, rfl⟩
   replace H : (if 0 ≤ (ji5) then (some (Go.bits .and .u64 a0 (IntKind.u64.wrap ((shl .u64 1 (ji5)) - 1)))) else (none)) = some r := by first | (rw [hji5] at H; exact H) | (simp only [hji5] at H ⊢; exact H)
   by_cases c6 : 0 ≤ (ji5)
   ·rw [if_pos c6] at H
    have c6b0 := eq_true c6
    have c6b1 : decide (0 ≤ (ji5)) = true := decide_eq_true c6
    clear c6
    obtain ⟨ji7, hji7⟩ : ∃ j_ : Int, (shl .u64 1 (ji5)) = j_ := ⟨_, rfl⟩
    replace H : (some (Go.bits .and .u64 a0 (IntKind.u64.wrap ((ji7) - 1)))) = some r := by first | (rw [hji7] at H; exact H) | (simp only [hji7] at H ⊢; exact H)
    have hji7_ : (IntKind.u64.wrap (1 * 2 ^ min (ji5).toNat 64)) = ji7 := hji7
    have hji7z : (ji5) ≤ 64 → (IntKind.u64.wrap (1 * 2 ^ (ji5).toNat)) = ji7 := shl_small hji7
    have hji7u : (IntKind.u64.wrap (2 ^ min (ji5).toNat 64)) = ji7 := by have h_ := hji7_; rw [Int.one_mul] at h_; exact h_
    have hji7v : (ji5) ≤ 64 → (IntKind.u64.wrap (2 ^ (ji5).toNat)) = ji7 := fun hle_ => by have h_ := hji7z hle_; rw [Int.one_mul] at h_; exact h_
    obtain rfl := Option.some.inj H
    go_enter Try.func65, Try.ntmps65
    go_wp2
    go_ret
    exact ⟨by first | rfl | (simp; done) | (simp only [← hji5, ← hji7] <;> (first | rfl | (simp; done))) | (simp [*]; done) | (congr 1; (try unfold wrap64); omega) | (congr 1; rw [IntKind.wrap_u64]; omega), by repeat (first | exact Drawn0.refl _ | apply Drawn0.step)⟩
   ·rw [if_neg c6] at H
    exact absurd H (by simp)


-- NEED 1
/-! ### round_Pack: function 32 -/
mutual
def round_Pack.j0 : Nat → Int → Int → Bool → Int → Int → Bool → Bool → Option (Int × Bool × Bool × Bool × Bool × Bool)
 |0, _, _, _, _, _, _, _ => none
 |k + 1, x0, x1, x2, x3, x4, x5, x29 => if x29 = true then ((format_Zero.f x0 x2).bind fun t198 => (some (t198, false, false, false, false, false))) else ((format_Widths.f x0).bind fun bt199 => ((round_Unit.f k x0 x3 x4).bind fun t201 => ((round_Units.f k x4 (wrap64 (t201 - x3)) x5).bind fun bt202 => ((round_Up.f x1 x2 bt202.1 bt202.2).bind fun t204 => (if t204 = true then (round_Pack.j1 k x0 x1 x2 x3 x4 bt199.2 t201 (IntKind.u64.wrap (bt202.1 + 1)) bt202.2) else (round_Pack.j1 k x0 x1 x2 x3 x4 bt199.2 t201 bt202.1 bt202.2))))))
def round_Pack.j1 : Nat → Int → Int → Bool → Int → Int → Int → Int → Int → Int → Option (Int × Bool × Bool × Bool × Bool × Bool)
 |0, _, _, _, _, _, _, _, _, _ => none
 |k + 1, x0, x1, x2, x3, x4, x15, x16, x17, x18 => if 0 ≤ (IntKind.u64.wrap (wrap64 (x15 + 1))) then (if (shr .u64 x17 (IntKind.u64.wrap (wrap64 (x15 + 1)))) = 0 then (round_Pack.j2 k x0 x1 x2 x3 x4 x15 x16 x17 x18) else (round_Pack.j2 k x0 x1 x2 x3 x4 x15 (wrap64 (x16 + 1)) (x17 / 2) x18)) else (none)
def round_Pack.j2 : Nat → Int → Int → Bool → Int → Int → Int → Int → Int → Int → Option (Int × Bool × Bool × Bool × Bool × Bool)
 |0, _, _, _, _, _, _, _, _, _ => none
 |k + 1, x0, x1, x2, x3, x4, x15, x16, x17, x18 => (format_Least.f x0).bind fun t205 => (if 0 ≤ (IntKind.u64.wrap (x15)) then (if (shr .u64 x17 (IntKind.u64.wrap (x15))) = 0 then (round_Pack.j3 k x0 x1 x2 x3 x4 x15 x17 x18 0) else (round_Pack.j3 k x0 x1 x2 x3 x4 x15 x17 x18 (wrap64 ((wrap64 ((wrap64 (x16 + x15)) - t205)) + 1)))) else (none))
def round_Pack.j3 : Nat → Int → Int → Bool → Int → Int → Int → Int → Int → Int → Option (Int × Bool × Bool × Bool × Bool × Bool)
 |0, _, _, _, _, _, _, _, _, _ => none
 |k + 1, x0, x1, x2, x3, x4, x15, x17, x18, x19 => (format_Top.f x0).bind fun t206 => (if x19 ≥ t206 then ((round_beyond.f x0 x1 x2).bind fun bt207 => (some (bt207.1, bt207.2.1, bt207.2.2.1, bt207.2.2.2.1, bt207.2.2.2.2.1, bt207.2.2.2.2.2))) else (if x18 = 0 then ((bits_Cut.f x17 x15).bind fun t214 => ((format_Join.f x0 x2 x19 ((t214) % 4294967296)).bind fun t215 => (some (t215, false, false, false, false, (x18 != 0))))) else (if x4 = 0 then ((bits_Cut.f x17 x15).bind fun t216 => ((format_Join.f x0 x2 x19 ((t216) % 4294967296)).bind fun t217 => (some (t217, false, false, false, true, (x18 != 0))))) else ((bits_Len.f k x4).bind fun t218 => ((format_Least.f x0).bind fun t219 => ((bits_Cut.f x17 x15).bind fun t220 => ((format_Join.f x0 x2 x19 ((t220) % 4294967296)).bind fun t221 => (some (t221, false, false, false, decide ((wrap64 ((wrap64 (x3 + t218)) - 1)) < t219), (x18 != 0))))))))))
end
def round_Pack.f (k : Nat) (a0 : Int) (a1 : Int) (a2 : Bool) (a3 : Int) (a4 : Int) (a5 : Bool) : Option (Int × Bool × Bool × Bool × Bool × Bool) := if a4 = 0 then (round_Pack.j0 k a0 a1 a2 (mn (mx a3 (-10000)) 10000) a4 a5 (!a5)) else (round_Pack.j0 k a0 a1 a2 (mn (mx a3 (-10000)) 10000) a4 a5 false)
theorem round_Pack.mono_l : ∀ k, (∀ y0 y1 y2 y3 y4 y5 y6, LeO (round_Pack.j0 k y0 y1 y2 y3 y4 y5 y6) (round_Pack.j0 (k + 1) y0 y1 y2 y3 y4 y5 y6)) ∧ (∀ y0 y1 y2 y3 y4 y5 y6 y7 y8, LeO (round_Pack.j1 k y0 y1 y2 y3 y4 y5 y6 y7 y8) (round_Pack.j1 (k + 1) y0 y1 y2 y3 y4 y5 y6 y7 y8)) ∧ (∀ y0 y1 y2 y3 y4 y5 y6 y7 y8, LeO (round_Pack.j2 k y0 y1 y2 y3 y4 y5 y6 y7 y8) (round_Pack.j2 (k + 1) y0 y1 y2 y3 y4 y5 y6 y7 y8)) ∧ (∀ y0 y1 y2 y3 y4 y5 y6 y7 y8, LeO (round_Pack.j3 k y0 y1 y2 y3 y4 y5 y6 y7 y8) (round_Pack.j3 (k + 1) y0 y1 y2 y3 y4 y5 y6 y7 y8))
 |0 => ⟨fun _ _ _ _ _ _ _ r h => by simp [round_Pack.j0] at h, fun _ _ _ _ _ _ _ _ _ r h => by simp [round_Pack.j1] at h, fun _ _ _ _ _ _ _ _ _ r h => by simp [round_Pack.j2] at h, fun _ _ _ _ _ _ _ _ _ r h => by simp [round_Pack.j3] at h⟩
 |k + 1 => by
  obtain ⟨ih0, ih1, ih2, ih3⟩ := round_Pack.mono_l k
  refine ⟨?_, ?_, ?_, ?_⟩
  ·intro y0 y1 y2 y3 y4 y5 y6
   unfold round_Pack.j0
   repeat' first
   |(with_reducible exact ih0 _ _ _ _ _ _ _)
   |(with_reducible exact ih1 _ _ _ _ _ _ _ _ _)
   |(with_reducible exact ih2 _ _ _ _ _ _ _ _ _)
   |(with_reducible exact ih3 _ _ _ _ _ _ _ _ _)
   |(with_reducible exact bits_Len.mono _ _)
   |(with_reducible exact round_Unit.mono _ _ _ _)
   |(with_reducible exact round_Units.mono _ _ _ _)
   |(with_reducible exact LeO.refl _)
   |(with_reducible exact LeO.none _)
   |(with_reducible refine LeO.ite ?_ ?_)
   |(with_reducible refine LeO.bind ?_ (fun _ => ?_))
   |exact ih0 _ _ _ _ _ _ _
   |exact ih1 _ _ _ _ _ _ _ _ _
   |exact ih2 _ _ _ _ _ _ _ _ _
   |exact ih3 _ _ _ _ _ _ _ _ _
   |exact bits_Len.mono _ _
   |exact round_Unit.mono _ _ _ _
   |exact round_Units.mono _ _ _ _
   |exact LeO.none _
   |refine LeO.ite ?_ ?_
   |refine LeO.bind ?_ (fun _ => ?_)
  ·intro y0 y1 y2 y3 y4 y5 y6 y7 y8
   unfold round_Pack.j1
   repeat' first
   |(with_reducible exact ih0 _ _ _ _ _ _ _)
   |(with_reducible exact ih1 _ _ _ _ _ _ _ _ _)
   |(with_reducible exact ih2 _ _ _ _ _ _ _ _ _)
   |(with_reducible exact ih3 _ _ _ _ _ _ _ _ _)
   |(with_reducible exact bits_Len.mono _ _)
   |(with_reducible exact round_Unit.mono _ _ _ _)
   |(with_reducible exact round_Units.mono _ _ _ _)
   |(with_reducible exact LeO.refl _)
   |(with_reducible exact LeO.none _)
   |(with_reducible refine LeO.ite ?_ ?_)
   |(with_reducible refine LeO.bind ?_ (fun _ => ?_))
   |exact ih0 _ _ _ _ _ _ _
   |exact ih1 _ _ _ _ _ _ _ _ _
   |exact ih2 _ _ _ _ _ _ _ _ _
   |exact ih3 _ _ _ _ _ _ _ _ _
   |exact bits_Len.mono _ _
   |exact round_Unit.mono _ _ _ _
   |exact round_Units.mono _ _ _ _
   |exact LeO.none _
   |refine LeO.ite ?_ ?_
   |refine LeO.bind ?_ (fun _ => ?_)
  ·intro y0 y1 y2 y3 y4 y5 y6 y7 y8
   unfold round_Pack.j2
   repeat' first
   |(with_reducible exact ih0 _ _ _ _ _ _ _)
   |(with_reducible exact ih1 _ _ _ _ _ _ _ _ _)
   |(with_reducible exact ih2 _ _ _ _ _ _ _ _ _)
   |(with_reducible exact ih3 _ _ _ _ _ _ _ _ _)
   |(with_reducible exact bits_Len.mono _ _)
   |(with_reducible exact round_Unit.mono _ _ _ _)
   |(with_reducible exact round_Units.mono _ _ _ _)
   |(with_reducible exact LeO.refl _)
   |(with_reducible exact LeO.none _)
   |(with_reducible refine LeO.ite ?_ ?_)
   |(with_reducible refine LeO.bind ?_ (fun _ => ?_))
   |exact ih0 _ _ _ _ _ _ _
   |exact ih1 _ _ _ _ _ _ _ _ _
   |exact ih2 _ _ _ _ _ _ _ _ _
   |exact ih3 _ _ _ _ _ _ _ _ _
   |exact bits_Len.mono _ _
   |exact round_Unit.mono _ _ _ _
   |exact round_Units.mono _ _ _ _
   |exact LeO.none _
   |refine LeO.ite ?_ ?_
   |refine LeO.bind ?_ (fun _ => ?_)
  ·intro y0 y1 y2 y3 y4 y5 y6 y7 y8
   unfold round_Pack.j3
   repeat' first
   |(with_reducible exact ih0 _ _ _ _ _ _ _)
   |(with_reducible exact ih1 _ _ _ _ _ _ _ _ _)
   |(with_reducible exact ih2 _ _ _ _ _ _ _ _ _)
   |(with_reducible exact ih3 _ _ _ _ _ _ _ _ _)
   |(with_reducible exact bits_Len.mono _ _)
   |(with_reducible exact round_Unit.mono _ _ _ _)
   |(with_reducible exact round_Units.mono _ _ _ _)
   |(with_reducible exact LeO.refl _)
   |(with_reducible exact LeO.none _)
   |(with_reducible refine LeO.ite ?_ ?_)
   |(with_reducible refine LeO.bind ?_ (fun _ => ?_))
   |exact ih0 _ _ _ _ _ _ _
   |exact ih1 _ _ _ _ _ _ _ _ _
   |exact ih2 _ _ _ _ _ _ _ _ _
   |exact ih3 _ _ _ _ _ _ _ _ _
   |exact bits_Len.mono _ _
   |exact round_Unit.mono _ _ _ _
   |exact round_Units.mono _ _ _ _
   |exact LeO.none _
   |refine LeO.ite ?_ ?_
   |refine LeO.bind ?_ (fun _ => ?_)
theorem round_Pack.mono : ∀ a0 a1 a2 a3 a4 a5 k, LeO (round_Pack.f k a0 a1 a2 a3 a4 a5) (round_Pack.f (k + 1) a0 a1 a2 a3 a4 a5) := by
 intro a0 a1 a2 a3 a4 a5 k
 obtain ⟨ih0, ih1, ih2, ih3⟩ := round_Pack.mono_l k
 unfold round_Pack.f
 repeat' first
   |(with_reducible exact ih0 _ _ _ _ _ _ _)
   |(with_reducible exact ih1 _ _ _ _ _ _ _ _ _)
   |(with_reducible exact ih2 _ _ _ _ _ _ _ _ _)
   |(with_reducible exact ih3 _ _ _ _ _ _ _ _ _)
   |(with_reducible exact bits_Len.mono _ _)
   |(with_reducible exact round_Unit.mono _ _ _ _)
   |(with_reducible exact round_Units.mono _ _ _ _)
   |(with_reducible exact LeO.refl _)
   |(with_reducible exact LeO.none _)
   |(with_reducible refine LeO.ite ?_ ?_)
   |(with_reducible refine LeO.bind ?_ (fun _ => ?_))
   |exact ih0 _ _ _ _ _ _ _
   |exact ih1 _ _ _ _ _ _ _ _ _
   |exact ih2 _ _ _ _ _ _ _ _ _
   |exact ih3 _ _ _ _ _ _ _ _ _
   |exact bits_Len.mono _ _
   |exact round_Unit.mono _ _ _ _
   |exact round_Units.mono _ _ _ _
   |exact LeO.none _
   |refine LeO.ite ?_ ?_
   |refine LeO.bind ?_ (fun _ => ?_)


-- NEED 2
/-! ### sum_Add: function 10 -/
mutual
def sum_Add.j0 : Nat → Int → Int → Int → Int → Bool → Bool → Bool → Option (Int × Bool × Bool × Bool × Bool × Bool)
 |0, _, _, _, _, _, _, _ => none
 |k + 1, x0, x1, x2, x3, x13, x14, x39 => if x39 = true then ((format_Neg.f x0 x2).bind fun t236 => ((format_Neg.f x0 x3).bind fun t237 => ((sum_Infinite.f k x0 t236 t237 x13 x14).bind fun bt238 => (some (bt238.1, bt238.2.1, bt238.2.2.1, bt238.2.2.2.1, bt238.2.2.2.2.1, bt238.2.2.2.2.2))))) else ((sum_Of.f x0 x2).bind fun bt244 => ((sum_Of.f x0 x3).bind fun bt248 => ((sum_Exact.f k bt244.1 bt244.2.1 bt244.2.2.1 bt244.2.2.2 bt248.1 bt248.2.1 bt248.2.2.1 bt248.2.2.2).bind fun bt254 => (if bt254.2.2.1 = 0 then (sum_Add.j1 k x0 x1 (!bt254.2.2.2) bt244.1 bt244.2.1 bt244.2.2.1 bt244.2.2.2 bt248.1 bt248.2.1 bt248.2.2.1 bt248.2.2.2 bt254.1 bt254.2.1 bt254.2.2.1 bt254.2.2.2) else (sum_Add.j1 k x0 x1 false bt244.1 bt244.2.1 bt244.2.2.1 bt244.2.2.2 bt248.1 bt248.2.1 bt248.2.2.1 bt248.2.2.2 bt254.1 bt254.2.1 bt254.2.2.1 bt254.2.2.2)))))
def sum_Add.j1 : Nat → Int → Int → Bool → Bool → Int → Int → Bool → Bool → Int → Int → Bool → Bool → Int → Int → Bool → Option (Int × Bool × Bool × Bool × Bool × Bool)
 |0, _, _, _, _, _, _, _, _, _, _, _, _, _, _, _ => none
 |k + 1, x0, x1, x68, x253000, x253001, x253002, x253003, x254000, x254001, x254002, x254003, x259000, x259001, x259002, x259003 => if x68 = true then ((sum_Nought.f x0 x1 x253000 x254000).bind fun t259 => (some (t259, false, false, false, false, false))) else ((round_Pack.f k x0 x1 x259000 x259001 x259002 x259003).bind fun bt260 => (some (bt260.1, bt260.2.1, bt260.2.2.1, bt260.2.2.2.1, bt260.2.2.2.2.1, bt260.2.2.2.2.2)))
end
def sum_Add.f (k : Nat) (a0 : Int) (a1 : Int) (a2 : Int) (a3 : Int) : Option (Int × Bool × Bool × Bool × Bool × Bool) := (sum_Nans.f k a0 (([a2, a3] : List Int))).bind fun bt226 => (if bt226.2.2.2.2.2.2 = true then (some (bt226.1, bt226.2.1, bt226.2.2.1, bt226.2.2.2.1, bt226.2.2.2.2.1, bt226.2.2.2.2.2.1)) else ((format_IsInf.f k a0 a2).bind fun t234 => ((format_IsInf.f k a0 a3).bind fun t235 => (if t234 = true then (sum_Add.j0 k a0 a1 a2 a3 t234 t235 true) else (sum_Add.j0 k a0 a1 a2 a3 t234 t235 t235)))))
theorem sum_Add.mono_l : ∀ k, (∀ y0 y1 y2 y3 y4 y5 y6, LeO (sum_Add.j0 k y0 y1 y2 y3 y4 y5 y6) (sum_Add.j0 (k + 1) y0 y1 y2 y3 y4 y5 y6)) ∧ (∀ y0 y1 y2 y3 y4 y5 y6 y7 y8 y9 y10 y11 y12 y13 y14, LeO (sum_Add.j1 k y0 y1 y2 y3 y4 y5 y6 y7 y8 y9 y10 y11 y12 y13 y14) (sum_Add.j1 (k + 1) y0 y1 y2 y3 y4 y5 y6 y7 y8 y9 y10 y11 y12 y13 y14))
 |0 => ⟨fun _ _ _ _ _ _ _ r h => by simp [sum_Add.j0] at h, fun _ _ _ _ _ _ _ _ _ _ _ _ _ _ _ r h => by simp [sum_Add.j1] at h⟩
 |k + 1 => by
  obtain ⟨ih0, ih1⟩ := sum_Add.mono_l k
  refine ⟨?_, ?_⟩
  ·intro y0 y1 y2 y3 y4 y5 y6
   unfold sum_Add.j0
   repeat' first
   |(with_reducible exact ih0 _ _ _ _ _ _ _)
   |(with_reducible exact ih1 _ _ _ _ _ _ _ _ _ _ _ _ _ _ _)
   |(with_reducible exact format_IsInf.mono _ _ _)
   |(with_reducible exact round_Pack.mono _ _ _ _ _ _ _)
   |(with_reducible exact sum_Exact.mono _ _ _ _ _ _ _ _ _)
   |(with_reducible exact sum_Infinite.mono _ _ _ _ _ _)
   |(with_reducible exact sum_Nans.mono _ _ _)
   |(with_reducible exact LeO.refl _)
   |(with_reducible exact LeO.none _)
   |(with_reducible refine LeO.ite ?_ ?_)
   |(with_reducible refine LeO.bind ?_ (fun _ => ?_))
   |exact ih0 _ _ _ _ _ _ _
   |exact ih1 _ _ _ _ _ _ _ _ _ _ _ _ _ _ _
   |exact format_IsInf.mono _ _ _
   |exact round_Pack.mono _ _ _ _ _ _ _
   |exact sum_Exact.mono _ _ _ _ _ _ _ _ _
   |exact sum_Infinite.mono _ _ _ _ _ _
   |exact sum_Nans.mono _ _ _
   |exact LeO.none _
   |refine LeO.ite ?_ ?_
   |refine LeO.bind ?_ (fun _ => ?_)
  ·intro y0 y1 y2 y3 y4 y5 y6 y7 y8 y9 y10 y11 y12 y13 y14
   unfold sum_Add.j1
   repeat' first
   |(with_reducible exact ih0 _ _ _ _ _ _ _)
   |(with_reducible exact ih1 _ _ _ _ _ _ _ _ _ _ _ _ _ _ _)
   |(with_reducible exact format_IsInf.mono _ _ _)
   |(with_reducible exact round_Pack.mono _ _ _ _ _ _ _)
   |(with_reducible exact sum_Exact.mono _ _ _ _ _ _ _ _ _)
   |(with_reducible exact sum_Infinite.mono _ _ _ _ _ _)
   |(with_reducible exact sum_Nans.mono _ _ _)
   |(with_reducible exact LeO.refl _)
   |(with_reducible exact LeO.none _)
   |(with_reducible refine LeO.ite ?_ ?_)
   |(with_reducible refine LeO.bind ?_ (fun _ => ?_))
   |exact ih0 _ _ _ _ _ _ _
   |exact ih1 _ _ _ _ _ _ _ _ _ _ _ _ _ _ _
   |exact format_IsInf.mono _ _ _
   |exact round_Pack.mono _ _ _ _ _ _ _
   |exact sum_Exact.mono _ _ _ _ _ _ _ _ _
   |exact sum_Infinite.mono _ _ _ _ _ _
   |exact sum_Nans.mono _ _ _
   |exact LeO.none _
   |refine LeO.ite ?_ ?_
   |refine LeO.bind ?_ (fun _ => ?_)
theorem sum_Add.mono : ∀ a0 a1 a2 a3 k, LeO (sum_Add.f k a0 a1 a2 a3) (sum_Add.f (k + 1) a0 a1 a2 a3) := by
 intro a0 a1 a2 a3 k
 obtain ⟨ih0, ih1⟩ := sum_Add.mono_l k
 unfold sum_Add.f
 repeat' first
   |(with_reducible exact ih0 _ _ _ _ _ _ _)
   |(with_reducible exact ih1 _ _ _ _ _ _ _ _ _ _ _ _ _ _ _)
   |(with_reducible exact format_IsInf.mono _ _ _)
   |(with_reducible exact round_Pack.mono _ _ _ _ _ _ _)
   |(with_reducible exact sum_Exact.mono _ _ _ _ _ _ _ _ _)
   |(with_reducible exact sum_Infinite.mono _ _ _ _ _ _)
   |(with_reducible exact sum_Nans.mono _ _ _)
   |(with_reducible exact LeO.refl _)
   |(with_reducible exact LeO.none _)
   |(with_reducible refine LeO.ite ?_ ?_)
   |(with_reducible refine LeO.bind ?_ (fun _ => ?_))
   |exact ih0 _ _ _ _ _ _ _
   |exact ih1 _ _ _ _ _ _ _ _ _ _ _ _ _ _ _
   |exact format_IsInf.mono _ _ _
   |exact round_Pack.mono _ _ _ _ _ _ _
   |exact sum_Exact.mono _ _ _ _ _ _ _ _ _
   |exact sum_Infinite.mono _ _ _ _ _ _
   |exact sum_Nans.mono _ _ _
   |exact LeO.none _
   |refine LeO.ite ?_ ?_
   |refine LeO.bind ?_ (fun _ => ?_)


-- NEED 0
/-! ### format_Mask: function 72 -/
def format_Mask.f (a0 : Int) : Option (Int) := (format_Widths.f a0).bind fun bt266 => (if 0 ≤ (IntKind.u64.wrap (wrap64 ((wrap64 (bt266.1 + bt266.2)) + 1))) then (some (((shl .u32 1 (IntKind.u64.wrap (wrap64 ((wrap64 (bt266.1 + bt266.2)) + 1)))) - 1) % 4294967296)) else (none))
set_option maxHeartbeats 8000000 in
set_option maxRecDepth 100000 in
theorem format_Mask.calls (a0 : Int) (r : Int) (w : World) (h : format_Mask.f a0 = some r) :
  Calls Try.prog 72 #[.int .i64 a0] w fun e w' => e = .returned (.int .u32 r) ∧ Drawn0 w w' := by
 have H : ((format_Widths.f a0).bind fun bt266 => (if 0 ≤ (IntKind.u64.wrap (wrap64 ((wrap64 (bt266.1 + bt266.2)) + 1))) then (some (((shl .u32 1 (IntKind.u64.wrap (wrap64 ((wrap64 (bt266.1 + bt266.2)) + 1)))) - 1) % 4294967296)) else (none))) = some r := h
 clear h
 replace H := Option.bind_eq_some_iff.mp H
 obtain ⟨⟨t266, t267⟩, A20, H⟩ := H
 replace H : (if 0 ≤ (IntKind.u64.wrap (wrap64 ((wrap64 (t266 + t267)) + 1))) then (some (((shl .u32 1 (IntKind.u64.wrap (wrap64 ((wrap64 (t266 + t267)) + 1)))) - 1) % 4294967296)) else (none)) = some r := H
 have A2 := Aside0.mk A20
 clear A20
 obtain ⟨ji3, hji3⟩ : ∃ j_ : Int, (IntKind.u64.wrap (wrap64 ((wrap64 (t266 + t267)) + 1))) = j_ := ⟨_, rfl⟩
 replace H : (if 0 ≤ (ji3) then (some (((shl .u32 1 (ji3)) - 1) % 4294967296)) else (none)) = some r := by first | (rw [hji3] at H; exact H) | (simp only [hji3] at H ⊢; exact H)
 (try rw [hji3] at A2)
 by_cases c4 : 0 ≤ (ji3)
 ·rw [if_pos c4] at H
  have c4b0 := eq_true c4
  have c4b1 : decide (0 ≤ (ji3)) = true := decide_eq_true c4
  clear c4
  obtain ⟨ji5, hji5⟩ : ∃ j_ : Int, (shl .u32 1 (ji3)) = j_ := ⟨_, rfl⟩
  replace H : (some (((ji5) - 1) % 4294967296)) = some r := by first | (rw [hji5] at H; exact H) | (simp only [hji5] at H ⊢; exact H)
  (try rw [hji5] at A2)
  have hji5_ : (IntKind.u32.wrap (1 * 2 ^ min (ji3).toNat 32)) = ji5 := hji5
  have hji5z : (ji3) ≤ 32 → (IntKind.u32.wrap (1 * 2 ^ (ji3).toNat)) = ji5 := shl_small hji5
  have hji5u : (IntKind.u32.wrap (2 ^ min (ji3).toNat 32)) = ji5 := by have h_ := hji5_; rw [Int.one_mul] at h_; exact h_
  have hji5v : (ji3) ≤ 32 → (IntKind.u32.wrap (2 ^ (ji3).toNat)) = ji5 := fun hle_ => by have h_ := hji5z hle_; rw [Int.one_mul] at h_; exact h_
  obtain ⟨ji6, hji6⟩ : ∃ j_ : Int, (((ji5) - 1) % 4294967296) = j_ := ⟨_, rfl⟩
  replace H : (some ji6) = some r := by first | (rw [hji6] at H; exact H) | (simp only [hji6] at H ⊢; exact H)
  (try rw [hji6] at A2)
  have hji6l : 0 ≤ ji6 := by rw [← hji6]; exact Int.emod_nonneg _ (by decide)
  have hji6h : ji6 ≤ 4294967295 := by have := Int.emod_lt_of_pos (((ji5) - 1)) (show (0 : Int) < 4294967296 by decide); omega
  have hji6w : (IntKind.u32.wrap ((ji5) - 1)) = ji6 := (u32_w _).trans hji6
  (try (have hji6_ := hji6; simp only [Int.add_emod_emod, Int.emod_add_emod, Int.sub_emod_emod, Int.emod_sub_emod] at hji6_))
  obtain rfl := Option.some.inj H
  go_enter Try.func72, Try.ntmps72
  go_wp2_with (first | ((with_reducible refine gate_callee (f := 56) rfl ?_); refine goesL_ (some 7) rfl rfl Try.func56 (by kernel_rfl) rfl #[.int .i64 a0] rfl gl ?_; (with_reducible refine (format_Widths.calls a0 t266 t267 _ A2.out).mono ?_); rintro e w' ⟨rfl, ⟨nd, rfl⟩⟩; refine ⟨_, rfl, ?_⟩))
  go_ret
  exact ⟨by first | rfl | (simp; done) | (simp only [← hji3, ← hji5, ← hji6] <;> (first | rfl | (simp; done))) | (simp [*]; done) | (congr 1; (try unfold wrap64); omega) | (congr 1; rw [IntKind.wrap_u64]; omega), by repeat (first | exact Drawn0.refl _ | apply Drawn0.step)⟩
 ·rw [if_neg c4] at H
  exact absurd H (by simp)

-- NEED 0
/-! ### format_Turn: function 41 -/
def format_Turn.f (a0 : Int) (a1 : Int) : Option (Int) := (format_Widths.f a0).bind fun bt268 => ((format_Mask.f a0).bind fun t270 => (if 0 ≤ (IntKind.u64.wrap (wrap64 (bt268.1 + bt268.2))) then (some (Go.bits .xor .u32 (Go.bits .and .u32 a1 t270) (shl .u32 1 (IntKind.u64.wrap (wrap64 (bt268.1 + bt268.2)))))) else (none)))
set_option maxHeartbeats 8000000 in
set_option maxRecDepth 100000 in
theorem format_Turn.calls (a0 : Int) (a1 : Int) (r : Int) (w : World) (h : format_Turn.f a0 a1 = some r) :
  Calls Try.prog 41 #[.int .i64 a0, .int .u32 a1] w fun e w' => e = .returned (.int .u32 r) ∧ Drawn0 w w' := by
 have H : ((format_Widths.f a0).bind fun bt268 => ((format_Mask.f a0).bind fun t270 => (if 0 ≤ (IntKind.u64.wrap (wrap64 (bt268.1 + bt268.2))) then (some (Go.bits .xor .u32 (Go.bits .and .u32 a1 t270) (shl .u32 1 (IntKind.u64.wrap (wrap64 (bt268.1 + bt268.2)))))) else (none)))) = some r := h
 clear h
 replace H := Option.bind_eq_some_iff.mp H
 obtain ⟨⟨t268, t269⟩, A30, H⟩ := H
 replace H : ((format_Mask.f a0).bind fun t270 => (if 0 ≤ (IntKind.u64.wrap (wrap64 (t268 + t269))) then (some (Go.bits .xor .u32 (Go.bits .and .u32 a1 t270) (shl .u32 1 (IntKind.u64.wrap (wrap64 (t268 + t269)))))) else (none))) = some r := H
 have A3 := Aside0.mk A30
 clear A30
 replace H := Option.bind_eq_some_iff.mp H
 obtain ⟨t270, A40, H⟩ := H
 replace H : (if 0 ≤ (IntKind.u64.wrap (wrap64 (t268 + t269))) then (some (Go.bits .xor .u32 (Go.bits .and .u32 a1 t270) (shl .u32 1 (IntKind.u64.wrap (wrap64 (t268 + t269)))))) else (none)) = some r := H
 have A4 := Aside0.mk A40
 clear A40
 obtain ⟨ji5, hji5⟩ : ∃ j_ : Int, (IntKind.u64.wrap (wrap64 (t268 + t269))) = j_ := ⟨_, rfl⟩
 replace H : (if 0 ≤ (ji5) then (some (Go.bits .xor .u32 (Go.bits .and .u32 a1 t270) (shl .u32 1 (ji5)))) else (none)) = some r := by first | (rw [hji5] at H; exact H) | (simp only [hji5] at H ⊢; exact H)
 (try rw [hji5] at A3)
 (try rw [hji5] at A4)
 by_cases c6 : 0 ≤ (ji5)
 ·rw [if_pos c6] at H
  have c6b0 := eq_true c6
  have c6b1 : decide (0 ≤ (ji5)) = true := decide_eq_true c6
  clear c6
  obtain ⟨ji7, hji7⟩ : ∃ j_ : Int, (shl .u32 1 (ji5)) = j_ := ⟨_, rfl⟩
  replace H : (some (Go.bits .xor .u32 (Go.bits .and .u32 a1 t270) (ji7))) = some r := by first | (rw [hji7] at H; exact H) | (simp only [hji7] at H ⊢; exact H)
  (try rw [hji7] at A3)
  (try rw [hji7] at A4)
  have hji7_ : (IntKind.u32.wrap (1 * 2 ^ min (ji5).toNat 32)) = ji7 := hji7
  have hji7z : (ji5) ≤ 32 → (IntKind.u32.wrap (1 * 2 ^ (ji5).toNat)) = ji7 := shl_small hji7
  have hji7u : (IntKind.u32.wrap (2 ^ min (ji5).toNat 32)) = ji7 := by have h_ := hji7_; rw [Int.one_mul] at h_; exact h_
  have hji7v : (ji5) ≤ 32 → (IntKind.u32.wrap (2 ^ (ji5).toNat)) = ji7 := fun hle_ => by have h_ := hji7z hle_; rw [Int.one_mul] at h_; exact h_
  obtain rfl := Option.some.inj H
  go_enter Try.func41, Try.ntmps41
  go_wp2_with (first | ((with_reducible refine gate_callee (f := 56) rfl ?_); refine goesL_ (some 9) rfl rfl Try.func56 (by kernel_rfl) rfl #[.int .i64 a0] rfl gl ?_; (with_reducible refine (format_Widths.calls a0 t268 t269 _ A3.out).mono ?_); rintro e w' ⟨rfl, ⟨nd, rfl⟩⟩; refine ⟨_, rfl, ?_⟩) | ((with_reducible refine gate_callee (f := 72) rfl ?_); refine goesL_ (some 14) rfl rfl Try.func72 (by kernel_rfl) rfl #[.int .i64 a0] rfl gl ?_; (with_reducible refine (format_Mask.calls a0 t270 _ A4.out).mono ?_); rintro e w' ⟨rfl, ⟨nd, rfl⟩⟩; refine ⟨_, rfl, ?_⟩))
  go_ret
  exact ⟨by first | rfl | (simp; done) | (simp only [← hji5, ← hji7] <;> (first | rfl | (simp; done))) | (simp [*]; done) | (congr 1; (try unfold wrap64); omega) | (congr 1; rw [IntKind.wrap_u64]; omega), by repeat (first | exact Drawn0.refl _ | apply Drawn0.step)⟩
 ·rw [if_neg c6] at H
  exact absurd H (by simp)


-- NEED 3
/-! ### sum_Sub: function 12 -/
def sum_Sub.f (k : Nat) (a0 : Int) (a1 : Int) (a2 : Int) (a3 : Int) : Option (Int × Bool × Bool × Bool × Bool × Bool) := (sum_Nans.f k a0 (([a2, a3] : List Int))).bind fun bt275 => (if bt275.2.2.2.2.2.2 = true then (some (bt275.1, bt275.2.1, bt275.2.2.1, bt275.2.2.2.1, bt275.2.2.2.2.1, bt275.2.2.2.2.2.1)) else ((format_Turn.f a0 a3).bind fun t283 => ((sum_Add.f k a0 a1 a2 t283).bind fun bt284 => (some (bt284.1, bt284.2.1, bt284.2.2.1, bt284.2.2.2.1, bt284.2.2.2.2.1, bt284.2.2.2.2.2)))))
theorem sum_Sub.mono : ∀ a0 a1 a2 a3 k, LeO (sum_Sub.f k a0 a1 a2 a3) (sum_Sub.f (k + 1) a0 a1 a2 a3) := by
 intro a0 a1 a2 a3 k
 unfold sum_Sub.f
 repeat' first
   |(with_reducible exact sum_Add.mono _ _ _ _ _)
   |(with_reducible exact sum_Nans.mono _ _ _)
   |(with_reducible exact LeO.refl _)
   |(with_reducible exact LeO.none _)
   |(with_reducible refine LeO.ite ?_ ?_)
   |(with_reducible refine LeO.bind ?_ (fun _ => ?_))
   |exact sum_Add.mono _ _ _ _ _
   |exact sum_Nans.mono _ _ _
   |exact LeO.none _
   |refine LeO.ite ?_ ?_
   |refine LeO.bind ?_ (fun _ => ?_)

/- What one side answers the other answers. -/
theorem LeO.ite3 {α : Type} {c d : Prop} [Decidable c] [Decidable d] (e : c ↔ d) {a a' b b' : Option α} (h : c → LeO a a') (k : ¬ c → LeO b b') : LeO (if c then a else b) (if d then a' else b') := by
 by_cases x : c
 ·rw [if_pos x, if_pos (e.mp x)]; exact h x
 ·rw [if_neg x, if_neg (fun y => x (e.mpr y))]; exact k x
theorem LeO.pos {α : Type} {c : Prop} [Decidable c] (x : c) {a b b' : Option α} (h : LeO a b) : LeO a (if c then b else b') := by rw [if_pos x]; exact h
theorem LeO.neg {α : Type} {c : Prop} [Decidable c] (x : ¬ c) {a b b' : Option α} (h : LeO a b') : LeO a (if c then b else b') := by rw [if_neg x]; exact h
theorem LeO.posl {α : Type} {c : Prop} [Decidable c] (x : c) {a b b' : Option α} (h : LeO b a) : LeO (if c then b else b') a := by rw [if_pos x]; exact h
theorem LeO.negl {α : Type} {c : Prop} [Decidable c] (x : ¬ c) {a b b' : Option α} (h : LeO b' a) : LeO (if c then b else b') a := by rw [if_neg x]; exact h
end Go.Proofs.Ytejkemahdincjaa.P

/- A reckoner of Go code over numbers, structs, arrays and local variables: it steps through code as the machine does, in plain Lean, so that Lean's kernel can reckon it. -/
namespace Go.Proofs.Ytejkemahdincjaa.Ek
open Go.RowKit Go.Proofs.YtejkemahdincjaaW.PrintWords Go.Proofs.YtejkemahdincjaaW.PrintLast Go.Proofs.YtejkemahdincjaaW.PrintMore

abbrev cnd {α : Type _} (b : Bool) (t e : α) : α := match b with
 |true => t
 |false => e
inductive IE where
 |l (n : Int)
 |x (n : Int)
def IE.d : IE → Int
 |.l n => n
 |.x n => n
inductive BE where
 |tt | ff
 |q (b : Bool)
 |lt (x y : Int)
 |le (x y : Int)
 |eq (x y : Int)
 |no (b : BE)
def BE.d : BE → Bool
 |.tt => true
 |.ff => false
 |.q b => b
 |.lt x y => decide (x < y)
 |.le x y => decide (x ≤ y)
 |.eq x y => x == y
 |.no b => !b.d
def BE.ite {α : Type _} : BE → α → α → α
 |.tt, t, _ => t
 |.ff, _, e => e
 |.q b, t, e => if b = true then t else e
 |.lt x y, t, e => if x < y then t else e
 |.le x y, t, e => if x ≤ y then t else e
 |.eq x y, t, e => if x = y then t else e
 |.no b, t, e => b.ite e t
def BE.neg : BE → BE
 |.tt => .ff
 |.ff => .tt
 |.no b => b
 |b => .no b
def BE.lit (b : Bool) : BE := cnd (b) (.tt) <| .ff

inductive C where
 |i (k : IntKind) (x : IE)
 |b (x : BE)
 |p (g o : Nat)
 |pd (g o : Nat) (i : Int) (n : Nat)
 |sl (g o n c : Nat)
inductive S where
 |c (c : C)
 |a (k : IntKind) (xs : List Int) (n : Nat)
def S.len : S → Nat
 |.c _ => 1
 |.a _ _ n => n
inductive PV where
 |one (c : C)
 |agg (ss : List S)
inductive SV where
 |pv (v : PV)
 |tup (vs : List PV)
 |und

def look {α : Type _} : List (Nat × α) → Nat → Option α
 |[], _ => none
 |(k, v) :: r, t => cnd (Nat.beq k t) (some v) <| look r t
def upd {α : Type _} : List (Nat × α) → Nat → α → List (Nat × α)
 |[], _, _ => []
 |(k, v) :: r, t, u => cnd (Nat.beq k t) ((k, u) :: r) <| (k, v) :: upd r t u

structure St where
 env : List (Nat × SV)
 heap : List (Nat × Nat × List S)
 next : Nat
abbrev St.put (s : St) (d : Option Nat) (v : SV) : St := match d with
 |some d => ⟨(d, v) :: s.env, s.heap, s.next⟩
 |none => s

def ofCell : Value → Option S
 |.int k n => some (.c (.i k (.l n)))
 |.bool b => some (.c (.b (.lit b)))
 |_ => none
def ofCells : List Value → Option (List S)
 |[] => some []
 |v :: r => match ofCell v, ofCells r with
  |some c, some cs => some (c :: cs)
  |_, _ => none
def ofV : Value → Option SV
 |.int k n => some (.pv (.one (.i k (.l n))))
 |.bool b => some (.pv (.one (.b (.lit b))))
 |.agg cs => match ofCells cs.toList with
  |some ss => some (.pv (.agg ss))
  |none => none
 |_ => none
def ev (env : List (Nat × SV)) : Operand → Option SV
 |.tmp t => look env t
 |.const v => ofV v
 |_ => none
def evs (env : List (Nat × SV)) : List Operand → Option (List PV)
 |[] => some []
 |x :: r => match ev env x, evs env r with
  |some (.pv v), some vs => some (v :: vs)
  |_, _ => none

def splitS : List S → Nat → Option (List S × List S)
 |[], m => cnd (Nat.beq m 0) (some ([], [])) <| none
 |s :: r, m => cnd (Nat.beq m 0) (some ([], s :: r)) <|     cnd (Nat.ble s.len m) ((match splitS r (m - s.len) with
   |some (a, b) => some (s :: a, b)
   |none => none)) <| none
def lenS : List S → Nat
 |[] => 0
 |s :: r => s.len + lenS r
def sub (ss : List S) (o n : Nat) : Option (List S) := match splitS ss o with
 |some (_, r) => match splitS r n with
  |some (a, _) => some a
  |none => none
 |none => none
def cellAt : List S → Nat → Option C
 |[], _ => none
 |.c c :: r, o => cnd (Nat.beq o 0) (some c) <| cellAt r (o - 1)
 |.a k xs n :: r, o => cnd (Nat.blt o n) (some (.i k (.x (rd xs (Int.ofNat o))))) <| cellAt r (o - n)
def setAt : List S → Nat → C → Option (List S)
 |[], _, _ => none
 |.c c :: r, o, u => cnd (Nat.beq o 0) (some (.c u :: r)) <| (match setAt r (o - 1) u with
  |some r' => some (.c c :: r')
  |none => none)
 |.a k xs n :: r, o, u => cnd (Nat.blt o n) ((match u with
   |.i k' v => cnd (decide (k' = k)) (some (.a k (xs.set o v.d) n :: r)) <| none
   |_ => none)) <| (match setAt r (o - n) u with
   |some r' => some (.a k xs n :: r')
   |none => none)
def runAt : List S → Nat → Option (IntKind × List Int × Nat)
 |[], _ => none
 |.c _ :: r, o => cnd (Nat.beq o 0) (none) <| runAt r (o - 1)
 |.a k xs n :: r, o => cnd (Nat.beq o 0) (some (k, xs, n)) <| cnd (Nat.ble n o) (runAt r (o - n)) <| none
def setRun : List S → Nat → List Int → List S
 |[], _, _ => []
 |.c c :: r, o, ys => .c c :: (cnd (Nat.beq o 0) (r) <| setRun r (o - 1) ys)
 |.a k xs n :: r, o, ys => cnd (Nat.beq o 0) (.a k ys n :: r) <| .a k xs n :: setRun r (o - n) ys
def setSub (ss : List S) (o : Nat) (new : List S) : Option (List S) := match splitS ss o with
 |some (a, r) => match splitS r (lenS new) with
  |some (_, b) => some (a ++ (new ++ b))
  |none => none
 |none => none

def wrapF (k : IntKind) (n : Int) : Int := match k with
 |.i64 => wrap64 n
 |.i32 => wrap32 n
 |.u32 => n % 4294967296
 |.u8 => n % 256
 |k => k.wrap n
def IE.mk2 (a b : IE) (n : Int) : IE := match a, b with
 |.l _, .l _ => .l n
 |_, _ => .x n
def IE.cmp (a b : IE) (e : BE) : BE := match a, b with
 |.l _, .l _ => .lit e.d
 |_, _ => e
def IE.nz (a : IE) : BE := match a with
 |.l n => .lit (n == 0)
 |.x n => .eq n 0
def IE.ge0 (a : IE) : BE := match a with
 |.l n => .lit (decide (0 ≤ n))
 |.x n => .le 0 n
def binI {R : Type} (op : BinOp) (k : IntKind) (k' : IntKind) (a b : IE) (K : C → Option R) : Option R := match op with
 |.shl => b.ge0.ite (K (.i k (IE.mk2 a b (shl k a.d b.d)))) none
 |.shr => b.ge0.ite (K (.i k (IE.mk2 a b (shr k a.d b.d)))) none
 |op => cnd (decide (k = k')) ((match op with
  |.add => K (.i k (IE.mk2 a b (wrapF k (a.d + b.d))))
  |.sub => K (.i k (IE.mk2 a b (wrapF k (a.d - b.d))))
  |.mul => K (.i k (IE.mk2 a b (wrapF k (a.d * b.d))))
  |.quo => b.nz.ite none (K (.i k (IE.mk2 a b (wrapF k (Int.tdiv a.d b.d)))))
  |.rem => b.nz.ite none (K (.i k (IE.mk2 a b (Int.tmod a.d b.d))))
  |.and => K (.i k (IE.mk2 a b (Go.bits .and k a.d b.d)))
  |.or => K (.i k (IE.mk2 a b (Go.bits .or k a.d b.d)))
  |.xor => K (.i k (IE.mk2 a b (Go.bits .xor k a.d b.d)))
  |.andNot => K (.i k (IE.mk2 a b (Go.bits .andNot k a.d b.d)))
  |.eql => K (.b (IE.cmp a b (.eq a.d b.d)))
  |.neq => K (.b (IE.cmp a b (.eq a.d b.d)).neg)
  |.lss => K (.b (IE.cmp a b (.lt a.d b.d)))
  |.leq => K (.b (IE.cmp a b (.le a.d b.d)))
  |.gtr => K (.b (IE.cmp a b (.lt b.d a.d)))
  |.geq => K (.b (IE.cmp a b (.le b.d a.d)))
  |_ => none)) <| none
def eqB (a b : BE) : BE := match a, b with
 |.tt, b => b
 |.ff, b => b.neg
 |a, .tt => a
 |a, .ff => a.neg
 |a, b => .q (a.d == b.d)
def intsS (k : IntKind) : List S → Option (List Int)
 |[] => some []
 |.c (.i k' x) :: r => match intsS k r with
  |some xs => cnd (decide (k' = k)) (some (x.d :: xs)) <| none
  |none => none
 |.a k' xs _ :: r => match intsS k r with
  |some ys => cnd (decide (k' = k)) (some (xs ++ ys)) <| none
  |none => none
 |_ => none

section
variable (P : Program)
def lay : Nat → Nat → Option (List S)
 |0, _ => none
 |d + 1, t => match P.underlying t with
  |some (.int k) => some [.c (.i k (.l 0))]
  |some .bool => some [.c (.b .ff)]
  |some (.struct fs) => fs.toList.foldr (fun f r => match lay d f.type, r with
   |some a, some b => some (a ++ b)
   |_, _ => none) (some [])
  |some (.array n e) => match P.underlying e with
   |some (.int k) => some [.a k (List.replicate n 0) n]
   |_ => none
  |_ => none
def isLit : S → List Value → Option (List Value)
 |.c (.i k (.l n)), .int k' n' :: r => cnd (decide (k = k') && (n == n')) (some r) <| none
 |.c (.b .ff), .bool false :: r => some r
 |.a k xs n, vs => go k xs n vs
 |_, _ => none
where go (k : IntKind) : List Int → Nat → List Value → Option (List Value)
 |[], 0, vs => some vs
 |x :: xs, n + 1, .int k' y :: vs => cnd (decide (k = k') && (x == y)) (go k xs n vs) <| none
 |_, _, _ => none
def areLit : List S → List Value → Bool
 |[], [] => true
 |s :: r, vs => match isLit s vs with
  |some q => areLit r q
  |none => false
 |_, _ => false
def zeroS (t : Nat) : Option (List S) := match P.info? t with
 |some i => match i.zero with
  |some v => match lay P 8 t with
   |some ss => cnd (areLit ss v.cells.toList) (some ss) <| none
   |none => none
  |none => none
 |none => none
def isAggT (t : Nat) : Option Bool := match P.underlying t with
 |some (.struct _) => some true
 |some (.array _ _) => some true
 |some _ => some false
 |none => none
def sizeT (t : Nat) : Option Nat := match P.info? t with
 |some i => some i.size
 |none => none
def partS (t : Nat) (ss : List S) (o : Nat) : Option PV := match isAggT P t, sizeT P t with
 |some true, some n => match sub ss o n with
  |some r => some (.agg r)
  |none => none
 |some false, some _ => match cellAt ss o with
  |some c => some (.one c)
  |none => none
 |_, _ => none
def eqF : List Field → Nat → List S → List S → Option Bool
 |[], _, a, b => match a, b with
  |[], [] => some true
  |_, _ => none
 |f :: fs, i, a, b => match a, b with
  |.c (.i k x) :: r, .c (.i k' y) :: q => match P.underlying f.type with
   |some (.int _) => match eqF fs (i + 1) r q with
    |some t => cnd ((f.name != "_") && Nat.beq f.offset i && decide (k = k')) (some ((x.d == y.d) && t)) <| none
    |none => none
   |_ => none
  |.c (.b x) :: r, .c (.b y) :: q => match P.underlying f.type with
   |some .bool => match eqF fs (i + 1) r q with
    |some t => cnd ((f.name != "_") && Nat.beq f.offset i) (some ((x.d == y.d) && t)) <| none
    |none => none
   |_ => none
  |_, _ => none
def eqT (t : Nat) (a b : List S) : Option Bool := match P.underlying t with
 |some (.struct fs) => cnd (!P.stoodInHeld t && !P.eqGuardType P.depth t) (eqF P fs.toList 0 a b) <| none
 |some (.array n e) => match P.underlying e, sizeT P e with
  |some (.int k), some 1 => cnd (!P.eqGuardType P.depth t) ((match intsS k a, intsS k b with
   |some xs, some ys => cnd (Nat.beq (lenS a) n && Nat.beq (lenS b) n) (some (xs == ys)) <| none
   |_, _ => none)) <| none
  |_, _ => none
 |_ => none
def fillS (env : List (Nat × SV)) (places : List (Nat × Nat)) : List S → List (Nat × Operand) → Option (List S)
 |ss, [] => some ss
 |ss, (j, x) :: r => match places[j]?, ev env x with
  |some (o, 1), some (.pv (.one c)) => match setAt ss o c with
   |some ss' => fillS env places ss' r
   |none => none
  |some (o, n), some (.pv (.agg new)) => cnd (Nat.beq n (lenS new)) ((match setSub ss o new with
   |some ss' => fillS env places ss' r
   |none => none)) <| none
  |_, _ => none
def evVal {R : Type} (op : Op) (env : List (Nat × SV)) (K : SV → Option R) : Option R := match op with
 |.move x => match ev env x with
  |some v => K v
  |none => none
 |.assign x => match ev env x with
  |some v => K v
  |none => none
 |.pick c a b => match ev env c with
  |some (.pv (.one (.b e))) => e.ite (match ev env a with
    |some v => K v
    |none => none) (match ev env b with
    |some v => K v
    |none => none)
  |_ => none
 |.binOp op t x y _ => match ev env x, ev env y with
  |some (.pv (.one (.i k a))), some (.pv (.one (.i k' b))) => binI op k k' a b (fun c => K (.pv (.one c)))
  |some (.pv (.one (.b a))), some (.pv (.one (.b b))) => match P.underlying t with
   |some .bool => match op with
    |.eql => K (.pv (.one (.b (eqB a b))))
    |.neq => K (.pv (.one (.b (eqB a b).neg)))
    |_ => none
   |_ => none
  |some (.pv (.agg a)), some (.pv (.agg b)) => match eqT P t a b with
   |some e => match op with
    |.eql => K (.pv (.one (.b (.q e))))
    |.neq => K (.pv (.one (.b (.no (.q e)))))
    |_ => none
   |none => none
  |_, _ => none
 |.unOp op _ x => match op, ev env x with
  |.neg, some (.pv (.one (.i k a))) => K (.pv (.one (.i k (IE.mk2 a a (wrapF k (-a.d))))))
  |.xor, some (.pv (.one (.i k a))) => K (.pv (.one (.i k (IE.mk2 a a (Go.bits .xor k (if k.signed then -1 else k.max) a.d)))))
  |.not, some (.pv (.one (.b a))) => K (.pv (.one (.b a.neg)))
  |_, _ => none
 |.convert s t x => match P.underlying s, P.underlying t, ev env x with
  |some _, some (.int k), some (.pv (.one (.i _ a))) => K (.pv (.one (.i k (IE.mk2 a a (wrapF k a.d)))))
  |_, _, _ => none
 |.fieldAddr t x f => match P.underlying t, ev env x with
  |some (.struct fs), some (.pv (.one (.p g o))) => match fs[f]? with
   |some fd => match sizeT P fd.type with
    |some (_ + 1) => K (.pv (.one (.p g (o + fd.offset))))
    |_ => none
   |none => none
  |_, _ => none
 |.field t x f => match P.underlying t, ev env x with
  |some (.struct fs), some (.pv (.agg ss)) => match fs[f]? with
   |some fd => match partS P fd.type ss fd.offset with
    |some v => K (.pv v)
    |none => none
   |none => none
  |_, _ => none
 |.indexAddr t x i => match P.underlying t, ev env x, ev env i with
  |some (.array n e), some (.pv (.one (.p g o))), some (.pv (.one (.i _ (.l j)))) => match sizeT P e with
   |some z => cnd (decide (0 ≤ j) && decide (j < (n : Int))) (K (.pv (.one (.p g (o + j.toNat * z))))) <| none
   |none => none
  |some (.array n e), some (.pv (.one (.p g o))), some (.pv (.one (.i _ (.x j)))) => match sizeT P e with
   |some 1 => if 0 ≤ j then (if j < (n : Int) then K (.pv (.one (.pd g o j n))) else none) else none
   |_ => none
  |some (.slice e), some (.pv (.one (.sl g o n _))), some (.pv (.one (.i _ j))) => match sizeT P e with
   |some 1 => if 0 ≤ j.d then (if j.d < (n : Int) then K (.pv (.one (.pd g o j.d n))) else none) else none
   |_ => none
  |_, _, _ => none
 |.index t x i => match P.underlying t, ev env x, ev env i with
  |some (.array n e), some (.pv (.agg ss)), some (.pv (.one (.i _ j))) => match isAggT P e, ss with
   |some false, [.a k xs m] => cnd (Nat.beq m n) ((match sizeT P e with
     |some 1 => if 0 ≤ j.d then (if j.d < (n : Int) then K (.pv (.one (.i k (.x (rd xs j.d))))) else none) else none
     |_ => none)) <| none
   |_, _ => none
  |_, _, _ => none
 |.extract x i => match ev env x with
  |some (.tup vs) => match vs[i]? with
   |some v => K (.pv v)
   |none => none
  |_ => none
 |.nilCheck x => match ev env x with
  |some (.pv (.one (.p g o))) => K (.pv (.one (.p g o)))
  |_ => none
 |.build t ps => match P.underlying t, zeroS P t with
  |some (.struct fs), some ss => match fs.toList.mapM (fun f => (P.info? f.type).map fun i => (f.offset, i.size)) with
   |some places => match fillS env places ss ps.toList with
    |some ss => K (.pv (.agg ss))
    |none => none
   |none => none
  |some (.array n e), some ss => match P.info? e with
   |some ie => match fillS env ((List.range n).map fun i => (i * ie.size, ie.size)) ss ps.toList with
    |some ss => K (.pv (.agg ss))
    |none => none
   |none => none
  |_, _ => none
 |.call { callee := .builtin .len, args, argTypes } => match argTypes[0]?, args[0]? with
  |some t, some x => match P.underlying t, ev env x with
   |some (.slice _), some (.pv (.one (.sl _ _ n _))) => K (.pv (.one (.i .i64 (.x (n : Int)))))
   |_, _ => none
  |_, _ => none
 |.call { callee := .builtin .min, args, .. } => match evs env args.toList with
  |some [.one (.i k a), .one (.i k' b)] => cnd (decide (k = k')) (K (.pv (.one (.i k (IE.mk2 a b (mn a.d b.d)))))) <| none
  |_ => none
 |.call { callee := .builtin .max, args, .. } => match evs env args.toList with
  |some [.one (.i k a), .one (.i k' b)] => cnd (decide (k = k')) (K (.pv (.one (.i k (IE.mk2 a b (mx a.d b.d)))))) <| none
  |_ => none
 |_ => none

structure Fc where
 run : (R : Type) → Nat → List (Nat × Nat × List S) → List PV → (SV → Option R) → Option R
abbrev Cls := List (Nat × Fc)

def PV.segs : PV → List S
 |.one c => [.c c]
 |.agg ss => ss
def loadS (t : Nat) (heap : List (Nat × Nat × List S)) : C → Option PV
 |.p g o => match look heap g with
  |some (_, ss) => partS P t ss o
  |none => none
 |.pd g o i n => match isAggT P t, look heap g with
  |some false, some (_, ss) => match runAt ss o with
   |some (k, xs, m) => cnd (Nat.beq m n) (some (.one (.i k (.x (rd xs i))))) <| none
   |none => none
  |_, _ => none
 |_ => none
def storeS (t : Nat) (heap : List (Nat × Nat × List S)) (v : PV) : C → Option (List (Nat × Nat × List S))
 |.p g o => match look heap g, sizeT P t, v with
  |some (e, ss), some 1, .one c => match setAt ss o c with
   |some ss' => some (upd heap g (e, ss'))
   |none => none
  |some (e, ss), some n, .agg new => cnd (Nat.beq n (lenS new)) ((match setSub ss o new with
   |some ss' => some (upd heap g (e, ss'))
   |none => none)) <| none
  |_, _, _ => none
 |.pd g o i n => match look heap g, sizeT P t, v with
  |some (e, ss), some 1, .one (.i k x) => match runAt ss o with
   |some (k', xs, m) => cnd (Nat.beq m n && decide (k = k')) (some (upd heap g (e, setRun ss o (xs.set i.toNat x.d)))) <| none
   |none => none
  |_, _, _ => none
 |_ => none
def ints (k : IntKind) : List PV → Option (List Int)
 |[] => some []
 |.one (.i k' x) :: r => match ints k r with
  |some xs => cnd (decide (k' = k)) (some (x.d :: xs)) <| none
  |none => none
 |_ => none

variable (nt : Nat) (cl : Cls)
def okD (nt : Nat) : Option Nat → Bool
 |some d => Nat.blt d nt
 |none => true
def evOp {R : Type} (n : Nat) (o : Oper) (s : St) (K : St → Option R) : Option R := cnd (okD nt o.dst) ((match o.op with
 |.alloc t => match zeroS P t with
  |some ss => K ⟨match o.dst with
   |some d => (d, .pv (.one (.p s.next 0))) :: s.env
   |none => s.env, (s.next, t, ss) :: s.heap, s.next + 1⟩
  |none => none
 |.box t x => match ev s.env x with
  |some (.pv v) => K ⟨match o.dst with
   |some d => (d, .pv (.one (.p s.next 0))) :: s.env
   |none => s.env, (s.next, t, v.segs) :: s.heap, s.next + 1⟩
  |_ => none
 |.load t x => match ev s.env x with
  |some (.pv (.one c)) => match loadS P t s.heap c with
   |some v => K (s.put o.dst (.pv v))
   |none => none
  |_ => none
 |.store t x y => match ev s.env x, ev s.env y with
  |some (.pv (.one c)), some (.pv v) => match storeS P t s.heap v c with
   |some h => K ((⟨s.env, h, s.next⟩ : St).put o.dst .und)
   |none => none
  |_, _ => none
 |.buildSlice t len ps => match P.underlying t, evs s.env (ps.toList.map (·.2)) with
  |some (.slice e), some vs => match P.underlying e, zeroS P e with
   |some (.int k), some [.c (.i k' (.l 0))] => match ints k vs with
    |some xs => cnd (decide (k = k') && (ps.toList.map (·.1) == List.range len) && Nat.ble len 1000 && Nat.blt 0 len && (match sizeT P e with
      |some 1 => true
      |_ => false)) (K ⟨match o.dst with
      |some d => (d, .pv (.one (.sl s.next 0 len len))) :: s.env
      |none => s.env, (s.next, e, [.a k xs len]) :: s.heap, s.next + 1⟩) <| none
    |none => none
   |_, _ => none
  |_, _ => none
 |.call { callee := .value (.func f), args, .. } => match look cl f, evs s.env args.toList with
  |some c, some vs => c.run R n s.heap vs (fun v => K (s.put o.dst v))
  |_, _ => none
 |op => evVal P op s.env (fun v => K (s.put o.dst v)))) <| none
def guarded {R : Type} (ops : Array Oper) (o : Oper) (s : St) (yes : St → Option R) (no : St → Option R) : Option R := match o.guard with
 |none => yes s
 |some (j, want) => match (ops[j]?).bind (·.dst) with
  |none => none
  |some t => match look s.env t with
   |some .und => no s
   |some (.pv (.one (.b e))) => e.ite (cnd (want) (yes ⟨(t, .pv (.one (.b .tt))) :: s.env, s.heap, s.next⟩) <| no ⟨(t, .pv (.one (.b .tt))) :: s.env, s.heap, s.next⟩)
     (cnd (want) (no ⟨(t, .pv (.one (.b .ff))) :: s.env, s.heap, s.next⟩) <| yes ⟨(t, .pv (.one (.b .ff))) :: s.env, s.heap, s.next⟩)
   |_ => none
def skipOp {R : Type} (o : Oper) (s : St) (K : St → Option R) : Option R := cnd (okD nt o.dst) (K (s.put o.dst .und)) <| none
def evSeq {R : Type} (n : Nat) (ops : Array Oper) : List Oper → St → (St → Option R) → Option R
 |[], s, K => K s
 |o :: r, s, K => guarded ops o s (fun s => evOp P nt cl n o s (fun s => evSeq n ops r s K)) (fun s => skipOp nt o s (fun s => evSeq n ops r s K))

def isPure : Op → Bool
 |.move _ | .assign _ | .pick .. | .binOp .. | .unOp .. | .convert .. | .fieldAddr .. | .field .. | .indexAddr .. | .index .. | .extract .. | .nilCheck _ | .build .. => true
 |.call { callee := .builtin .len, .. } => true
 |.call { callee := .builtin .min, .. } => true
 |.call { callee := .builtin .max, .. } => true
 |_ => false
def isLoad : Op → Bool
 |.load .. => true
 |_ => false
def isStore : Op → Bool
 |.store .. => true
 |_ => false
def pureAt (ops : Array Oper) (i : Nat) : Bool := match ops[i]? with
 |some o => isPure o.op
 |none => false
def loadAt (ops : Array Oper) (i : Nat) : Bool := match ops[i]? with
 |some o => isLoad o.op
 |none => false
def storesOf (ops : Array Oper) : List Nat := (List.range ops.size).filter fun i => match ops[i]? with
 |some o => isStore o.op
 |none => false
def masks (T : List (List Nat × List Nat)) : List Nat := T.foldl (fun acc r => acc ++ [upM acc acc.length r.1]) []
def evAny {R : Type} (n : Nat) (ops : Array Oper) (T : Bool × List (List Nat × List Nat)) (B : List Nat) (ds : List Nat) (heap0 : List (Nat × Nat × List S)) : Nat → List Bool → St → (St → Option R) → Option R
 |0, l, s, K => match readyT T.2 l with
  |[] => K s
  |_ => none
 |f + 1, l, s, K => match readyT T.2 l with
  |[] => K s
  |rs => match rs.find? (fun i => pureAt ops i && anyT T l (l.set i true) i) with
   |some i => match ops[i]? with
    |some o => guarded ops o s (fun s => cnd (okD nt o.dst) (evVal P o.op s.env (fun v => evAny n ops T B ds heap0 f (l.set i true) (s.put o.dst v) K)) <| none) (fun s => skipOp nt o s (fun s => evAny n ops T B ds heap0 f (l.set i true) s K))
    |none => none
   |none => match rs.find? (fun i => loadAt ops i && takeW T B ds l (l.set i true) i && ds.all (fun d => !(l.getD d true))) with
    |some i => match ops[i]? with
     |some o => guarded ops o s (fun s => cnd (okD nt o.dst) ((match o.op with
       |.load t x => match ev s.env x with
        |some (.pv (.one c)) => match loadS P t heap0 c with
         |some v => evAny n ops T B ds heap0 f (l.set i true) (s.put o.dst (.pv v)) K
         |none => none
        |_ => none
       |_ => none)) <| none) (fun s => skipOp nt o s (fun s => evAny n ops T B ds heap0 f (l.set i true) s K))
     |none => none
    |none => match rs with
     |[i] => match ops[i]? with
      |some o => guarded ops o s (fun s => evOp P nt cl n o s (fun s => evAny n ops T B ds heap0 f (l.set i true) s K)) (fun s => skipOp nt o s (fun s => evAny n ops T B ds heap0 f (l.set i true) s K))
      |none => none
     |_ => none
def evReg {R : Type} (n : Nat) (ops : Array Oper) (draw : Bool) (s : St) (K : St → Option R) : Option R := match draw with
 |false => evSeq P nt cl n ops ops.toList s K
 |true => cnd (P.follows .mixedOrders && waitsOk (rtab .any ops).2 (masks (rtab .any ops).2)) (evAny P nt cl n ops (rtab .any ops) (masks (rtab .any ops).2) (storesOf ops) s.heap ops.size (List.replicate ops.size false) s K) <| none

def bit (t : Nat) : Nat := 2 ^ t
def onB (m t : Nat) : Nat := Nat.lor m (bit t)
def offB (m t : Nat) : Nat := Nat.xor m (Nat.land m (bit t))
def opdsB : List Operand → Nat → Nat
 |[], m => m
 |.tmp t :: r, m => opdsB r (onB m t)
 |_ :: r, m => opdsB r m
def lvOps (ops : Array Oper) : List Oper → Nat → Nat
 |[], m => m
 |o :: r, m =>
  let m := lvOps ops r m
  let m := match o.dst with
   |some d => offB m d
   |none => m
  let m := opdsB o.op.operands.toList m
  match o.guard with
  |some (j, _) => match (ops[j]?).bind (·.dst) with
   |some t => onB m t
   |none => m
  |none => m
def lvC (rm : Nat) : Code → Nat → List (Nat × Nat) → Nat
 |.skip, m, _ => m
 |.region _ ops _, m, _ => lvOps ops ops.toList m
 |.seq a b, m, ex => lvC rm a (lvC rm b m ex) ex
 |.cond c a b, m, ex => opdsB [c] (Nat.lor (lvC rm a m ex) (lvC rm b m ex))
 |.block id c, m, ex => lvC rm c m ((id, m) :: ex)
 |.loop c, _, ex => lvC rm c 0 ex
 |.exit id, _, ex => (look ex id).getD 0
 |.ret, _, _ => rm
 |_, _, _ => 0
def BE.gen (b : BE) : BE := .q b.d
def C.gen : C → C
 |.i k x => .i k (.x x.d)
 |.b x => .b x.gen
 |u => u
def S.gen : S → S
 |.c u => .c u.gen
 |s => s
def PV.gen : PV → PV
 |.one c => .one c.gen
 |.agg ss => .agg (ss.map S.gen)
def SV.gen : SV → SV
 |.pv v => .pv v.gen
 |.tup vs => .tup (vs.map PV.gen)
 |.und => .und
def cleanE (env : List (Nat × SV)) (m : Nat) : Nat → List (Nat × SV)
 |0 => []
 |t + 1 => cnd (Nat.beq (Nat.land (Nat.shiftRight m t) 1) 1) ((match look env t with
   |some v => (t, v.gen) :: cleanE env m t
   |none => cleanE env m t)) <| cleanE env m t
def idsC : C → Nat
 |.p g _ => bit g
 |.pd g _ _ _ => bit g
 |.sl g _ _ _ => bit g
 |_ => 0
def idsS : List S → Nat
 |[] => 0
 |.c c :: r => Nat.lor (idsC c) (idsS r)
 |_ :: r => idsS r
def idsE : List (Nat × SV) → Nat
 |[] => 0
 |(_, .pv v) :: r => Nat.lor (idsS v.segs) (idsE r)
 |_ :: r => idsE r
def idsH (m : Nat) : List (Nat × Nat × List S) → Nat
 |[] => m
 |(g, _, ss) :: r => cnd (Nat.beq (Nat.land (Nat.shiftRight m g) 1) 1) (Nat.lor (idsS ss) (idsH m r)) <| idsH m r
def cleanH (m : Nat) : List (Nat × Nat × List S) → List (Nat × Nat × List S)
 |[] => []
 |(g, t, ss) :: r => cnd (Nat.beq (Nat.land (Nat.shiftRight m g) 1) 1) ((g, t, ss.map S.gen) :: cleanH m r) <| cleanH m r
def nmax (a b : Nat) : Nat := cnd (Nat.ble a b) (b) <| a
def C.top : C → Nat
 |.p g _ => g + 1
 |.pd g _ _ _ => g + 1
 |.sl g _ _ _ => g + 1
 |_ => 0
def tops : List S → Nat
 |[] => 0
 |.c u :: r => nmax u.top (tops r)
 |_ :: r => tops r
def topsV : List PV → Nat
 |[] => 0
 |v :: r => nmax (tops v.segs) (topsV r)
def SV.top : SV → Nat
 |.pv v => tops v.segs
 |.tup vs => topsV vs
 |.und => 0
def topE : List (Nat × SV) → Nat
 |[] => 0
 |(_, v) :: r => nmax v.top (topE r)
def topH : List (Nat × Nat × List S) → Nat
 |[] => 0
 |(g, _, ss) :: r => nmax (g + 1) (nmax (tops ss) (topH r))
def clean (m : Nat) (s : St) : St :=
 let e := cleanE s.env m nt
 let h := cleanH (idsH (idsH (idsE e) s.heap) s.heap) s.heap
 ⟨e, h, nmax (topE e) (topH h)⟩

inductive Out where
 |nor | ret
 |ex (id : Nat)
def loopN {R : Type} (f : Nat → St → (Out → St → Option R) → Option R) (m : Nat) : Nat → St → (Out → St → Option R) → Option R
 |0, _, _ => none
 |n + 1, s, K => f n s (fun o s' => match o with
  |.nor => loopN f m n (clean nt m s') K
  |o => K o s')
def evJ {R : Type} (f : St → Option R) (s : St) : Option R := f s
abbrev kseq {R : Type} (g : St → (Out → St → Option R) → Option R) (K : Out → St → Option R) : Out → St → Option R
 |.nor, s => g s K
 |o, s => K o s
abbrev kblk {R : Type} (id : Nat) (K : Out → St → Option R) : Out → St → Option R
 |.ex j, s => cnd (Nat.beq j id) (K .nor s) <| K (.ex j) s
 |o, s => K o s
def headC : Code → Option Nat
 |.region id _ _ => some id
 |.seq a _ => headC a
 |.block _ c => headC c
 |.loop c => headC c
 |.cond _ a _ => headC a
 |_ => none
variable (rm : Nat) (cuts : List Nat)
def cutAt (cuts : List Nat) (b : Code) : Bool := match headC b with
 |some i => cuts.any (Nat.beq i)
 |none => false
def evC {R : Type} : Code → Nat → List (Nat × Nat) → Nat → St → (Out → St → Option R) → Option R
 |.skip, _, _, _, s, K => K .nor s
 |.region _ ops d, _, _, n, s, K => evReg P nt cl n ops d s (K .nor)
 |.seq a b, lv, ex, n, s, K => evC a (lvC rm b lv ex) ex n s (kseq (fun s K => cnd (cutAt cuts b) (evJ (fun s => evC b lv ex n s K) (clean nt (lvC rm b lv ex) s)) <| evC b lv ex n s K) K)
 |.cond c a b, lv, ex, n, s, K => match ev s.env c with
  |some (.pv (.one (.b e))) => e.ite (evC a lv ex n s K) (evC b lv ex n s K)
  |_ => none
 |.block id c, lv, ex, n, s, K => evC c lv ((id, lv) :: ex) n s (kblk id K)
 |.loop c, _, ex, n, s, K => loopN nt (fun n s K => evC c (lvC rm c 0 ex) ex n s K) (lvC rm c 0 ex) n (clean nt (lvC rm c 0 ex) s) K
 |.exit id, _, _, _, s, K => K (.ex id) s
 |.ret, _, _, _, s, K => K .ret s
 |_, _, _, _, _, _ => none
end

section
variable (P : Program) (nt : Nat) (cl : Cls) (rm : Nat) (cuts : List Nat)
def evAt {R : Type} : List Nat → Code → Nat → List (Nat × Nat) → List Nat → Nat → St → (Out → St → Option R) → Option R
 |[], c, lv, ex, _, n, s, K => evC P nt cl rm cuts c lv ex n s K
 |0 :: p, .seq a b, lv, ex, m :: fs, n, s, K => evAt p a (lvC rm b lv ex) ex (m :: fs) n s (kseq (fun s K => cnd (cutAt cuts b) (evJ (fun s => evC P nt cl rm cuts b lv ex m s K) (clean nt (lvC rm b lv ex) s)) <| evC P nt cl rm cuts b lv ex m s K) K)
 |_ :: p, .seq _ b, lv, ex, fs, n, s, K => evAt p b lv ex fs n s K
 |0 :: p, .cond _ a _, lv, ex, fs, n, s, K => evAt p a lv ex fs n s K
 |_ :: p, .cond _ _ b, lv, ex, fs, n, s, K => evAt p b lv ex fs n s K
 |_ :: p, .block id c, lv, ex, fs, n, s, K => evAt p c lv ((id, lv) :: ex) fs n s (kblk id K)
 |_ :: p, .loop c, _, ex, _ :: m :: fs, n, s, K => evAt p c (lvC rm c 0 ex) ex (m :: fs) n s (fun o s' => match o with
  |.nor => loopN nt (fun n s K => evC P nt cl rm cuts c (lvC rm c 0 ex) ex n s K) (lvC rm c 0 ex) m (clean nt (lvC rm c 0 ex) s') K
  |o => K o s')
 |_, _, _, _, _, _, _, _ => none
end

def resPV (P : Program) (s : St) : ResultVar → Option PV
 |.tmp t => match look s.env t with
  |some (.pv v) => some v
  |_ => none
 |.cell a t => match look s.env a with
  |some (.pv (.one c)) => loadS P t s.heap c
  |_ => none
def resPVs (P : Program) (s : St) : List ResultVar → Option (List PV)
 |[] => some []
 |r :: rs => match resPV P s r, resPVs P s rs with
  |some v, some vs => some (v :: vs)
  |_, _ => none
def resSV (P : Program) (fn : Func) (s : St) : Option SV := match resPVs P s fn.results.toList with
 |some [v] => some (.pv v)
 |some vs => some (.tup vs)
 |none => none
def resB (fn : Func) : Nat := fn.results.toList.foldl (fun m r => match r with
 |.tmp t => onB m t
 |.cell a _ => onB m a) 0
def argE : List PV → Nat → List (Nat × SV)
 |[], _ => []
 |v :: r, i => (i, .pv v) :: argE r (i + 1)
def kfin {R : Type} (P : Program) (fn : Func) (K : SV → Option R) : Out → St → Option R
 |.nor, s => (match resSV P fn s with
  |some v => K v
  |none => none)
 |.ret, s => (match resSV P fn s with
  |some v => K v
  |none => none)
 |_, _ => none
def evF {R : Type} (P : Program) (cl : Cls) (fn : Func) (cuts : List Nat) (n : Nat) (args : List PV) (K : SV → Option R) : Option R := match fn.body with
 |some c => cnd (Nat.beq fn.params.size args.length && Nat.ble args.length fn.ntmps) (evC P fn.ntmps cl (resB fn) cuts c (resB fn) [] n ⟨argE args 0, [], 0⟩ (kfin P fn K)) <| none
 |none => none
def evIn {R : Type} (P : Program) (cl : Cls) (fn : Func) (cuts : List Nat) (p fs : List Nat) (n : Nat) (s : St) (K : SV → Option R) : Option R := match fn.body with
 |some c => evAt P fn.ntmps cl (resB fn) cuts p c (resB fn) [] fs n s (kfin P fn K)
 |none => none
def evInJ {R : Type} (P : Program) (cl : Cls) (fn : Func) (cuts : List Nat) (p fs : List Nat) (n : Nat) (s : St) (K : SV → Option R) : Option R := match fn.body with
 |some c => evJ (fun s => evAt P fn.ntmps cl (resB fn) cuts p c (resB fn) [] fs n s (kfin P fn K)) s
 |none => none
/- The reckoner's values are the machine's; what yields a value yields it whatever the memory. -/

theorem BE.ite_d {α : Type _} (b : BE) (t e : α) : b.ite t e = if b.d = true then t else e := by
 have dec : ∀ (c : Prop) [Decidable c], (if c then t else e) = if decide c = true then t else e := fun c _ => by by_cases h : c <;> simp [h]
 induction b generalizing t e with
 |tt => rfl
 |ff => rfl
 |q b => rfl
 |lt x y => exact dec (x < y)
 |le x y => exact dec (x ≤ y)
 |eq x y =>
  show (if x = y then t else e) = if (x == y) = true then t else e
  by_cases h : x = y <;> simp [h]
 |no b ih =>
  show b.ite e t = if (!b.d) = true then t else e
  rw [ih e t (fun c _ => by by_cases h : c <;> simp [h])]
  by_cases h : b.d = true <;> simp [h]
theorem BE.neg_d (b : BE) : b.neg.d = !b.d := by cases b <;> simp [BE.neg, BE.d]
theorem BE.lit_d (b : Bool) : (BE.lit b).d = b := by cases b <;> rfl
theorem IE.mk2_d (a b : IE) (n : Int) : (IE.mk2 a b n).d = n := by cases a <;> cases b <;> rfl
theorem IE.cmp_d (a b : IE) (e : BE) : (IE.cmp a b e).d = e.d := by cases a <;> cases b <;> simp [IE.cmp, BE.lit_d]
theorem IE.nz_d (a : IE) : a.nz.d = (a.d == 0) := by cases a <;> simp [IE.nz, IE.d, BE.lit_d, BE.d]
theorem IE.ge0_d (a : IE) : a.ge0.d = decide (0 ≤ a.d) := by
 cases a
 ·exact BE.lit_d _
 ·rfl
theorem wrapF_eq (k : IntKind) (n : Int) : wrapF k n = k.wrap n := by
 cases k <;> first | rfl | exact (i64_w n).symm | exact (i32_w n).symm | exact (IntKind.wrap_u32 n).symm | exact (IntKind.wrap_u8 n).symm
theorem eqB_d (a b : BE) : (eqB a b).d = (a.d == b.d) := by
 have h : ∀ x : Bool, (true == x) = x ∧ (false == x) = !x ∧ (x == true) = x ∧ (x == false) = !x := by decide
 unfold eqB
 split
 ·exact (h _).1.symm
 ·rw [BE.neg_d]; exact (h _).2.1.symm
 ·exact (h _).2.2.1.symm
 ·rw [BE.neg_d]; exact (h _).2.2.2.symm
 ·rfl

def C.v (m : Nat → Nat) : C → Value
 |.i k x => .int k x.d
 |.b x => .bool x.d
 |.p g o => .pointer (some ⟨m g, o, none⟩)
 |.pd g o j _ => .pointer (some ⟨m g, o + j.toNat, none⟩)
 |.sl g o n c => .slice (some ⟨m g, o, none⟩) n c
def S.v (m : Nat → Nat) : S → List Value
 |.c u => [u.v m]
 |.a k xs _ => xs.map (Value.int k)
def vals (m : Nat → Nat) : List S → List Value
 |[] => []
 |s :: r => s.v m ++ vals m r
def PV.v (m : Nat → Nat) : PV → Value
 |.one c => c.v m
 |.agg ss => .agg (vals m ss).toArray
def SV.v (m : Nat → Nat) : SV → Value
 |.pv u => u.v m
 |.tup vs => .tuple (vs.map (PV.v m)).toArray
 |.und => undef
def C.ok (N : Nat) : C → Prop
 |.p g _ => g < N
 |.pd g _ j n => g < N ∧ 0 ≤ j ∧ j < n
 |.sl g _ _ _ => g < N
 |_ => True
def S.ok (N : Nat) : S → Prop
 |.c u => u.ok N
 |.a _ xs n => xs.length = n
def oks (N : Nat) : List S → Prop
 |[] => True
 |s :: r => s.ok N ∧ oks N r
def PV.ok (N : Nat) : PV → Prop
 |.one c => c.ok N
 |.agg ss => oks N ss
def SV.ok (N : Nat) : SV → Prop
 |.pv u => u.ok N
 |.tup vs => ∀ v ∈ vs, v.ok N
 |.und => True

theorem C.one (m : Nat → Nat) (c : C) : (c.v m).oneCell' = true := by cases c <;> rfl
theorem C.cells (m : Nat → Nat) (c : C) : (c.v m).cells = #[c.v m] := by cases c <;> rfl
theorem vals_append (m : Nat → Nat) (a b : List S) : vals m (a ++ b) = vals m a ++ vals m b := by
 induction a with
 |nil => rfl
 |cons s r ih => simp [vals, ih]
theorem oks_append {N : Nat} {a b : List S} : oks N (a ++ b) ↔ oks N a ∧ oks N b := by
 induction a with
 |nil => simp [oks]
 |cons s r ih => simp [oks, ih, and_assoc]
theorem S.length (m : Nat → Nat) {N : Nat} (s : S) (h : s.ok N) : (s.v m).length = s.len := by
 cases s with
 |c u => rfl
 |a k xs n =>
  show (xs.map (Value.int k)).length = n
  rw [List.length_map]; exact h
theorem vals_length (m : Nat → Nat) {N : Nat} (ss : List S) (h : oks N ss) : (vals m ss).length = lenS ss := by
 induction ss with
 |nil => rfl
 |cons s r ih => simp [vals, lenS, S.length m s h.1, ih h.2]
theorem vals_one (m : Nat → Nat) (ss : List S) : ∀ v ∈ vals m ss, v.oneCell' = true := by
 induction ss with
 |nil => simp [vals]
 |cons s r ih =>
  intro v hv
  rcases List.mem_append.1 hv with h | h
  ·cases s with
   |c u =>
    obtain rfl : v = u.v m := by simpa [S.v] using h
    exact C.one m u
   |a k xs n =>
    obtain ⟨x, _, rfl⟩ : ∃ x ∈ xs, Value.int k x = v := by simpa [S.v] using h
    rfl
  ·exact ih v h

theorem bcond {α : Type _} {b : Bool} {x y z : α} (h : (cnd (b) (x) <| y) = z) : (b = true ∧ x = z) ∨ (b = false ∧ y = z) := by
 cases b
 ·exact .inr ⟨rfl, h⟩
 ·exact .inl ⟨rfl, h⟩
theorem bsome {α : Type _} {b : Bool} {x : Option α} {r : α} (h : (cnd (b) (x) <| none) = some r) : b = true ∧ x = some r := by
 cases b
 ·cases h
 ·exact ⟨rfl, h⟩

theorem ofCells_v {vs : List Value} {ss : List S} (m : Nat → Nat) (N : Nat) (h : ofCells vs = some ss) : vals m ss = vs ∧ oks N ss := by
 induction vs generalizing ss with
 |nil => cases h; exact ⟨rfl, trivial⟩
 |cons v r ih =>
  unfold ofCells at h
  split at h
  ·next c cs h1 h2 =>
   cases h
   obtain ⟨e, o⟩ := ih h2
   have : c.v m = [v] ∧ c.ok N := by
    unfold ofCell at h1
    split at h1
    ·cases h1; exact ⟨rfl, trivial⟩
    ·next b => cases h1; exact ⟨by cases b <;> rfl, trivial⟩
    ·cases h1
   exact ⟨by simp [vals, this.1, e], this.2, o⟩
  ·cases h
theorem ofV_v {c : Value} {v : SV} (m : Nat → Nat) (N : Nat) (h : ofV c = some v) : v.v m = c ∧ v.ok N := by
 unfold ofV at h
 split at h
 ·cases h; exact ⟨rfl, trivial⟩
 ·next b => cases h; exact ⟨by cases b <;> rfl, trivial⟩
 ·next cs =>
  split at h
  ·next ss h1 =>
   cases h
   obtain ⟨e, o⟩ := ofCells_v m N h1
   refine ⟨?_, o⟩
   show Value.agg (vals m ss).toArray = _
   rw [e]
  ·cases h
 ·cases h

def Knows (m : Nat → Nat) (N : Nat) (env : List (Nat × SV)) (a : Act) : Prop := ∀ t v, look env t = some v → v.ok N ∧ a.tmps.getD t undef = v.v m
theorem ev_v {m : Nat → Nat} {N : Nat} {env : List (Nat × SV)} {a : Act} (hk : Knows m N env a) {x : Operand} {v : SV} (h : ev env x = some v) : v.ok N ∧ a.eval x = v.v m := by
 cases x with
 |tmp t => exact hk t v h
 |const c => obtain ⟨e, o⟩ := ofV_v m N h; exact ⟨o, e.symm⟩
 |global g => cases h
 |func f => cases h
theorem evs_v {m : Nat → Nat} {N : Nat} {env : List (Nat × SV)} {a : Act} (hk : Knows m N env a) {xs : List Operand} {vs : List PV} (h : evs env xs = some vs) : (∀ v ∈ vs, v.ok N) ∧ xs.map a.eval = vs.map (PV.v m) := by
 induction xs generalizing vs with
 |nil => cases h; exact ⟨by simp, rfl⟩
 |cons x r ih =>
  unfold evs at h
  split at h
  ·next v ws h1 h2 =>
   cases h
   obtain ⟨o, e⟩ := ev_v hk h1
   obtain ⟨o', e'⟩ := ih h2
   refine ⟨fun u hu => ?_, by simp [e, e', SV.v]⟩
   rcases List.mem_cons.1 hu with rfl | hu
   ·exact o
   ·exact o' u hu
  ·cases h

theorem binI_v {R : Type} (P : Program) (t : TypeId) {op : BinOp} {k k' : IntKind} {a b : IE} {K : C → Option R} {r : R} (m : Nat → Nat) (N : Nat) (h : binI op k k' a b K = some r) :
  ∃ c, K c = some r ∧ c.ok N ∧ ∀ w, (binOp op t (.int k a.d) (.int k' b.d)).run P w = .ok (c.v m) w := by
 have ite0 : ∀ {z : Option R}, b.ge0.ite z none = some r → 0 ≤ b.d ∧ z = some r := by
  intro z h
  rw [BE.ite_d, IE.ge0_d] at h
  by_cases c : 0 ≤ b.d
  ·exact ⟨c, by simpa [c] using h⟩
  ·simp [c] at h
 have itz : ∀ {z : Option R}, b.nz.ite none z = some r → b.d ≠ 0 ∧ z = some r := by
  intro z h
  rw [BE.ite_d, IE.nz_d] at h
  by_cases c : b.d = 0
  ·simp [c] at h
  ·exact ⟨c, by simpa [c] using h⟩
 cases op <;> unfold binI at h <;> simp only [] at h
 case shl =>
  obtain ⟨h0, h1⟩ := ite0 h
  exact ⟨_, h1, trivial, fun w => by simp [binOp, Op.shift, Int.not_lt.mpr h0, C.v, IE.mk2_d, shl]⟩
 case shr =>
  obtain ⟨h0, h1⟩ := ite0 h
  have hp : ∀ n : Nat, (0 : Int) ≤ 2 ^ n := fun n => Int.pow_nonneg (by decide)
  exact ⟨_, h1, trivial, fun w => by simp [binOp, Op.shift, Int.not_lt.mpr h0, C.v, IE.mk2_d, shr, Int.fdiv_eq_ediv_of_nonneg _ (hp _)]⟩
 all_goals (have hb := bsome h; clear h; obtain ⟨hk, h⟩ := hb; have he := of_decide_eq_true hk; clear hk; subst he)
 case quo =>
  obtain ⟨h0, h1⟩ := itz h
  exact ⟨_, h1, trivial, fun w => by simp [binOp, Op.intDiv, h0, C.v, IE.mk2_d, wrapF_eq]⟩
 case rem =>
  obtain ⟨h0, h1⟩ := itz h
  exact ⟨_, h1, trivial, fun w => by simp [binOp, Op.intDiv, h0, C.v, IE.mk2_d]⟩
 all_goals exact ⟨_, h, trivial, fun w => by simp [binOp, Op.intArith, Op.intBits, Op.intCmp, Go.bits, C.v, IE.mk2_d, IE.cmp_d, BE.neg_d, BE.d, wrapF_eq, bne, GT.gt, GE.ge]⟩
/- Cells of the reckoner and of the machine. -/

theorem splitS_v {ss : List S} : ∀ {n : Nat} {a b : List S}, splitS ss n = some (a, b) → ss = a ++ b ∧ lenS a = n := by
 induction ss with
 |nil =>
  intro n a b h
  obtain ⟨h0, h1⟩ := bsome h
  cases h1
  exact ⟨rfl, (Nat.eq_of_beq_eq_true h0).symm⟩
 |cons s r ih =>
  intro n a b h
  unfold splitS at h
  rcases bcond h with ⟨h0, h1⟩ | ⟨_, h1⟩
  ·cases h1
   exact ⟨rfl, (Nat.eq_of_beq_eq_true h0).symm⟩
  ·obtain ⟨h2, h3⟩ := bsome h1
   have h2 := Nat.le_of_ble_eq_true h2
   split at h3
   ·next a' b' h4 =>
    cases h3
    obtain ⟨e1, e2⟩ := ih h4
    exact ⟨by rw [e1]; rfl, by show s.len + lenS a' = n; omega⟩
   ·cases h3
theorem sub_v (m : Nat → Nat) {N : Nat} {ss a : List S} {o n : Nat} (ho : oks N ss) (h : sub ss o n = some a) : oks N a ∧ lenS a = n ∧ vals m a = ((vals m ss).drop o).take n ∧ o + n ≤ (vals m ss).length := by
 unfold sub at h
 split at h
 ·next p r h1 =>
  split at h
  ·next a' q h2 =>
   cases h
   obtain ⟨e1, l1⟩ := splitS_v h1
   obtain ⟨e2, l2⟩ := splitS_v h2
   subst e2
   subst e1
   rw [oks_append, oks_append] at ho
   obtain ⟨o1, o2, o3⟩ := ho
   have v1 := vals_length m p o1
   have v2 := vals_length m a o2
   refine ⟨o2, l2, ?_, ?_⟩
   ·rw [vals_append, vals_append, List.drop_append_of_le_length (by omega), List.drop_eq_nil_of_le (by omega), List.nil_append, List.take_append_of_le_length (by omega), List.take_of_length_le (by omega)]
   ·rw [vals_append, vals_append]; simp only [List.length_append]; omega
  ·cases h
 ·cases h
theorem cellAt_v (m : Nat → Nat) {N : Nat} {ss : List S} : ∀ {o : Nat} {c : C}, oks N ss → cellAt ss o = some c → c.ok N ∧ (vals m ss)[o]? = some (c.v m) := by
 induction ss with
 |nil => intro o c _ h; cases h
 |cons s r ih =>
  intro o c ho h
  cases s with
  |c u =>
   unfold cellAt at h
   rcases bcond h with ⟨h0, h1⟩ | ⟨h0, h1⟩
   ·cases h1
    obtain rfl := Nat.eq_of_beq_eq_true h0
    exact ⟨ho.1, rfl⟩
   ·obtain ⟨p, rfl⟩ : ∃ p, o = p + 1 := ⟨o - 1, by have := Nat.ne_of_beq_eq_false h0; omega⟩
    obtain ⟨a, b⟩ := ih ho.2 h1
    exact ⟨a, by simpa [vals, S.v] using b⟩
  |a k xs n =>
   have hl : xs.length = n := ho.1
   unfold cellAt at h
   rcases bcond h with ⟨h0, h1⟩ | ⟨h0, h1⟩
   ·cases h1
    have h0 : o < n := Nat.le_of_ble_eq_true h0
    refine ⟨trivial, ?_⟩
    show (xs.map (Value.int k) ++ vals m r)[o]? = some (.int k (rd xs (Int.ofNat o)))
    rw [List.getElem?_append_left (by rw [List.length_map]; omega), List.getElem?_map, List.getElem?_eq_getElem (by omega)]
    simp [rd, show o < xs.length by omega]
   ·have h0 : ¬ o < n := fun hh => by
     have : Nat.blt o n = true := Nat.ble_eq.mpr hh
     rw [this] at h0; cases h0
    obtain ⟨a, b⟩ := ih ho.2 h1
    refine ⟨a, ?_⟩
    show (xs.map (Value.int k) ++ vals m r)[o]? = some (c.v m)
    rw [List.getElem?_append_right (by rw [List.length_map]; omega), List.length_map, hl]
    exact b
theorem setAt_v (m : Nat → Nat) {N : Nat} {ss : List S} : ∀ {o : Nat} {c : C} {ss' : List S}, oks N ss → c.ok N → setAt ss o c = some ss' → oks N ss' ∧ vals m ss' = (vals m ss).set o (c.v m) ∧ o < (vals m ss).length ∧ lenS ss' = lenS ss := by
 induction ss with
 |nil => intro o c ss' _ _ h; cases h
 |cons s r ih =>
  intro o c ss' ho hc h
  cases s with
  |c u =>
   unfold setAt at h
   rcases bcond h with ⟨h0, h1⟩ | ⟨h0, h1⟩
   ·cases h1
    obtain rfl := Nat.eq_of_beq_eq_true h0
    exact ⟨⟨hc, ho.2⟩, rfl, by simp [vals, S.v], rfl⟩
   ·obtain ⟨p, rfl⟩ : ∃ p, o = p + 1 := ⟨o - 1, by have := Nat.ne_of_beq_eq_false h0; omega⟩
    split at h1
    ·next r' h2 =>
     cases h1
     obtain ⟨a, b, l, e⟩ := ih ho.2 hc h2
     exact ⟨⟨ho.1, a⟩, by simp only [Nat.add_sub_cancel] at b; simp [vals, S.v, b], by simp only [Nat.add_sub_cancel] at l; simp [vals, S.v]; omega, by simp [lenS, e]⟩
    ·cases h1
  |a k xs n =>
   have hl : xs.length = n := ho.1
   unfold setAt at h
   rcases bcond h with ⟨h0, h1⟩ | ⟨h0, h1⟩
   ·have h0 : o < n := Nat.le_of_ble_eq_true h0
    split at h1
    ·next k' v =>
     obtain ⟨h2, h3⟩ := bsome h1
     cases h3
     obtain rfl := of_decide_eq_true h2
     refine ⟨⟨by show (xs.set o v.d).length = n; rw [List.length_set]; exact hl, ho.2⟩, ?_, ?_, rfl⟩
     ·show (xs.set o v.d).map (Value.int k') ++ vals m r = (xs.map (Value.int k') ++ vals m r).set o (.int k' v.d)
      rw [List.set_append_left _ _ (by rw [List.length_map]; omega), List.map_set]
     ·show o < (xs.map (Value.int k') ++ vals m r).length
      rw [List.length_append, List.length_map]; omega
    ·cases h1
   ·have h0 : ¬ o < n := fun hh => by
     have : Nat.blt o n = true := Nat.ble_eq.mpr hh
     rw [this] at h0; cases h0
    split at h1
    ·next r' h2 =>
     cases h1
     obtain ⟨a, b, l, e⟩ := ih ho.2 hc h2
     refine ⟨⟨ho.1, a⟩, ?_, ?_, by simp [lenS, e]⟩
     ·show xs.map (Value.int k) ++ vals m r' = (xs.map (Value.int k) ++ vals m r).set o (c.v m)
      rw [List.set_append_right _ _ (by rw [List.length_map]; omega), List.length_map, hl, b]
     ·show o < (xs.map (Value.int k) ++ vals m r).length
      rw [List.length_append, List.length_map]; omega
    ·cases h1
theorem runAt_v (m : Nat → Nat) {N : Nat} {ss : List S} : ∀ {o n : Nat} {k : IntKind} {xs : List Int}, oks N ss → runAt ss o = some (k, xs, n) → xs.length = n ∧ ∃ a b, vals m ss = a ++ (xs.map (Value.int k) ++ b) ∧ a.length = o := by
 induction ss with
 |nil => intro o n k xs _ h; cases h
 |cons s r ih =>
  intro o n k xs ho h
  cases s with
  |c u =>
   unfold runAt at h
   rcases bcond h with ⟨h0, h1⟩ | ⟨h0, h1⟩
   ·cases h1
   ·obtain ⟨p, rfl⟩ : ∃ p, o = p + 1 := ⟨o - 1, by have := Nat.ne_of_beq_eq_false h0; omega⟩
    obtain ⟨l, a, b, e, la⟩ := ih ho.2 h1
    exact ⟨l, u.v m :: a, b, by simp [vals, S.v, e], by simpa using la⟩
  |a k' xs' n' =>
   have hl : xs'.length = n' := ho.1
   unfold runAt at h
   rcases bcond h with ⟨h0, h1⟩ | ⟨h0, h1⟩
   ·cases h1
    obtain rfl := Nat.eq_of_beq_eq_true h0
    exact ⟨hl, [], vals m r, rfl, rfl⟩
   ·obtain ⟨h2, h3⟩ := bsome h1
    have h2 := Nat.le_of_ble_eq_true h2
    obtain ⟨l, a, b, e, la⟩ := ih ho.2 h3
    exact ⟨l, xs'.map (Value.int k') ++ a, b, by simp [vals, S.v, e], by simp [la]; omega⟩
theorem setRun_v (m : Nat → Nat) {N : Nat} {ss : List S} : ∀ {o n i : Nat} {k : IntKind} {xs : List Int} {y : Int}, oks N ss → runAt ss o = some (k, xs, n) → i < n →
  oks N (setRun ss o (xs.set i y)) ∧ vals m (setRun ss o (xs.set i y)) = (vals m ss).set (o + i) (.int k y) ∧ o + i < (vals m ss).length ∧ lenS (setRun ss o (xs.set i y)) = lenS ss := by
 induction ss with
 |nil => intro o n i k xs y _ h; cases h
 |cons s r ih =>
  intro o n i k xs y ho h hi
  cases s with
  |c u =>
   unfold runAt at h
   rcases bcond h with ⟨h0, h1⟩ | ⟨h0, h1⟩
   ·cases h1
   ·obtain ⟨p, rfl⟩ : ∃ p, o = p + 1 := ⟨o - 1, by have := Nat.ne_of_beq_eq_false h0; omega⟩
    obtain ⟨a, b, l, e⟩ := ih (y := y) ho.2 h1 hi
    have hs : setRun (.c u :: r) (p + 1) (xs.set i y) = .c u :: setRun r p (xs.set i y) := rfl
    simp only [Nat.add_sub_cancel] at a b l e
    rw [hs]
    refine ⟨⟨ho.1, a⟩, ?_, ?_, by simp [lenS, e]⟩
    ·show u.v m :: vals m (setRun r p (xs.set i y)) = (u.v m :: vals m r).set (p + 1 + i) (.int k y)
     rw [b, show p + 1 + i = (p + i) + 1 by omega, List.set_cons_succ]
    ·show p + 1 + i < (u.v m :: vals m r).length
     rw [List.length_cons]; omega
  |a k' xs' n' =>
   have hl : xs'.length = n' := ho.1
   unfold runAt at h
   rcases bcond h with ⟨h0, h1⟩ | ⟨h0, h1⟩
   ·cases h1
    obtain rfl := Nat.eq_of_beq_eq_true h0
    have hs : setRun (.a k xs n :: r) 0 (xs.set i y) = .a k (xs.set i y) n :: r := rfl
    rw [hs]
    refine ⟨⟨by show (xs.set i y).length = n; rw [List.length_set]; exact hl, ho.2⟩, ?_, ?_, rfl⟩
    ·show (xs.set i y).map (Value.int k) ++ vals m r = (xs.map (Value.int k) ++ vals m r).set (0 + i) (.int k y)
     rw [Nat.zero_add, List.set_append_left _ _ (by rw [List.length_map]; omega), List.map_set]
    ·show 0 + i < (xs.map (Value.int k) ++ vals m r).length
     rw [List.length_append, List.length_map]; omega
   ·obtain ⟨h2, h3⟩ := bsome h1
    have h2 := Nat.le_of_ble_eq_true h2
    obtain ⟨a, b, l, e⟩ := ih (y := y) ho.2 h3 hi
    have hs : setRun (.a k' xs' n' :: r) o (xs.set i y) = .a k' xs' n' :: setRun r (o - n') (xs.set i y) := by simp [setRun, h0]
    rw [hs]
    refine ⟨⟨ho.1, a⟩, ?_, ?_, by simp [lenS, e]⟩
    ·show xs'.map (Value.int k') ++ vals m (setRun r (o - n') (xs.set i y)) = (xs'.map (Value.int k') ++ vals m r).set (o + i) (.int k y)
     rw [List.set_append_right _ _ (by rw [List.length_map]; omega), List.length_map, b, hl, show o + i - n' = o - n' + i by omega]
    ·show o + i < (xs'.map (Value.int k') ++ vals m r).length
     rw [List.length_append, List.length_map]; omega
theorem lenS_append (a b : List S) : lenS (a ++ b) = lenS a + lenS b := by
 induction a with
 |nil => simp [lenS]
 |cons s r ih => simp [lenS, ih, Nat.add_assoc]
theorem setSub_v (m : Nat → Nat) {N : Nat} {ss new ss' : List S} {o : Nat} (ho : oks N ss) (hn : oks N new) (h : setSub ss o new = some ss') :
  oks N ss' ∧ vals m ss' = (vals m ss).take o ++ (vals m new ++ (vals m ss).drop (o + lenS new)) ∧ o + lenS new ≤ (vals m ss).length ∧ lenS ss' = lenS ss := by
 unfold setSub at h
 split at h
 ·next a r h1 =>
  split at h
  ·next q b h2 =>
   cases h
   obtain ⟨e1, l1⟩ := splitS_v h1
   obtain ⟨e2, l2⟩ := splitS_v h2
   subst e2
   subst e1
   rw [oks_append, oks_append] at ho
   obtain ⟨o1, o2, o3⟩ := ho
   have v1 := vals_length m a o1
   have v2 := vals_length m q o2
   refine ⟨by rw [oks_append, oks_append]; exact ⟨o1, hn, o3⟩, ?_, ?_, by simp only [lenS_append]; omega⟩
   ·have t1 : (vals m a ++ (vals m q ++ vals m b)).take o = vals m a := List.take_left' (by omega)
    have t2 : (vals m a ++ (vals m q ++ vals m b)).drop (o + lenS new) = vals m b := by
     rw [← List.append_assoc]; exact List.drop_left' (by rw [List.length_append]; omega)
    rw [vals_append, vals_append, vals_append, vals_append, t1, t2]
   ·rw [vals_append, vals_append]; simp only [List.length_append]; omega
  ·cases h
 ·cases h
theorem isLit_go {k : IntKind} : ∀ {xs : List Int} {n : Nat} {vs q : List Value}, isLit.go k xs n vs = some q → vs = xs.map (Value.int k) ++ q ∧ xs.length = n := by
 intro xs
 induction xs with
 |nil =>
  intro n vs q h
  cases n with
  |zero => cases h; exact ⟨rfl, rfl⟩
  |succ n => cases h
 |cons x xs ih =>
  intro n vs q h
  cases n with
  |zero => cases h
  |succ n =>
   cases vs with
   |nil => cases h
   |cons v vs =>
    cases v with
    |int k' y =>
     unfold isLit.go at h
     obtain ⟨h0, h1⟩ := bsome h
     rw [Bool.and_eq_true] at h0
     obtain rfl := of_decide_eq_true h0.1
     obtain rfl := eq_of_beq h0.2
     obtain ⟨e, l⟩ := ih h1
     exact ⟨by rw [e]; rfl, by simp [l]⟩
    |_ => cases h
theorem isLit_v (m : Nat → Nat) (N : Nat) {s : S} {vs q : List Value} (h : isLit s vs = some q) : vs = s.v m ++ q ∧ s.ok N := by
 unfold isLit at h
 split at h
 ·obtain ⟨h0, h1⟩ := bsome h
  cases h1
  rw [Bool.and_eq_true] at h0
  obtain rfl := of_decide_eq_true h0.1
  obtain rfl := eq_of_beq h0.2
  exact ⟨rfl, trivial⟩
 ·cases h; exact ⟨rfl, trivial⟩
 ·exact isLit_go h
 ·cases h
theorem areLit_v (m : Nat → Nat) (N : Nat) {ss : List S} : ∀ {vs : List Value}, areLit ss vs = true → vals m ss = vs ∧ oks N ss := by
 induction ss with
 |nil =>
  intro vs h
  cases vs with
  |nil => exact ⟨rfl, trivial⟩
  |cons v vs => cases h
 |cons s r ih =>
  intro vs h
  unfold areLit at h
  split at h
  ·next q h1 =>
   obtain ⟨e, o⟩ := isLit_v m N h1
   obtain ⟨e', o'⟩ := ih h
   exact ⟨by rw [e, ← e']; rfl, o, o'⟩
  ·cases h

section
variable {P : Program}
theorem zeroS_v (m : Nat → Nat) (N : Nat) {t : Nat} {ss : List S} (h : zeroS P t = some ss) : oks N ss ∧ ∃ v, v.cells.toList = vals m ss ∧ ∀ w, (zeroValue t).run P w = .ok v w := by
 unfold zeroS at h
 split at h
 ·next i h1 =>
  split at h
  ·next v h2 =>
   split at h
   ·next ss' _ =>
    obtain ⟨h3, h4⟩ := bsome h
    cases h4
    obtain ⟨e, o⟩ := areLit_v m N h3
    exact ⟨o, v, e.symm, fun w => by simp [zeroValue, typeInfo, h1, h2]⟩
   ·cases h
  ·cases h
 ·cases h
theorem sizeT_v {t n : Nat} (h : sizeT P t = some n) (w : World) : (sizeOf t).run P w = .ok n w := by
 unfold sizeT at h
 split at h
 ·next i h1 => cases h; simp [sizeOf, typeInfo, h1]
 ·cases h
theorem sizeT_info {t n : Nat} (h : sizeT P t = some n) : (P.info? t).map (·.size) = some n := by
 unfold sizeT at h
 split at h
 ·next i h1 => cases h; rw [h1]; rfl
 ·cases h
theorem isAggT_v {t : Nat} {b : Bool} (h : isAggT P t = some b) (w : World) : (isAgg t).run P w = .ok b w := by
 unfold isAggT at h
 cases hu : P.underlying t with
 |none => rw [hu] at h; cases h
 |some d =>
  rw [hu] at h
  cases d <;> cases h <;> simp [isAgg, underlying, hu]
theorem partS_v (m : Nat → Nat) {N : Nat} {t o : Nat} {ss : List S} {v : PV} (ho : oks N ss) (h : partS P t ss o = some v) : v.ok N ∧ ∀ w, (part t (vals m ss).toArray o).run P w = .ok (v.v m) w := by
 unfold partS at h
 split at h
 ·next n h1 h2 =>
  split at h
  ·next r h3 =>
   cases h
   obtain ⟨a, b, c, d⟩ := sub_v m ho h3
   refine ⟨a, fun w => ?_⟩
   have h1 := isAggT_v h1
   have h2 := sizeT_v h2
   simp [part, h1, h2, PV.v]
   exact c.symm
  ·cases h
 ·next n h1 h2 =>
  split at h
  ·next c h3 =>
   cases h
   obtain ⟨a, b⟩ := cellAt_v m ho h3
   have h1 := isAggT_v h1
   exact ⟨a, fun w => by simp [part, h1, b, PV.v]⟩
  ·cases h
 ·cases h
end
/- What yields a value yields it whatever the memory. -/

section
variable {P : Program}
theorem part_one {t o : Nat} {vs : List Value} {v : Value} (ha : isAggT P t = some false) (h : vs[o]? = some v) (w : World) : (part t vs.toArray o).run P w = .ok v w := by
 have ha := isAggT_v ha
 simp [part, ha, h]
theorem eqF_v (m : Nat → Nat) {d : Nat} {fs : List Field} : ∀ {i : Nat} {a b : List S} {e : Bool} (pa pb : List Value), pa.length = i → pb.length = i → eqF P fs i a b = some e →
  ∀ w, (Op.eqFields (d + 1) (pa ++ vals m a).toArray (pb ++ vals m b).toArray fs).run P w = .ok e w := by
 induction fs with
 |nil =>
  intro i a b e pa pb _ _ h w
  unfold eqF at h
  split at h
  ·cases h
   have : pa ++ vals m [] = pa := by simp [vals]
   exact eqf_nil
  ·cases h
 |cons f fs ih =>
  intro i a b e pa pb la lb h w
  unfold eqF at h
  split at h
  ·next k x r k' y q =>
   split at h
   ·next kk hu =>
    split at h
    ·next t ht =>
     obtain ⟨h4, h5⟩ := bsome h
     cases h5
     simp only [Bool.and_eq_true] at h4
     obtain ⟨⟨h6, h7⟩, h8⟩ := h4
     obtain rfl := of_decide_eq_true h8
     have h7 := Nat.eq_of_beq_eq_true h7
     have hag : isAggT P f.type = some false := by simp [isAggT, hu]
     have e1 : ∀ (p : List Value) (z : IE) (s : List S), p ++ vals m (.c (.i k z) :: s) = (p ++ [Value.int k z.d]) ++ vals m s := fun p z s => by simp [vals, S.v, C.v]
     refine eqf_cons (by simpa using h6) (part_one hag (v := .int k x.d) ?_ w) (part_one hag (v := .int k y.d) ?_ w) (run_equalIn_int w _ _ _ _ _ _ hu) ?_
     ·rw [h7, e1, List.getElem?_append_left (by simp; omega), List.getElem?_append_right (by omega), la, Nat.sub_self]; rfl
     ·rw [h7, e1, List.getElem?_append_left (by simp; omega), List.getElem?_append_right (by omega), lb, Nat.sub_self]; rfl
     ·rw [e1, e1]
      exact ih (pa ++ [Value.int k x.d]) (pb ++ [Value.int k y.d]) (by simp [la]) (by simp [lb]) ht w
    ·cases h
   ·cases h
  ·next x r y q =>
   split at h
   ·next hu =>
    split at h
    ·next t ht =>
     obtain ⟨h4, h5⟩ := bsome h
     cases h5
     simp only [Bool.and_eq_true] at h4
     obtain ⟨h6, h7⟩ := h4
     have h7 := Nat.eq_of_beq_eq_true h7
     have hag : isAggT P f.type = some false := by simp [isAggT, hu]
     have e1 : ∀ (p : List Value) (z : BE) (s : List S), p ++ vals m (.c (.b z) :: s) = (p ++ [Value.bool z.d]) ++ vals m s := fun p z s => by simp [vals, S.v, C.v]
     refine eqf_cons (by simpa using h6) (part_one hag (v := .bool x.d) ?_ w) (part_one hag (v := .bool y.d) ?_ w) (run_equalIn_bool' w _ _ _ _ hu) ?_
     ·rw [h7, e1, List.getElem?_append_left (by simp; omega), List.getElem?_append_right (by omega), la, Nat.sub_self]; rfl
     ·rw [h7, e1, List.getElem?_append_left (by simp; omega), List.getElem?_append_right (by omega), lb, Nat.sub_self]; rfl
     ·rw [e1, e1]
      exact ih (pa ++ [Value.bool x.d]) (pb ++ [Value.bool y.d]) (by simp [la]) (by simp [lb]) ht w
    ·cases h
   ·cases h
  ·cases h
theorem intsS_v (m : Nat → Nat) {k : IntKind} {ss : List S} : ∀ {xs : List Int}, intsS k ss = some xs → vals m ss = xs.map (Value.int k) := by
 induction ss with
 |nil => intro xs h; cases h; rfl
 |cons s r ih =>
  intro xs h
  cases s with
  |c u =>
   cases u with
   |i k' x =>
    unfold intsS at h
    split at h
    ·next ys hy =>
     obtain ⟨h1, h2⟩ := bsome h
     cases h2
     obtain rfl := of_decide_eq_true h1
     simp [vals, S.v, C.v, ih hy]
    ·cases h
   |_ => cases h
  |a k' zs n =>
   unfold intsS at h
   split at h
   ·next ys hy =>
    obtain ⟨h1, h2⟩ := bsome h
    cases h2
    obtain rfl := of_decide_eq_true h1
    simp [vals, S.v, ih hy]
   ·cases h
theorem eqItems_v {e : Nat} {k k0 : IntKind} (hu : P.underlying e = some (.int k0)) (xs ys : List Int) {d : Nat} (w : World) : ∀ (n i : Nat), i + n = xs.length → i + n = ys.length →
  (Op.eqItems (d + 1) e 1 (xs.map (Value.int k)).toArray (ys.map (Value.int k)).toArray (List.range' i n)).run P w = .ok (xs.drop i == ys.drop i) w := by
 have hag : isAggT P e = some false := by simp [isAggT, hu]
 intro n
 induction n with
 |zero =>
  intro i hx hy
  rw [List.drop_eq_nil_of_le (by omega), List.drop_eq_nil_of_le (by omega)]
  simp [Op.eqItems]
 |succ n ih =>
  intro i hx hy
  have hi : i < xs.length := by omega
  have hj : i < ys.length := by omega
  have p1 : (part e (xs.map (Value.int k)).toArray i).run P w = .ok (.int k xs[i]) w := part_one hag (by rw [List.getElem?_map, List.getElem?_eq_getElem hi]; rfl) w
  have p2 : (part e (ys.map (Value.int k)).toArray i).run P w = .ok (.int k ys[i]) w := part_one hag (by rw [List.getElem?_map, List.getElem?_eq_getElem hj]; rfl) w
  have p3 := run_equalIn_int (P := P) w d e k k0 xs[i] ys[i] hu
  have hr := ih (i + 1) (by omega) (by omega)
  rw [List.range'_succ, List.drop_eq_getElem_cons hi, List.drop_eq_getElem_cons hj]
  simp only [Op.eqItems, Nat.mul_one, Sem.run_bind, p1, p2, p3, Result.andThen_ok]
  generalize xs[i] = x
  generalize ys[i] = y
  generalize xs.drop (i + 1) = A at *
  generalize ys.drop (i + 1) = B at *
  rw [List.cons_beq_cons]
  by_cases c : x = y
  ·simp only [c, beq_self_eq_true, Bool.not_true, Bool.false_eq_true, if_false, Bool.true_and]; exact hr
  ·have : (x == y) = false := by simpa using c
   simp only [this, Bool.not_false, if_true, Bool.false_and]; rfl
theorem eqT_v (m : Nat → Nat) {N : Nat} {t : Nat} {a b : List S} {e : Bool} (oa : oks N a) (ob : oks N b) (h : eqT P t a b = some e) : P.eqGuardType P.depth t = false ∧ ∀ w, (Op.equalIn 10000 t (.agg (vals m a).toArray) (.agg (vals m b).toArray)).run P w = .ok e w := by
 unfold eqT at h
 split at h
 ·next fs hu =>
  obtain ⟨h1, h2⟩ := bsome h
  simp only [Bool.and_eq_true, Bool.not_eq_true'] at h1
  refine ⟨h1.2, fun w => eqA_of (d := 9999) hu h1.1 ?_⟩
  exact eqF_v m (d := 9998) [] [] rfl rfl h2 w
 ·next n e' hu =>
  split at h
  ·next k hk hs =>
   obtain ⟨h1, h2⟩ := bsome h
   simp only [Bool.not_eq_true'] at h1
   split at h2
   ·next xs ys hx hy =>
    obtain ⟨h3, h4⟩ := bsome h2
    cases h4
    rw [Bool.and_eq_true] at h3
    have l1 : xs.length = n := by
     have h5 := vals_length m a oa
     rw [intsS_v m hx, List.length_map] at h5
     exact h5.trans (Nat.eq_of_beq_eq_true h3.1)
    have l2 : ys.length = n := by
     have h5 := vals_length m b ob
     rw [intsS_v m hy, List.length_map] at h5
     exact h5.trans (Nat.eq_of_beq_eq_true h3.2)
    refine ⟨h1, fun w => ?_⟩
    rw [intsS_v m hx, intsS_v m hy]
    have hc : P.cellsOf e' = 1 := by
     have := sizeT_info hs
     unfold Program.cellsOf
     cases hq : P.info? e' with
     |none => rw [hq] at this; cases this
     |some i => rw [hq] at this; simpa using this
    have hsome : ∃ i, P.info? e' = some i := by
     have := sizeT_info hs
     cases hq : P.info? e' with
     |none => rw [hq] at this; cases this
     |some i => exact ⟨i, rfl⟩
    obtain ⟨i, hi⟩ := hsome
    rw [run_equalIn_array w 9999 _ _ hu hi, hc, List.range_eq_range']
    have := eqItems_v (k := k) hk xs ys (d := 9998) w n 0 (by omega) (by omega)
    simpa using this
   ·cases h2
  ·cases h
 ·cases h
end
/- What yields a value yields it whatever the memory: each operation. -/

theorem fold_set (off : Nat) : ∀ (new : List Value) (k : Nat) (cells : Array Value), off + k + new.length ≤ cells.size →
  (new.zipIdx k).foldl (fun cs (x : Value × Nat) => cs.setIfInBounds (off + x.2) x.1) cells = (cells.toList.take (off + k) ++ (new ++ cells.toList.drop (off + k + new.length))).toArray := by
 intro new
 induction new with
 |nil => intro k cells h; simp
 |cons v new ih =>
  intro k cells h
  rw [List.length_cons] at h
  rw [List.zipIdx_cons, List.foldl_cons, ih (k + 1) _ (by rw [Array.size_setIfInBounds]; omega)]
  apply congrArg
  rw [Array.toList_setIfInBounds]
  have hl : off + k < cells.toList.length := by rw [Array.length_toList]; omega
  rw [List.drop_set_of_lt (by omega), show off + (k + 1) = off + k + 1 by omega, List.take_add_one, List.getElem?_set_self hl, List.take_set_of_le (Nat.le_refl _)]
  simp [Nat.add_assoc, Nat.add_comm 1]
theorem fill_step {place : Nat → Option (Nat × Nat)} {cells : Array Value} {i off size : Nat} {v : Value} {rest : List (Nat × Value)} (hp : place i = some (off, size)) (h1 : v.cells.size = size) (h2 : off + v.cells.size ≤ cells.size) :
  Instr.fill place cells ((i, v) :: rest) = Instr.fill place ((v.cells.toList.zipIdx 0).foldl (fun cs (x : Value × Nat) => cs.setIfInBounds (off + x.2) x.1) cells) rest := by
 have h3 : ¬ (v.cells.size ≠ size || off + v.cells.size > cells.size) = true := by
  simp only [Bool.or_eq_true, decide_eq_true_eq, not_or, Decidable.not_not]
  exact ⟨h1, by omega⟩
 rw [Instr.fill, hp]
 dsimp only
 rw [if_neg h3, ← Array.foldl_toList]
 simp
section
variable {P : Program}
theorem zeroS_info (m : Nat → Nat) (N : Nat) {t : Nat} {ss : List S} (h : zeroS P t = some ss) : oks N ss ∧ ∃ i v, P.info? t = some i ∧ i.zero = some v ∧ v.cells = (vals m ss).toArray := by
 unfold zeroS at h
 split at h
 ·next i h1 =>
  split at h
  ·next v h2 =>
   split at h
   ·next ss' _ =>
    obtain ⟨h3, h4⟩ := bsome h
    cases h4
    obtain ⟨e, o⟩ := areLit_v m N h3
    exact ⟨o, i, v, h1, h2, by rw [e]⟩
   ·cases h
  ·cases h
 ·cases h
theorem fillS_v {m : Nat → Nat} {N : Nat} {env : List (Nat × SV)} {a : Act} (hk : Knows m N env a) {places : List (Nat × Nat)} {pl : Nat → Option (Nat × Nat)} (hpl : ∀ j x, places[j]? = some x → pl j = some x) {ps : List (Nat × Operand)} : ∀ {ss ss' : List S}, oks N ss → fillS env places ss ps = some ss' →
  oks N ss' ∧ Instr.fill pl (vals m ss).toArray (ps.map fun x => (x.1, a.eval x.2)) = some (vals m ss').toArray := by
 induction ps with
 |nil => intro ss ss' ho h; cases h; exact ⟨ho, rfl⟩
 |cons p r ih =>
  obtain ⟨j, x⟩ := p
  intro ss ss' ho h
  unfold fillS at h
  split at h
  ·next o c h1 h2 =>
   split at h
   ·next s1 h3 =>
    obtain ⟨ok, e⟩ := ev_v hk h2
    obtain ⟨o1, v1, l1, _⟩ := setAt_v m ho ok h3
    obtain ⟨o2, f2⟩ := ih o1 h
    refine ⟨o2, ?_⟩
    have hp : pl j = some (o, 1) := hpl _ _ h1
    have e' : a.eval x = c.v m := e
    rw [List.map_cons, fill_step (v := a.eval x) hp (by rw [e', C.cells]; rfl) (by rw [e', C.cells]; simp; omega), e', C.cells, ← f2, v1]
    show Instr.fill _ ((vals m ss).toArray.setIfInBounds (o + 0) (c.v m)) _ = _
    rw [Nat.add_zero, List.setIfInBounds_toArray]
   ·cases h
  ·next _ o n new h1 h2 =>
   obtain ⟨h3, h4⟩ := bsome h
   have h3 := Nat.eq_of_beq_eq_true h3
   split at h4
   ·next s1 h5 =>
    obtain ⟨ok, e⟩ := ev_v hk h2
    obtain ⟨o1, v1, l1, _⟩ := setSub_v m ho ok h5
    obtain ⟨o2, f2⟩ := ih o1 h4
    refine ⟨o2, ?_⟩
    have hp : pl j = some (o, n) := hpl _ _ h1
    have e' : a.eval x = .agg (vals m new).toArray := e
    have hl := vals_length m new ok
    have h6 : (Value.agg (vals m new).toArray).cells.toList = vals m new := rfl
    have h7 : (Value.agg (vals m new).toArray).cells.size = n := by show (vals m new).toArray.size = n; rw [List.size_toArray]; omega
    rw [List.map_cons, fill_step (v := a.eval x) hp (by rw [e']; exact h7) (by rw [e', h7, List.size_toArray]; omega), e', h6, ← f2, v1]
    have := fold_set o (vals m new) 0 (vals m ss).toArray (by simp; omega)
    simp only [Nat.add_zero] at this
    rw [this, hl]
   ·cases h4
  ·cases h
theorem vnext {s : Sem Value} {x : Value} {w w' : World} (h : s.run P w = .ok x w') : (do let y ← s; pure (Next.value y) : Sem Next).run P w = .ok (.value x) w' := by
 simp [h]
theorem evVal_v {R : Type} {o : Oper} {env : List (Nat × SV)} {K : SV → Option R} {r : R} {m : Nat → Nat} {N : Nat} {a : Act} (hk : Knows m N env a) (h : evVal P o.op env K = some r) :
  ∃ v, K v = some r ∧ v.ok N ∧ ∀ w, (execOp a.eval o).run P w = .ok (.value (v.v m)) w := by
 obtain ⟨dst, op, ty, pos, after, guard⟩ := o
 simp only at h
 unfold evVal at h
 split at h
 ·next x =>
  split at h
  ·next v hv =>
   obtain ⟨ok, e⟩ := ev_v hk hv
   exact ⟨v, h, ok, fun w => by simp [execOp, e]⟩
  ·cases h
 ·next x =>
  split at h
  ·next v hv =>
   obtain ⟨ok, e⟩ := ev_v hk hv
   exact ⟨v, h, ok, fun w => by simp [execOp, e]⟩
  ·cases h
 ·next c x y =>
  split at h
  ·next b hb =>
   obtain ⟨_, eb⟩ := ev_v hk hb
   have eb' : a.eval c = .bool b.d := eb
   rw [BE.ite_d] at h
   split at h
   ·next hd =>
    split at h
    ·next v hv =>
     obtain ⟨ok, e⟩ := ev_v hk hv
     exact ⟨v, h, ok, fun w => by simp [execOp, eb', asBool, hd, e]⟩
    ·cases h
   ·next hd =>
    split at h
    ·next v hv =>
     obtain ⟨ok, e⟩ := ev_v hk hv
     exact ⟨v, h, ok, fun w => by simp [execOp, eb', asBool, hd, e]⟩
    ·cases h
  ·cases h
 ·next bo t x y yt =>
  split at h
  ·next k x1 k' y1 hx hy =>
   obtain ⟨_, ex⟩ := ev_v hk hx
   obtain ⟨_, ey⟩ := ev_v hk hy
   have ex' : a.eval x = .int k x1.d := ex
   have ey' : a.eval y = .int k' y1.d := ey
   obtain ⟨c, h1, h2, h3⟩ := binI_v P t m N h
   exact ⟨_, h1, h2, fun w => vnext (by simp [ex', ey', eqGuard_at_int, h3, SV.v, PV.v])⟩
  ·next x1 y1 hx hy =>
   obtain ⟨_, ex⟩ := ev_v hk hx
   obtain ⟨_, ey⟩ := ev_v hk hy
   have ex' : a.eval x = .bool x1.d := ex
   have ey' : a.eval y = .bool y1.d := ey
   split at h
   ·next hu =>
    have hb : ∀ w, (Op.equal t (.bool x1.d) (.bool y1.d)).run P w = .ok (x1.d == y1.d) w := fun w => run_equalIn_bool' w 9999 t _ _ hu
    split at h
    ·exact ⟨_, h, trivial, fun w => vnext (by simp [ex', ey', eqGuard_at_bool, binOp, hb, SV.v, PV.v, C.v, eqB_d])⟩
    ·exact ⟨_, h, trivial, fun w => vnext (by simp [ex', ey', eqGuard_at_bool, binOp, hb, SV.v, PV.v, C.v, eqB_d, BE.neg_d])⟩
    ·cases h
   ·cases h
  ·next x1 y1 hx hy =>
   obtain ⟨ox, ex⟩ := ev_v hk hx
   obtain ⟨oy, ey⟩ := ev_v hk hy
   have ex' : a.eval x = .agg (vals m x1).toArray := ex
   have ey' : a.eval y = .agg (vals m y1).toArray := ey
   split at h
   ·next e he =>
    obtain ⟨g, hq⟩ := eqT_v m (ox : oks _ x1) (oy : oks _ y1) he
    split at h
    ·exact ⟨_, h, trivial, fun w => vnext (by simp only [ex', ey', Sem.run_bind, run_eqGuard_agg w _ t x y _ _ g, Result.andThen_ok, run_eql_struct, hq]; rfl)⟩
    ·exact ⟨_, h, trivial, fun w => vnext (by simp only [ex', ey', Sem.run_bind, run_eqGuard_agg w _ t x y _ _ g, Result.andThen_ok, run_neq_struct, hq]; rfl)⟩
    ·cases h
   ·cases h
  ·cases h
 ·next uo ut x =>
  split at h
  ·next k x1 hx =>
   obtain ⟨_, ex⟩ := ev_v hk hx
   have ex' : a.eval x = .int k x1.d := ex
   exact ⟨_, h, trivial, fun w => vnext (by simp [ex', Op.unary, Op.intArith, SV.v, PV.v, C.v, IE.mk2_d, wrapF_eq])⟩
  ·next k x1 hx =>
   obtain ⟨_, ex⟩ := ev_v hk hx
   have ex' : a.eval x = .int k x1.d := ex
   exact ⟨_, h, trivial, fun w => vnext (by simp [ex', Op.unary, Op.intBits, Go.bits, SV.v, PV.v, C.v, IE.mk2_d])⟩
  ·next x1 hx =>
   obtain ⟨_, ex⟩ := ev_v hk hx
   have ex' : a.eval x = .bool x1.d := ex
   exact ⟨_, h, trivial, fun w => vnext (by simp [ex', Op.unary, SV.v, PV.v, C.v, BE.neg_d])⟩
  ·cases h
 ·next src dst' x =>
  split at h
  ·next d1 k k1 x1 hs hd hx =>
   obtain ⟨_, ex⟩ := ev_v hk hx
   have ex' : a.eval x = .int k1 x1.d := ex
   exact ⟨_, h, trivial, fun w => vnext (by simp [ex', convert, underlying, hs, hd, Conv.intToInt, SV.v, PV.v, C.v, IE.mk2_d, wrapF_eq])⟩
  ·cases h
 ·next t x f =>
  split at h
  ·next fs g o hu hx =>
   obtain ⟨ok, ex⟩ := ev_v hk hx
   have ex' : a.eval x = .pointer (some ⟨m g, o, none⟩) := ex
   split at h
   ·next fd hf =>
    split at h
    ·next z hz =>
     have hz' := sizeT_v hz
     refine ⟨_, h, ok, fun w => vnext ?_⟩
     have : (⟨m g, o, none⟩ : Addr).add fd.offset = ⟨m g, o + fd.offset, none⟩ := by unfold Addr.add; split <;> simp_all
     simp [ex', Instr.fieldAt, Instr.sureAddr, fieldPlace, underlying, hu, hf, hz', SV.v, PV.v, C.v, this]
    ·cases h
   ·cases h
  ·cases h
 ·next t x f =>
  split at h
  ·next fs ss hu hx =>
   obtain ⟨ok, ex⟩ := ev_v hk hx
   have ex' : a.eval x = .agg (vals m ss).toArray := ex
   split at h
   ·next fd hf =>
    split at h
    ·next v hv =>
     obtain ⟨o1, e1⟩ := partS_v m ok hv
     exact ⟨_, h, o1, fun w => vnext (by simp [ex', Instr.field, asAgg, underlying, hu, hf, e1, SV.v])⟩
    ·cases h
   ·cases h
  ·cases h
 ·next t x i =>
  split at h
  ·next n e g o k j hu hx hi =>
   obtain ⟨ok, ex⟩ := ev_v hk hx
   obtain ⟨_, ei⟩ := ev_v hk hi
   have ex' : a.eval x = .pointer (some ⟨m g, o, none⟩) := ex
   have ei' : a.eval i = .int k j := ei
   split at h
   ·next z hz =>
    obtain ⟨h1, h2⟩ := bsome h
    rw [Bool.and_eq_true] at h1
    have g1 := of_decide_eq_true h1.1
    have g2 := of_decide_eq_true h1.2
    have hz' := sizeT_v hz
    have : (⟨m g, o, none⟩ : Addr).add (j.toNat * z) = ⟨m g, o + j.toNat * z, none⟩ := by unfold Addr.add; split <;> simp_all
    exact ⟨_, h2, ok, fun w => vnext (by simp [ex', ei', Instr.indexAt, Instr.sureAddr, asIntOf, underlying, hu, hz', g1, g2, this, SV.v, PV.v, C.v])⟩
   ·cases h
  ·next n e g o k j hu hx hi =>
   obtain ⟨ok, ex⟩ := ev_v hk hx
   obtain ⟨_, ei⟩ := ev_v hk hi
   have ex' : a.eval x = .pointer (some ⟨m g, o, none⟩) := ex
   have ei' : a.eval i = .int k j := ei
   split at h
   ·next hz =>
    split at h
    ·next g1 =>
     split at h
     ·next g2 =>
      have hz' := sizeT_v hz
      have : (⟨m g, o, none⟩ : Addr).add j.toNat = ⟨m g, o + j.toNat, none⟩ := by unfold Addr.add; split <;> simp_all
      exact ⟨_, h, ⟨ok, g1, g2⟩, fun w => vnext (by simp [ex', ei', Instr.indexAt, Instr.sureAddr, asIntOf, underlying, hu, hz', g1, g2, this, SV.v, PV.v, C.v])⟩
     ·cases h
    ·cases h
   ·cases h
  ·next e g o n c k j hu hx hi =>
   obtain ⟨ok, ex⟩ := ev_v hk hx
   obtain ⟨_, ei⟩ := ev_v hk hi
   have ex' : a.eval x = .slice (some ⟨m g, o, none⟩) n c := ex
   have ei' : a.eval i = .int k j.d := ei
   split at h
   ·next hz =>
    split at h
    ·next g1 =>
     split at h
     ·next g2 =>
      have hz' := sizeT_v hz
      have : (⟨m g, o, none⟩ : Addr).add j.d.toNat = ⟨m g, o + j.d.toNat, none⟩ := by unfold Addr.add; split <;> simp_all
      exact ⟨_, h, ⟨ok, g1, g2⟩, fun w => vnext (by simp [ex', ei', Instr.indexAt, Instr.sureAddr, asIntOf, underlying, hu, hz', g1, g2, this, SV.v, PV.v, C.v])⟩
     ·cases h
    ·cases h
   ·cases h
  ·cases h
 ·next t x i =>
  split at h
  ·next n e ss k j hu hx hi =>
   obtain ⟨ok, ex⟩ := ev_v hk hx
   obtain ⟨_, ei⟩ := ev_v hk hi
   have ex' : a.eval x = .agg (vals m ss).toArray := ex
   have ei' : a.eval i = .int k j.d := ei
   split at h
   ·next k1 xs n1 ha =>
    obtain ⟨h0, h1⟩ := bsome h
    have h0 := Nat.eq_of_beq_eq_true h0
    split at h1
    ·next hz =>
     split at h1
     ·next g1 =>
      split at h1
      ·next g2 =>
       have hl : xs.length = n1 := ok.1
       have hz' := sizeT_v hz
       have hp := part_one (P := P) (vs := vals m [.a k1 xs n1]) (v := .int k1 (rd xs j.d)) (o := j.d.toNat) ha (by
        have : j.d.toNat < xs.length := by omega
        show (xs.map (Value.int k1) ++ [])[j.d.toNat]? = some (.int k1 (xs.getD j.d.toNat 0))
        rw [List.append_nil, List.getElem?_map, List.getD_eq_getElem?_getD, List.getElem?_eq_getElem this]; rfl)
       have dx : ∀ n : Int, IE.d (.x n) = n := fun _ => rfl
       exact ⟨_, h1, trivial, fun w => vnext (by simp [ex', ei', Instr.index, asIntOf, underlying, hu, hz', g1, g2, hp, SV.v, PV.v, C.v, dx])⟩
      ·cases h1
     ·cases h1
    ·cases h1
   ·cases h
  ·cases h
 ·next x i =>
  split at h
  ·next vs hx =>
   obtain ⟨ok, ex⟩ := ev_v hk hx
   have ex' : a.eval x = .tuple (vs.map (PV.v m)).toArray := ex
   split at h
   ·next v hv =>
    refine ⟨_, h, ok v (List.mem_of_getElem? hv), fun w => vnext ?_⟩
    simp [ex', Instr.extract, hv, SV.v]
   ·cases h
  ·cases h
 ·next x =>
  split at h
  ·next g o hx =>
   obtain ⟨ok, ex⟩ := ev_v hk hx
   have ex' : a.eval x = .pointer (some ⟨m g, o, none⟩) := ex
   exact ⟨_, h, ok, fun w => by simp [execOp, ex', SV.v, PV.v, C.v]⟩
  ·cases h
 ·next t ps =>
  split at h
  ·next fs ss hu hz =>
   split at h
   ·next places hp =>
    split at h
    ·next ss' hf =>
     obtain ⟨o0, i0, v0, hi, hz0, hc⟩ := zeroS_info m N hz
     obtain ⟨o1, f1⟩ := fillS_v hk (pl := (places.toArray[·]?)) (fun j x hx => by simpa using hx) o0 hf
     refine ⟨_, h, o1, fun w => vnext (run_build w t _ _ ?_)⟩
     unfold Program.built
     simp only [hi, hu, hz0, hp]
     rw [hc, ← f1]
     congr 1
     simp
    ·cases h
   ·cases h
  ·next n e ss hu hz =>
   split at h
   ·next ie hie =>
    split at h
    ·next ss' hf =>
     obtain ⟨o0, i0, v0, hi, hz0, hc⟩ := zeroS_info m N hz
     obtain ⟨o1, f1⟩ := fillS_v hk (pl := fun i => some (i * ie.size, ie.size)) (fun j x hx => by
      rw [List.getElem?_map] at hx
      obtain ⟨y, hy, rfl⟩ := Option.map_eq_some_iff.mp hx
      have hj : y = j := by
       obtain ⟨hlt, he⟩ := List.getElem?_eq_some_iff.1 hy
       rw [List.getElem_range] at he; exact he.symm
      subst hj
      rfl) o0 hf
     refine ⟨_, h, o1, fun w => vnext (run_build w t _ _ ?_)⟩
     unfold Program.built
     simp only [hi, hu, hz0, hie]
     rw [hc, ← f1]
     congr 1
     simp
    ·cases h
   ·cases h
  ·cases h
 ·next args argTypes =>
  split at h
  ·next t x h1 h2 =>
   split at h
   ·next e g o n c hu hx =>
    obtain ⟨ok, ex⟩ := ev_v hk hx
    have ex' : a.eval x = .slice (some ⟨m g, o, none⟩) n c := ex
    exact ⟨_, h, trivial, fun w => by simp [execOp, resolve, invoke, builtin, Builtin.len_, h1, h2, ex', underlying, hu, goInt, SV.v, PV.v, C.v, IE.d]⟩
   ·cases h
  ·cases h
 ·next args at' =>
  split at h
  ·next k x1 k' y1 hx =>
   obtain ⟨h1, h2⟩ := bsome h
   obtain rfl := of_decide_eq_true h1
   obtain ⟨_, ex⟩ := evs_v hk hx
   refine ⟨_, h2, trivial, fun w => ?_⟩
   have e2 : args.map a.eval = #[.int k x1.d, .int k y1.d] := by
    apply Array.ext'
    rw [Array.toList_map, ex]; rfl
   simp [execOp, resolve, invoke, builtin, Builtin.min_, Builtin.min2, e2, SV.v, PV.v, C.v, IE.mk2_d, mn]
  ·cases h
 ·next args at' =>
  split at h
  ·next k x1 k' y1 hx =>
   obtain ⟨h1, h2⟩ := bsome h
   obtain rfl := of_decide_eq_true h1
   obtain ⟨_, ex⟩ := evs_v hk hx
   refine ⟨_, h2, trivial, fun w => ?_⟩
   have e2 : args.map a.eval = #[.int k x1.d, .int k y1.d] := by
    apply Array.ext'
    rw [Array.toList_map, ex]; rfl
   simp [execOp, resolve, invoke, builtin, Builtin.max_, Builtin.max2, e2, SV.v, PV.v, C.v, IE.mk2_d, mx]
  ·cases h
 ·cases h
end
end Go.Proofs.Ytejkemahdincjaa.Ek
