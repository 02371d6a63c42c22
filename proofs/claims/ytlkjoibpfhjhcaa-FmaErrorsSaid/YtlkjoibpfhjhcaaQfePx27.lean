import Derived.Test.YtlkjoibpfhjhcaaQfeZ
import Derived.Test.YtlkjoibpfhjhcaaQfeM1
import Derived.Test.YtlkjoibpfhjhcaaQfePx12
import Derived.Test.YtlkjoibpfhjhcaaQfeM4
-- Printed by a program of this session's out of Lean's print of the translation; Lean checks it.
namespace Go.Proofs.Ytlkjoibpfhjhcaa.P
open Go.RowKit Go.Proofs.YtlkjoibpfhjhcaaW.PrintWords Go.Proofs.YtlkjoibpfhjhcaaW.PrintLast Go.Proofs.YtlkjoibpfhjhcaaW.PrintMore
attribute [local go_sem] max2_int min2_int max_two min_two max_three min_three max_four min_four   -- for this text's walks alone
set_option linter.unusedVariables false
set_option linter.unusedSimpArgs false

/-! ### prod_Mul: function 23 -/
def prod_Mul.j0 : Nat → Int → Int → Int → Int → Bool → Bool → Option (Int × Bool × Bool × Bool × Bool × Bool)
 |0, _, _, _, _, _, _ => none
 |k + 1, x0, x1, x2, x3, x13, x49 => if x49 = true then ((format_Inf.f x0 x13).bind fun t548 => (some (t548, false, false, false, false, false))) else ((prod_product.f x0 x2 x3).bind fun bt549 => ((round_Pack.f k x0 x1 x13 bt549.2.1 bt549.2.2.1 false).bind fun bt554 => (some (bt554.1, bt554.2.1, bt554.2.2.1, bt554.2.2.2.1, bt554.2.2.2.2.1, bt554.2.2.2.2.2))))
def prod_Mul.f (k : Nat) (a0 : Int) (a1 : Int) (a2 : Int) (a3 : Int) : Option (Int × Bool × Bool × Bool × Bool × Bool) := (sum_Nans.f k a0 (([a2, a3] : List Int))).bind fun bt529 => (if bt529.2.2.2.2.2.2 = true then (some (bt529.1, bt529.2.1, bt529.2.2.1, bt529.2.2.2.1, bt529.2.2.2.2.1, bt529.2.2.2.2.2.1)) else ((prod_torn.f k a0 a2 a3).bind fun t537 => (if t537 = true then ((sum_Bad.f a0).bind fun bt538 => (some (bt538.1, bt538.2.1, bt538.2.2.1, bt538.2.2.2.1, bt538.2.2.2.2.1, bt538.2.2.2.2.2))) else ((format_Neg.f a0 a2).bind fun t544 => ((format_Neg.f a0 a3).bind fun t545 => ((format_IsInf.f k a0 a2).bind fun t546 => (if t546 = true then (prod_Mul.j0 k a0 a1 a2 a3 (t544 != t545) true) else ((format_IsInf.f k a0 a3).bind fun t547 => (prod_Mul.j0 k a0 a1 a2 a3 (t544 != t545) t547)))))))))
theorem prod_Mul.mono_l : ∀ k, (∀ y0 y1 y2 y3 y4 y5, LeO (prod_Mul.j0 k y0 y1 y2 y3 y4 y5) (prod_Mul.j0 (k + 1) y0 y1 y2 y3 y4 y5))
 |0 => fun _ _ _ _ _ _ r h => by simp [prod_Mul.j0] at h
 |k + 1 => by
  have ih0 := prod_Mul.mono_l k
  ·intro y0 y1 y2 y3 y4 y5
   unfold prod_Mul.j0
   repeat' first
   |(with_reducible exact ih0 _ _ _ _ _ _)
   |(with_reducible exact format_IsInf.mono _ _ _)
   |(with_reducible exact prod_torn.mono _ _ _ _)
   |(with_reducible exact round_Pack.mono _ _ _ _ _ _ _)
   |(with_reducible exact sum_Nans.mono _ _ _)
   |(with_reducible exact LeO.refl _)
   |(with_reducible exact LeO.none _)
   |(with_reducible refine LeO.ite ?_ ?_)
   |(with_reducible refine LeO.bind ?_ (fun _ => ?_))
   |exact ih0 _ _ _ _ _ _
   |exact format_IsInf.mono _ _ _
   |exact prod_torn.mono _ _ _ _
   |exact round_Pack.mono _ _ _ _ _ _ _
   |exact sum_Nans.mono _ _ _
   |exact LeO.none _
   |refine LeO.ite ?_ ?_
   |refine LeO.bind ?_ (fun _ => ?_)
theorem prod_Mul.mono : ∀ a0 a1 a2 a3 k, LeO (prod_Mul.f k a0 a1 a2 a3) (prod_Mul.f (k + 1) a0 a1 a2 a3) := by
 intro a0 a1 a2 a3 k
 have ih0 := prod_Mul.mono_l k
 unfold prod_Mul.f
 repeat' first
   |(with_reducible exact ih0 _ _ _ _ _ _)
   |(with_reducible exact format_IsInf.mono _ _ _)
   |(with_reducible exact prod_torn.mono _ _ _ _)
   |(with_reducible exact round_Pack.mono _ _ _ _ _ _ _)
   |(with_reducible exact sum_Nans.mono _ _ _)
   |(with_reducible exact LeO.refl _)
   |(with_reducible exact LeO.none _)
   |(with_reducible refine LeO.ite ?_ ?_)
   |(with_reducible refine LeO.bind ?_ (fun _ => ?_))
   |exact ih0 _ _ _ _ _ _
   |exact format_IsInf.mono _ _ _
   |exact prod_torn.mono _ _ _ _
   |exact round_Pack.mono _ _ _ _ _ _ _
   |exact sum_Nans.mono _ _ _
   |exact LeO.none _
   |refine LeO.ite ?_ ?_
   |refine LeO.bind ?_ (fun _ => ?_)
set_option maxHeartbeats 8000000 in
set_option maxRecDepth 100000 in
theorem prod_Mul.calls (k : Nat) (a0 : Int) (a1 : Int) (a2 : Int) (a3 : Int) (r1 : Int) (r2 : Bool) (r3 : Bool) (r4 : Bool) (r5 : Bool) (r6 : Bool) (w : World) (h : prod_Mul.f k a0 a1 a2 a3 = some (r1, r2, r3, r4, r5, r6)) :
  Calls Try.prog 23 #[.int .i64 a0, .int .i64 a1, .int .u32 a2, .int .u32 a3] w fun e w' => e = .returned (.tuple #[.int .u32 r1, .agg #[.bool r2, .bool r3, .bool r4, .bool r5, .bool r6]]) ∧ Below w.heap.size w w' := by
 have hu27 := Try.underlying27
 have hu56 := Try.underlying56
 have HB := Aside0.mk (Below.refl w.heap.size w)
 have H : ((sum_Nans.f k a0 (([a2, a3] : List Int))).bind fun bt529 => (if bt529.2.2.2.2.2.2 = true then (some (bt529.1, bt529.2.1, bt529.2.2.1, bt529.2.2.2.1, bt529.2.2.2.2.1, bt529.2.2.2.2.2.1)) else ((prod_torn.f k a0 a2 a3).bind fun t537 => (if t537 = true then ((sum_Bad.f a0).bind fun bt538 => (some (bt538.1, bt538.2.1, bt538.2.2.1, bt538.2.2.2.1, bt538.2.2.2.2.1, bt538.2.2.2.2.2))) else ((format_Neg.f a0 a2).bind fun t544 => ((format_Neg.f a0 a3).bind fun t545 => ((format_IsInf.f k a0 a2).bind fun t546 => (if t546 = true then (prod_Mul.j0 k a0 a1 a2 a3 (t544 != t545) true) else ((format_IsInf.f k a0 a3).bind fun t547 => (prod_Mul.j0 k a0 a1 a2 a3 (t544 != t545) t547)))))))))) = some (r1, r2, r3, r4, r5, r6) := h
 clear h
 obtain ⟨y526, hy526⟩ : ∃ y_ : List Int, y_ = (([a2, a3] : List Int)) := ⟨_, rfl⟩
 replace H : ((sum_Nans.f k a0 y526).bind fun bt529 => (if bt529.2.2.2.2.2.2 = true then (some (bt529.1, bt529.2.1, bt529.2.2.1, bt529.2.2.2.1, bt529.2.2.2.2.1, bt529.2.2.2.2.2.1)) else ((prod_torn.f k a0 a2 a3).bind fun t537 => (if t537 = true then ((sum_Bad.f a0).bind fun bt538 => (some (bt538.1, bt538.2.1, bt538.2.2.1, bt538.2.2.2.1, bt538.2.2.2.2.1, bt538.2.2.2.2.2))) else ((format_Neg.f a0 a2).bind fun t544 => ((format_Neg.f a0 a3).bind fun t545 => ((format_IsInf.f k a0 a2).bind fun t546 => (if t546 = true then (prod_Mul.j0 k a0 a1 a2 a3 (t544 != t545) true) else ((format_IsInf.f k a0 a3).bind fun t547 => (prod_Mul.j0 k a0 a1 a2 a3 (t544 != t545) t547)))))))))) = some (r1, r2, r3, r4, r5, r6) := by first | (rw [hy526]; with_reducible exact H) | (have H2_ := (Option.bind_some _ _).symm.trans H; rw [hy526]; with_reducible exact H2_) | (have H2_ := (Option.bind_some _ _).symm.trans H; with_reducible exact H2_) | with_reducible exact H | (rw [hy526]; exact H) | exact H
 have Ny526 := Aside0.mk hy526
 clear hy526
 replace H := Option.bind_eq_some_iff.mp H
 obtain ⟨⟨t529, t530, t531, t532, t533, t534, t535⟩, A50, H⟩ := H
 replace H : (if t535 = true then (some (t529, t530, t531, t532, t533, t534)) else ((prod_torn.f k a0 a2 a3).bind fun t537 => (if t537 = true then ((sum_Bad.f a0).bind fun bt538 => (some (bt538.1, bt538.2.1, bt538.2.2.1, bt538.2.2.2.1, bt538.2.2.2.2.1, bt538.2.2.2.2.2))) else ((format_Neg.f a0 a2).bind fun t544 => ((format_Neg.f a0 a3).bind fun t545 => ((format_IsInf.f k a0 a2).bind fun t546 => (if t546 = true then (prod_Mul.j0 k a0 a1 a2 a3 (t544 != t545) true) else ((format_IsInf.f k a0 a3).bind fun t547 => (prod_Mul.j0 k a0 a1 a2 a3 (t544 != t545) t547))))))))) = some (r1, r2, r3, r4, r5, r6) := H
 have A5 := Aside0.mk A50
 clear A50
 by_cases c6 : t535 = true
 ·subst c6
  have H1 : (some (t529, t530, t531, t532, t533, t534)) = some (r1, r2, r3, r4, r5, r6) := by rw [if_pos rfl] at H; exact H
  clear H
  have H := H1
  clear H1
  simp only [Option.some.injEq, Prod.mk.injEq] at H
  obtain ⟨rfl, rfl, rfl, rfl, rfl, rfl⟩ := H
  go_enter Try.func23, Try.ntmps23
  try go_wp2_with (first | ((with_reducible refine gate_dst (N := 9) rfl ?_); refine box_event ?hg (N := 9) ?hd (cs := F5) (t := 27) ?hr ?_; (case hd => rfl); (case hg => rfl); (case hr => first | (go_simp; done) | (go_simp; rfl)); intro gb525 hg w7 hbox hb; have n0_ := Aside0.mk (below_step (bl0 HB.out) hb); have n1_ := Aside0.mk (hbox); have n2_ := Aside0.mk ((by rw [hg]; exact (below_size (bl0 HB.out)) : w.heap.size ≤ gb525)); have n3_ := n2_; clear HB; have HB := n0_; have BK525 := n1_; have GW525 := n2_; have GE525 := n3_; clear n0_ n1_ n2_ n3_; clear hb hbox hg) | ((with_reducible refine gate_dst (N := 19) rfl ?_); refine Kd.R_lit (Kd.int .u32) _ 22 ?hg (N := 19) ?hd (xs := ([a2, a3] : List Int)) (inner := [.int .u32 a2, .int .u32 a3]) (ok := fun _ => True) (okp := fun _ => True) ?hr ?hp (fun _ hk => hk) trivial (Below.refl _ _) (Nat.le_refl _) (by simp) ?_; (case hd => rfl); (case hg => rfl); (case hr => first | (go_simp; done) | (go_simp; rfl)); (case hp => exact (Reps.one (show Kd.M (Kd.int .u32) _ _ _ a2 [.int .u32 a2] from rfl) (Reps.one (show Kd.M (Kd.int .u32) _ _ _ a3 [.int .u32 a3] from rfl) (Reps.none _ _)))); intro v527 w8 ho9 hb hg_ hnew_; clear hg_ hnew_; (first | rw [← Ny526.out] at ho9 | (simp only [Int.reduceToNat] at ho9; rw [← Ny526.out] at ho9)); have n0_ := Aside0.mk (Kd.R_lower ho9 (below_size (bl1 HB.out GE525.out))); have n1_ := Aside0.mk (blk_below (g := gb525) (o := .cells #[.bool false, .bool false, .bool false, .bool false, .bool false] 27 (0, 0)) (bv BK525.out) hb); have n2_ := Aside0.mk (below_step (bl1 HB.out GE525.out) hb); clear BK525; clear HB; have HO528 := n0_; have BK525 := n1_; have HB := n2_; clear n0_ n1_ n2_; clear hb ho9; obtain ⟨Ao10, co10, eo10⟩ := Kd.R_slice HO528.out; subst eo10) | ((with_reducible refine gate_callee (f := 31) rfl ?_); refine goesL_ (some 20) rfl rfl Try.func31 (by kernel_rfl) rfl #[.int .i64 a0, .slice Ao10 y526.length co10] rfl gl ?_; (with_reducible refine (sum_Nans.calls k a0 _ _ y526 t529 t530 t531 t532 t533 t534 true _ ?side1 ?side2 A5.out).mono ?_); (case side1 => repeat (first | exact (Kd.R_reads' HO528.out).2.2 | (with_reducible refine Kd.C_alloc ?_ _) | (with_reducible refine Kd.C_drewN ?_ _) | (with_reducible refine Kd.C_drew ?_))); (case side2 => exact (Kd.R_reads' HO528.out).2.1); rintro e w11 ⟨rfl, hb⟩; refine ⟨_, rfl, ?_⟩; have n0_ := Aside0.mk (Kd.R_below (by (with_reducible repeat (first | apply Kd.R_alloc | apply Kd.R_drewN | apply Kd.R_drew)); exact HO528.out) hb); have n1_ := Aside0.mk (blk_below (g := gb525) (o := .cells #[.bool false, .bool false, .bool false, .bool false, .bool false] 27 (0, 0)) (bv BK525.out) hb); have n2_ := Aside0.mk (below_step (bl1 HB.out GE525.out) hb); clear HO528; clear BK525; clear HB; have HO528 := n0_; have BK525 := n1_; have HB := n2_; clear n0_ n1_ n2_) | ((with_reducible refine gate_dst (N := 11) rfl ?_); refine box_event ?hg (N := 11) ?hd (cs := F5) (t := 27) ?hr ?_; (case hd => rfl); (case hg => rfl); (case hr => first | (go_simp; done) | (go_simp; rfl)); intro gb536 hg w12 hbox hb; have n0_ := Aside0.mk (Kd.R_below (by (with_reducible repeat (first | apply Kd.R_alloc | apply Kd.R_drewN | apply Kd.R_drew)); exact HO528.out) hb); have n1_ := Aside0.mk (blk_below (g := gb525) (o := .cells #[.bool false, .bool false, .bool false, .bool false, .bool false] 27 (0, 0)) (bv BK525.out) hb); have n2_ := Aside0.mk (below_step (bl1 HB.out GE525.out) hb); have n3_ := Aside0.mk (hbox); have n4_ := Aside0.mk ((by rw [hg]; exact (below_size (bl1 HB.out GE525.out)) : w.heap.size ≤ gb536)); have n5_ := n4_; have n6_ := Aside0.mk ((by rw [hg]; exact Nat.ne_of_lt (blk_lt (g := gb525) (o := .cells F5 27 (0, 0)) (bv BK525.out)) : gb525 ≠ gb536)); have n7_ := Aside0.mk (Ne.symm n6_.out); clear HO528; clear BK525; clear HB; have HO528 := n0_; have BK525 := n1_; have HB := n2_; have BK536 := n3_; have GW536 := n4_; have GE536 := n5_; have NB525_536 := n6_; have NB536_525 := n7_; clear n0_ n1_ n2_ n3_ n4_ n5_ n6_ n7_; clear hb hbox hg; have hnb13 := NB536_525.out; have hnc13 := NB525_536.out; obtain ⟨hcz14_0, hcz14_1, hcz14_2, hcz14_3, hcz14_4⟩ := bc5 BK536.out; obtain ⟨hfz14_0, hfz14_1, hfz14_2, hfz14_3, hfz14_4⟩ := bf5 BK536.out))
  have n0_ : Aside0 (Kd.R (Kd.int .u32) 22 (((((w12.setCell ⟨gb536, 0, none⟩ (.bool t530)).setCell ⟨gb536, 1, none⟩ (.bool t531)).setCell ⟨gb536, 2, none⟩ (.bool t532)).setCell ⟨gb536, 3, none⟩ (.bool t533)).setCell ⟨gb536, 4, none⟩ (.bool t534)) w.heap.size (fun _ => True) (.slice Ao10 y526.length co10) y526) := ⟨by (with_reducible repeat (first | apply Kd.R_alloc | apply Kd.R_drewN | apply Kd.R_drew)); exact Kd.R_mono (Kd.R_far (p := ⟨gb536, 4, none⟩) (Kd.R_far (p := ⟨gb536, 3, none⟩) (Kd.R_far (p := ⟨gb536, 2, none⟩) (Kd.R_far (p := ⟨gb536, 1, none⟩) (Kd.R_far (p := ⟨gb536, 0, none⟩) (Kd.R_types HO528.out BK536.out (by decide)) (fun _ hk => hk.2) (.bool t530)) (fun _ hk => hk.2) (.bool t531)) (fun _ hk => hk.2) (.bool t532)) (fun _ hk => hk.2) (.bool t533)) (fun _ hk => hk.2) (.bool t534)) (fun _ hk => trivial)⟩
  have n1_ : Aside0 ((((((w12.setCell ⟨gb536, 0, none⟩ (.bool t530)).setCell ⟨gb536, 1, none⟩ (.bool t531)).setCell ⟨gb536, 2, none⟩ (.bool t532)).setCell ⟨gb536, 3, none⟩ (.bool t533)).setCell ⟨gb536, 4, none⟩ (.bool t534)).heap[gb525]? = some (.cells #[.bool false, .bool false, .bool false, .bool false, .bool false] 27 (0, 0))) := ⟨by (with_reducible repeat first | apply bd | apply be | apply ba); refine blk_far ?_ NB525_536.out _; (with_reducible repeat first | apply bd | apply be | apply ba); refine blk_far ?_ NB525_536.out _; (with_reducible repeat first | apply bd | apply be | apply ba); refine blk_far ?_ NB525_536.out _; (with_reducible repeat first | apply bd | apply be | apply ba); refine blk_far ?_ NB525_536.out _; (with_reducible repeat first | apply bd | apply be | apply ba); refine blk_far ?_ NB525_536.out _; (with_reducible repeat first | apply bd | apply be | apply ba); exact BK525.out⟩
  have n2_ : Aside0 ((((((w12.setCell ⟨gb536, 0, none⟩ (.bool t530)).setCell ⟨gb536, 1, none⟩ (.bool t531)).setCell ⟨gb536, 2, none⟩ (.bool t532)).setCell ⟨gb536, 3, none⟩ (.bool t533)).setCell ⟨gb536, 4, none⟩ (.bool t534)).heap[gb536]? = some (.cells #[.bool t530, .bool t531, .bool t532, .bool t533, .bool t534] 27 (0, 0))) := ⟨by (with_reducible repeat first | apply bd | apply be | apply ba); refine blk_put (cs := #[.bool t530, .bool t531, .bool t532, .bool t533, .bool false]) ?_ 4 _ rfl; (with_reducible repeat first | apply bd | apply be | apply ba); refine blk_put (cs := #[.bool t530, .bool t531, .bool t532, .bool false, .bool false]) ?_ 3 _ rfl; (with_reducible repeat first | apply bd | apply be | apply ba); refine blk_put (cs := #[.bool t530, .bool t531, .bool false, .bool false, .bool false]) ?_ 2 _ rfl; (with_reducible repeat first | apply bd | apply be | apply ba); refine blk_put (cs := #[.bool t530, .bool false, .bool false, .bool false, .bool false]) ?_ 1 _ rfl; (with_reducible repeat first | apply bd | apply be | apply ba); refine blk_put (cs := F5) ?_ 0 _ rfl; (with_reducible repeat first | apply bd | apply be | apply ba); exact BK536.out⟩
  have n3_ : Aside0 (Below w.heap.size w (((((w12.setCell ⟨gb536, 0, none⟩ (.bool t530)).setCell ⟨gb536, 1, none⟩ (.bool t531)).setCell ⟨gb536, 2, none⟩ (.bool t532)).setCell ⟨gb536, 3, none⟩ (.bool t533)).setCell ⟨gb536, 4, none⟩ (.bool t534))) := ⟨bl2 HB.out GE525.out GE536.out⟩
  (try clear HO528)
  (try clear BK525)
  (try clear BK536)
  (try clear HB)
  generalize (((((w12.setCell ⟨gb536, 0, none⟩ (.bool t530)).setCell ⟨gb536, 1, none⟩ (.bool t531)).setCell ⟨gb536, 2, none⟩ (.bool t532)).setCell ⟨gb536, 3, none⟩ (.bool t533)).setCell ⟨gb536, 4, none⟩ (.bool t534)) = w15 at n0_ n1_ n2_ n3_ ⊢
  have HO528 := n0_
  have BK525 := n1_
  have BK536 := n2_
  have HB := n3_
  clear n0_ n1_ n2_ n3_
  have n0_ := Aside0.mk (Kd.R_drew HO528.out)
  have n1_ := Aside0.mk (blk_drew BK525.out)
  have n2_ := Aside0.mk (blk_drew BK536.out)
  have n3_ := Aside0.mk (below_drew1 HB.out)
  clear HO528
  clear BK525
  clear BK536
  clear HB
  have HO528 := n0_
  have BK525 := n1_
  have BK536 := n2_
  have HB := n3_
  clear n0_ n1_ n2_ n3_
  refine start_ (n := 4) (S := fun w' => w'.cell? ⟨gb536, 0, none⟩ = some (.bool t530) ∧ w'.cell? ⟨gb536, 1, none⟩ = some (.bool t531) ∧ w'.cell? ⟨gb536, 2, none⟩ = some (.bool t532) ∧ w'.cell? ⟨gb536, 3, none⟩ = some (.bool t533) ∧ w'.cell? ⟨gb536, 4, none⟩ = some (.bool t534)) (ds := []) #[false, false, false, false] (by kernel_rfl) rfl rfl ⟨(blk_cell BK536.out 0).trans rfl, (blk_cell BK536.out 1).trans rfl, (blk_cell BK536.out 2).trans rfl, (blk_cell BK536.out 3).trans rfl, (blk_cell BK536.out 4).trans rfl⟩ (fun hHeld => ?_)
  generalize w15.drew = w16 at HO528 BK525 BK536 HB hHeld ⊢
  refine pure_ (i := 0) (N := some 25) (v := ?_) (a' := ?_) #[true, false, false, false] rfl rfl (by kernel_rfl) (fun _ _ _ h => h) (Or.inl ⟨by rfl, ?_⟩) ?_ ?_
  rotate_left
  ·intro w'
   go_simp
   with_reducible rfl
  rotate_left
  ·simp only [Act.put, sb, sz, ss, i64_w, i32_w]
   rfl
  refine pure_ (i := 2) (N := some 8) (v := ?_) (a' := ?_) #[true, false, true, false] rfl rfl (by kernel_rfl) (fun _ _ _ h => h) (Or.inl ⟨by rfl, ?_⟩) ?_ ?_
  rotate_left
  ·intro w'
   go_simp
   with_reducible rfl
  rotate_left
  ·simp only [Act.put, sb, sz, ss, i64_w, i32_w]
   rfl
  refine take_ (i := 1) (N := some 26) (v := ?_) (a' := ?_) #[true, true, true, false] rfl rfl (by kernel_rfl) (fun _ _ _ h => h) (Or.inl ⟨by rfl, ?_⟩) hHeld ?_ ?_
  rotate_left
  ·rintro w' ⟨s0, s1, s2, s3, s4⟩
   go_simp
   with_reducible rfl
  rotate_left
  ·simp only [Act.put, sb, sz, ss, i64_w, i32_w]
   rfl
  refine one_ (i := 3) (N := none) #[true, true, true, true] rfl rfl (by kernel_rfl) (by decide) (fun K hK => ?_)
  have hs17 : w16.cell? ⟨gb525, 0, none⟩ = some (.bool false) := (blk_cell BK525.out 0).trans rfl
  have hfs17 := blk_frozen BK525.out 0
  have hns17_1 := NB536_525.out
  have hms17_1 := NB525_536.out
  have hs18 : w16.cell? ⟨gb525, 1, none⟩ = some (.bool false) := (blk_cell BK525.out 1).trans rfl
  have hfs18 := blk_frozen BK525.out 1
  have hns18_1 := NB536_525.out
  have hms18_1 := NB525_536.out
  have hs19 : w16.cell? ⟨gb525, 2, none⟩ = some (.bool false) := (blk_cell BK525.out 2).trans rfl
  have hfs19 := blk_frozen BK525.out 2
  have hns19_1 := NB536_525.out
  have hms19_1 := NB525_536.out
  have hs20 : w16.cell? ⟨gb525, 3, none⟩ = some (.bool false) := (blk_cell BK525.out 3).trans rfl
  have hfs20 := blk_frozen BK525.out 3
  have hns20_1 := NB536_525.out
  have hms20_1 := NB525_536.out
  have hs21 : w16.cell? ⟨gb525, 4, none⟩ = some (.bool false) := (blk_cell BK525.out 4).trans rfl
  have hfs21 := blk_frozen BK525.out 4
  have hns21_1 := NB536_525.out
  have hms21_1 := NB525_536.out
  refine skip_ (w1 := ?_) (by rfl) rfl ?_ ?_
  rotate_left
  ·go_simp
   rfl
  refine hK.out _ _ ⟨(cf5 NB536_525.out (hHeld.1)), (cf5 NB536_525.out (hHeld.2.1)), (cf5 NB536_525.out (hHeld.2.2.1)), (cf5 NB536_525.out (hHeld.2.2.2.1)), (cf5 NB536_525.out (hHeld.2.2.2.2))⟩ (fun hHeld => ?_)
  clear hK K
  refine done_ (by kernel_rfl) ?_
  try go_wp2
  refine bodyPost_ret (results_tc rfl _ _ gb525 27 #[.bool t530, .bool t531, .bool t532, .bool t533, .bool t534] (0, 0) _ rfl (by (with_reducible repeat first | apply bd | apply be | apply ba); refine blk_put (cs := #[.bool t530, .bool t531, .bool t532, .bool t533, .bool false]) ?_ 4 _ rfl; (with_reducible repeat first | apply bd | apply be | apply ba); refine blk_put (cs := #[.bool t530, .bool t531, .bool t532, .bool false, .bool false]) ?_ 3 _ rfl; (with_reducible repeat first | apply bd | apply be | apply ba); refine blk_put (cs := #[.bool t530, .bool t531, .bool false, .bool false, .bool false]) ?_ 2 _ rfl; (with_reducible repeat first | apply bd | apply be | apply ba); refine blk_put (cs := #[.bool t530, .bool false, .bool false, .bool false, .bool false]) ?_ 1 _ rfl; (with_reducible repeat first | apply bd | apply be | apply ba); refine blk_put (cs := F5) ?_ 0 _ rfl; (with_reducible repeat first | apply bd | apply be | apply ba); exact BK525.out) Try.underlying27 rfl (by kernel_rfl)) rfl ?_
  exact ⟨by first | rfl | (simp [errW_none, errW_some] <;> rfl) | (simp [*, errW_none, errW_some] <;> rfl), bl2 HB.out GE525.out GE536.out⟩
 ·replace c6 := Bool.eq_false_iff.mpr c6
  subst c6
  have H1 : ((prod_torn.f k a0 a2 a3).bind fun t537 => (if t537 = true then ((sum_Bad.f a0).bind fun bt538 => (some (bt538.1, bt538.2.1, bt538.2.2.1, bt538.2.2.2.1, bt538.2.2.2.2.1, bt538.2.2.2.2.2))) else ((format_Neg.f a0 a2).bind fun t544 => ((format_Neg.f a0 a3).bind fun t545 => ((format_IsInf.f k a0 a2).bind fun t546 => (if t546 = true then (prod_Mul.j0 k a0 a1 a2 a3 (t544 != t545) true) else ((format_IsInf.f k a0 a3).bind fun t547 => (prod_Mul.j0 k a0 a1 a2 a3 (t544 != t545) t547)))))))) = some (r1, r2, r3, r4, r5, r6) := by rw [if_neg (show ¬ (false = true) by decide)] at H; exact H
  clear H
  have H := H1
  clear H1
  replace H := Option.bind_eq_some_iff.mp H
  obtain ⟨t537, A220, H⟩ := H
  replace H : (if t537 = true then ((sum_Bad.f a0).bind fun bt538 => (some (bt538.1, bt538.2.1, bt538.2.2.1, bt538.2.2.2.1, bt538.2.2.2.2.1, bt538.2.2.2.2.2))) else ((format_Neg.f a0 a2).bind fun t544 => ((format_Neg.f a0 a3).bind fun t545 => ((format_IsInf.f k a0 a2).bind fun t546 => (if t546 = true then (prod_Mul.j0 k a0 a1 a2 a3 (t544 != t545) true) else ((format_IsInf.f k a0 a3).bind fun t547 => (prod_Mul.j0 k a0 a1 a2 a3 (t544 != t545) t547))))))) = some (r1, r2, r3, r4, r5, r6) := H
  have A22 := Aside0.mk A220
  clear A220
  by_cases c23 : t537 = true
  ·subst c23
   have H1 : ((sum_Bad.f a0).bind fun bt538 => (some (bt538.1, bt538.2.1, bt538.2.2.1, bt538.2.2.2.1, bt538.2.2.2.2.1, bt538.2.2.2.2.2))) = some (r1, r2, r3, r4, r5, r6) := by rw [if_pos rfl] at H; exact H
   clear H
   have H := H1
   clear H1
   replace H := Option.bind_eq_some_iff.mp H
   obtain ⟨⟨t538, t539, t540, t541, t542, t543⟩, A240, H⟩ := H
   replace H : (some (t538, t539, t540, t541, t542, t543)) = some (r1, r2, r3, r4, r5, r6) := H
   have A24 := Aside0.mk A240
   clear A240
   simp only [Option.some.injEq, Prod.mk.injEq] at H
   obtain ⟨rfl, rfl, rfl, rfl, rfl, rfl⟩ := H
   go_enter Try.func23, Try.ntmps23
   go_wp2_with (first | ((with_reducible refine gate_dst (N := 9) rfl ?_); refine box_event ?hg (N := 9) ?hd (cs := F5) (t := 27) ?hr ?_; (case hd => rfl); (case hg => rfl); (case hr => first | (go_simp; done) | (go_simp; rfl)); intro gb525 hg w25 hbox hb; have n0_ := Aside0.mk (below_step (bl0 HB.out) hb); have n1_ := Aside0.mk (hbox); have n2_ := Aside0.mk ((by rw [hg]; exact (below_size (bl0 HB.out)) : w.heap.size ≤ gb525)); have n3_ := n2_; clear HB; have HB := n0_; have BK525 := n1_; have GW525 := n2_; have GE525 := n3_; clear n0_ n1_ n2_ n3_; clear hb hbox hg) | ((with_reducible refine gate_dst (N := 19) rfl ?_); refine Kd.R_lit (Kd.int .u32) _ 22 ?hg (N := 19) ?hd (xs := ([a2, a3] : List Int)) (inner := [.int .u32 a2, .int .u32 a3]) (ok := fun _ => True) (okp := fun _ => True) ?hr ?hp (fun _ hk => hk) trivial (Below.refl _ _) (Nat.le_refl _) (by simp) ?_; (case hd => rfl); (case hg => rfl); (case hr => first | (go_simp; done) | (go_simp; rfl)); (case hp => exact (Reps.one (show Kd.M (Kd.int .u32) _ _ _ a2 [.int .u32 a2] from rfl) (Reps.one (show Kd.M (Kd.int .u32) _ _ _ a3 [.int .u32 a3] from rfl) (Reps.none _ _)))); intro v527 w26 ho27 hb hg_ hnew_; clear hg_ hnew_; (first | rw [← Ny526.out] at ho27 | (simp only [Int.reduceToNat] at ho27; rw [← Ny526.out] at ho27)); have n0_ := Aside0.mk (Kd.R_lower ho27 (below_size (bl1 HB.out GE525.out))); have n1_ := Aside0.mk (blk_below (g := gb525) (o := .cells #[.bool false, .bool false, .bool false, .bool false, .bool false] 27 (0, 0)) (bv BK525.out) hb); have n2_ := Aside0.mk (below_step (bl1 HB.out GE525.out) hb); clear BK525; clear HB; have HO528 := n0_; have BK525 := n1_; have HB := n2_; clear n0_ n1_ n2_; clear hb ho27; obtain ⟨Ao28, co28, eo28⟩ := Kd.R_slice HO528.out; subst eo28) | ((with_reducible refine gate_callee (f := 31) rfl ?_); refine goesL_ (some 20) rfl rfl Try.func31 (by kernel_rfl) rfl #[.int .i64 a0, .slice Ao28 y526.length co28] rfl gl ?_; (with_reducible refine (sum_Nans.calls k a0 _ _ y526 t529 t530 t531 t532 t533 t534 false _ ?side1 ?side2 A5.out).mono ?_); (case side1 => repeat (first | exact (Kd.R_reads' HO528.out).2.2 | (with_reducible refine Kd.C_alloc ?_ _) | (with_reducible refine Kd.C_drewN ?_ _) | (with_reducible refine Kd.C_drew ?_))); (case side2 => exact (Kd.R_reads' HO528.out).2.1); rintro e w29 ⟨rfl, hb⟩; refine ⟨_, rfl, ?_⟩; have n0_ := Aside0.mk (Kd.R_below (by (with_reducible repeat (first | apply Kd.R_alloc | apply Kd.R_drewN | apply Kd.R_drew)); exact HO528.out) hb); have n1_ := Aside0.mk (blk_below (g := gb525) (o := .cells #[.bool false, .bool false, .bool false, .bool false, .bool false] 27 (0, 0)) (bv BK525.out) hb); have n2_ := Aside0.mk (below_step (bl1 HB.out GE525.out) hb); clear HO528; clear BK525; clear HB; have HO528 := n0_; have BK525 := n1_; have HB := n2_; clear n0_ n1_ n2_) | ((with_reducible refine gate_dst (N := 11) rfl ?_); refine box_event ?hg (N := 11) ?hd (cs := F5) (t := 27) ?hr ?_; (case hd => rfl); (case hg => rfl); (case hr => first | (go_simp; done) | (go_simp; rfl)); intro gb536 hg w30 hbox hb; have n0_ := Aside0.mk (Kd.R_below (by (with_reducible repeat (first | apply Kd.R_alloc | apply Kd.R_drewN | apply Kd.R_drew)); exact HO528.out) hb); have n1_ := Aside0.mk (blk_below (g := gb525) (o := .cells #[.bool false, .bool false, .bool false, .bool false, .bool false] 27 (0, 0)) (bv BK525.out) hb); have n2_ := Aside0.mk (below_step (bl1 HB.out GE525.out) hb); have n3_ := Aside0.mk (hbox); have n4_ := Aside0.mk ((by rw [hg]; exact (below_size (bl1 HB.out GE525.out)) : w.heap.size ≤ gb536)); have n5_ := n4_; have n6_ := Aside0.mk ((by rw [hg]; exact Nat.ne_of_lt (blk_lt (g := gb525) (o := .cells F5 27 (0, 0)) (bv BK525.out)) : gb525 ≠ gb536)); have n7_ := Aside0.mk (Ne.symm n6_.out); clear HO528; clear BK525; clear HB; have HO528 := n0_; have BK525 := n1_; have HB := n2_; have BK536 := n3_; have GW536 := n4_; have GE536 := n5_; have NB525_536 := n6_; have NB536_525 := n7_; clear n0_ n1_ n2_ n3_ n4_ n5_ n6_ n7_; clear hb hbox hg; have hnb31 := NB536_525.out; have hnc31 := NB525_536.out; obtain ⟨hcz32_0, hcz32_1, hcz32_2, hcz32_3, hcz32_4⟩ := bc5 BK536.out; obtain ⟨hfz32_0, hfz32_1, hfz32_2, hfz32_3, hfz32_4⟩ := bf5 BK536.out) | ((with_reducible refine gate_store (t := 27) (p := 11) rfl ?_); refine store_event (t := 27) (p := 11) (v := ?vo_w33) (w1 := (((((w30.setCell ⟨gb536, 0, none⟩ (.bool t530)).setCell ⟨gb536, 1, none⟩ (.bool t531)).setCell ⟨gb536, 2, none⟩ (.bool t532)).setCell ⟨gb536, 3, none⟩ (.bool t533)).setCell ⟨gb536, 4, none⟩ (.bool t534))) ?hg ?ho ?hn ?hr ?_; (case ho => rfl); (case hg => rfl); (case hn => rfl); (case hr => first | (go_simp; done) | (go_simp; rfl)); intro w33 hw; have n0_ : Aside0 (Kd.R (Kd.int .u32) 22 w33 w.heap.size (fun _ => True) (.slice Ao28 y526.length co28) y526) := ⟨(by rw [hw]; exact (by (with_reducible repeat (first | apply Kd.R_alloc | apply Kd.R_drewN | apply Kd.R_drew)); exact Kd.R_mono (Kd.R_far (p := ⟨gb536, 4, none⟩) (Kd.R_far (p := ⟨gb536, 3, none⟩) (Kd.R_far (p := ⟨gb536, 2, none⟩) (Kd.R_far (p := ⟨gb536, 1, none⟩) (Kd.R_far (p := ⟨gb536, 0, none⟩) (Kd.R_types HO528.out BK536.out (by decide)) (fun _ hk => hk.2) (.bool t530)) (fun _ hk => hk.2) (.bool t531)) (fun _ hk => hk.2) (.bool t532)) (fun _ hk => hk.2) (.bool t533)) (fun _ hk => hk.2) (.bool t534)) (fun _ hk => trivial)))⟩; have n1_ : Aside0 (w33.heap[gb525]? = some (.cells #[.bool false, .bool false, .bool false, .bool false, .bool false] 27 (0, 0))) := ⟨(by rw [hw]; exact (by (with_reducible repeat first | apply bd | apply be | apply ba); refine blk_far ?_ NB525_536.out _; (with_reducible repeat first | apply bd | apply be | apply ba); refine blk_far ?_ NB525_536.out _; (with_reducible repeat first | apply bd | apply be | apply ba); refine blk_far ?_ NB525_536.out _; (with_reducible repeat first | apply bd | apply be | apply ba); refine blk_far ?_ NB525_536.out _; (with_reducible repeat first | apply bd | apply be | apply ba); refine blk_far ?_ NB525_536.out _; (with_reducible repeat first | apply bd | apply be | apply ba); exact BK525.out))⟩; have n2_ : Aside0 (w33.heap[gb536]? = some (.cells #[.bool t530, .bool t531, .bool t532, .bool t533, .bool t534] 27 (0, 0))) := ⟨(by rw [hw]; exact (by (with_reducible repeat first | apply bd | apply be | apply ba); refine blk_put (cs := #[.bool t530, .bool t531, .bool t532, .bool t533, .bool false]) ?_ 4 _ rfl; (with_reducible repeat first | apply bd | apply be | apply ba); refine blk_put (cs := #[.bool t530, .bool t531, .bool t532, .bool false, .bool false]) ?_ 3 _ rfl; (with_reducible repeat first | apply bd | apply be | apply ba); refine blk_put (cs := #[.bool t530, .bool t531, .bool false, .bool false, .bool false]) ?_ 2 _ rfl; (with_reducible repeat first | apply bd | apply be | apply ba); refine blk_put (cs := #[.bool t530, .bool false, .bool false, .bool false, .bool false]) ?_ 1 _ rfl; (with_reducible repeat first | apply bd | apply be | apply ba); refine blk_put (cs := F5) ?_ 0 _ rfl; (with_reducible repeat first | apply bd | apply be | apply ba); exact BK536.out))⟩; have n3_ : Aside0 (Below w.heap.size w w33) := ⟨(by rw [hw]; exact (bl2 HB.out GE525.out GE536.out))⟩; clear hw; clear HO528; clear BK525; clear BK536; clear HB; have HO528 := n0_; have BK525 := n1_; have BK536 := n2_; have HB := n3_; clear n0_ n1_ n2_ n3_) | ((with_reducible refine gate_callee (f := 47) rfl ?_); refine goesL_ (some 30) rfl rfl Try.func47 (by kernel_rfl) rfl #[.int .i64 a0, .int .u32 a2, .int .u32 a3] rfl gl ?_; (with_reducible refine (prod_torn.calls k a0 a2 a3 true _ A22.out).mono ?_); rintro e w' ⟨rfl, ⟨nd, rfl⟩⟩; refine ⟨_, rfl, ?_⟩; (try (rw [drewN_self w33]; generalize hq_ : World.drewN w33 _ = w33; have n0_ : Aside0 (Kd.R (Kd.int .u32) 22 w33 w.heap.size (fun _ => True) (.slice Ao28 y526.length co28) y526) := ⟨by rw [← hq_]; exact (by (with_reducible repeat (first | apply Kd.R_alloc | apply Kd.R_drewN | apply Kd.R_drew)); exact HO528.out)⟩; have n1_ : Aside0 (w33.heap[gb525]? = some (.cells #[.bool false, .bool false, .bool false, .bool false, .bool false] 27 (0, 0))) := ⟨by rw [← hq_]; exact (bv BK525.out)⟩; have n2_ : Aside0 (w33.heap[gb536]? = some (.cells #[.bool t530, .bool t531, .bool t532, .bool t533, .bool t534] 27 (0, 0))) := ⟨by rw [← hq_]; exact (bv BK536.out)⟩; have n3_ : Aside0 (Below w.heap.size w w33) := ⟨by rw [← hq_]; exact (bl2 HB.out GE525.out GE536.out)⟩; clear HO528 BK525 BK536 HB hq_; have HO528 := n0_; have BK525 := n1_; have BK536 := n2_; have HB := n3_; clear n0_ n1_ n2_ n3_))) | ((with_reducible refine gate_callee (f := 48) rfl ?_); refine goesL_ (some 32) rfl rfl Try.func48 (by kernel_rfl) rfl #[.int .i64 a0] rfl gl ?_; (with_reducible refine (sum_Bad.calls a0 t538 t539 t540 t541 t542 t543 _ A24.out).mono ?_); rintro e w34 ⟨rfl, hb⟩; refine ⟨_, rfl, ?_⟩; have n0_ := Aside0.mk (Kd.R_below (by (with_reducible repeat (first | apply Kd.R_alloc | apply Kd.R_drewN | apply Kd.R_drew)); exact HO528.out) hb); have n1_ := Aside0.mk (blk_below (g := gb525) (o := .cells #[.bool false, .bool false, .bool false, .bool false, .bool false] 27 (0, 0)) (bv BK525.out) hb); have n2_ := Aside0.mk (blk_below (g := gb536) (o := .cells #[.bool t530, .bool t531, .bool t532, .bool t533, .bool t534] 27 (0, 0)) (bv BK536.out) hb); have n3_ := Aside0.mk (below_step (bl2 HB.out GE525.out GE536.out) hb); clear HO528; clear BK525; clear BK536; clear HB; have HO528 := n0_; have BK525 := n1_; have BK536 := n2_; have HB := n3_; clear n0_ n1_ n2_ n3_; obtain ⟨hcz35_0, hcz35_1, hcz35_2, hcz35_3, hcz35_4⟩ := bc5 BK525.out; obtain ⟨hfz35_0, hfz35_1, hfz35_2, hfz35_3, hfz35_4⟩ := bf5 BK525.out))
   refine bodyPost_ret (results_tc rfl _ _ gb525 27 #[.bool t539, .bool t540, .bool t541, .bool t542, .bool t543] (0, 0) _ rfl (by (with_reducible repeat first | apply bd | apply be | apply ba); refine blk_put (cs := #[.bool t539, .bool t540, .bool t541, .bool t542, .bool false]) ?_ 4 _ rfl; (with_reducible repeat first | apply bd | apply be | apply ba); refine blk_put (cs := #[.bool t539, .bool t540, .bool t541, .bool false, .bool false]) ?_ 3 _ rfl; (with_reducible repeat first | apply bd | apply be | apply ba); refine blk_put (cs := #[.bool t539, .bool t540, .bool false, .bool false, .bool false]) ?_ 2 _ rfl; (with_reducible repeat first | apply bd | apply be | apply ba); refine blk_put (cs := #[.bool t539, .bool false, .bool false, .bool false, .bool false]) ?_ 1 _ rfl; (with_reducible repeat first | apply bd | apply be | apply ba); refine blk_put (cs := F5) ?_ 0 _ rfl; (with_reducible repeat first | apply bd | apply be | apply ba); exact BK525.out) Try.underlying27 rfl (by kernel_rfl)) rfl ?_
   exact ⟨by first | rfl | (simp [errW_none, errW_some] <;> rfl) | (simp [*, errW_none, errW_some] <;> rfl), bl2 HB.out GE525.out GE536.out⟩
  ·replace c23 := Bool.eq_false_iff.mpr c23
   subst c23
   have H1 : ((format_Neg.f a0 a2).bind fun t544 => ((format_Neg.f a0 a3).bind fun t545 => ((format_IsInf.f k a0 a2).bind fun t546 => (if t546 = true then (prod_Mul.j0 k a0 a1 a2 a3 (t544 != t545) true) else ((format_IsInf.f k a0 a3).bind fun t547 => (prod_Mul.j0 k a0 a1 a2 a3 (t544 != t545) t547)))))) = some (r1, r2, r3, r4, r5, r6) := by rw [if_neg (show ¬ (false = true) by decide)] at H; exact H
   clear H
   have H := H1
   clear H1
   replace H := Option.bind_eq_some_iff.mp H
   obtain ⟨t544, A360, H⟩ := H
   replace H : ((format_Neg.f a0 a3).bind fun t545 => ((format_IsInf.f k a0 a2).bind fun t546 => (if t546 = true then (prod_Mul.j0 k a0 a1 a2 a3 (t544 != t545) true) else ((format_IsInf.f k a0 a3).bind fun t547 => (prod_Mul.j0 k a0 a1 a2 a3 (t544 != t545) t547))))) = some (r1, r2, r3, r4, r5, r6) := H
   have A36 := Aside0.mk A360
   clear A360
   replace H := Option.bind_eq_some_iff.mp H
   obtain ⟨t545, A370, H⟩ := H
   replace H : ((format_IsInf.f k a0 a2).bind fun t546 => (if t546 = true then (prod_Mul.j0 k a0 a1 a2 a3 (t544 != t545) true) else ((format_IsInf.f k a0 a3).bind fun t547 => (prod_Mul.j0 k a0 a1 a2 a3 (t544 != t545) t547)))) = some (r1, r2, r3, r4, r5, r6) := H
   have A37 := Aside0.mk A370
   clear A370
   have HC38 := Aside0.mk H
   clear H
   go_enter Try.func23, Try.ntmps23
   go_upto_region 7 with (first | ((with_reducible refine gate_dst (N := 9) rfl ?_); refine box_event ?hg (N := 9) ?hd (cs := F5) (t := 27) ?hr ?_; (case hd => rfl); (case hg => rfl); (case hr => first | (go_simp; done) | (go_simp; rfl)); intro gb525 hg w39 hbox hb; have n0_ := Aside0.mk (below_step (bl0 HB.out) hb); have n1_ := Aside0.mk (hbox); have n2_ := Aside0.mk ((by rw [hg]; exact (below_size (bl0 HB.out)) : w.heap.size ≤ gb525)); have n3_ := n2_; clear HB; have HB := n0_; have BK525 := n1_; have GW525 := n2_; have GE525 := n3_; clear n0_ n1_ n2_ n3_; clear hb hbox hg) | ((with_reducible refine gate_dst (N := 19) rfl ?_); refine Kd.R_lit (Kd.int .u32) _ 22 ?hg (N := 19) ?hd (xs := ([a2, a3] : List Int)) (inner := [.int .u32 a2, .int .u32 a3]) (ok := fun _ => True) (okp := fun _ => True) ?hr ?hp (fun _ hk => hk) trivial (Below.refl _ _) (Nat.le_refl _) (by simp) ?_; (case hd => rfl); (case hg => rfl); (case hr => first | (go_simp; done) | (go_simp; rfl)); (case hp => exact (Reps.one (show Kd.M (Kd.int .u32) _ _ _ a2 [.int .u32 a2] from rfl) (Reps.one (show Kd.M (Kd.int .u32) _ _ _ a3 [.int .u32 a3] from rfl) (Reps.none _ _)))); intro v527 w40 ho41 hb hg_ hnew_; clear hg_ hnew_; (first | rw [← Ny526.out] at ho41 | (simp only [Int.reduceToNat] at ho41; rw [← Ny526.out] at ho41)); have n0_ := Aside0.mk (Kd.R_lower ho41 (below_size (bl1 HB.out GE525.out))); have n1_ := Aside0.mk (blk_below (g := gb525) (o := .cells #[.bool false, .bool false, .bool false, .bool false, .bool false] 27 (0, 0)) (bv BK525.out) hb); have n2_ := Aside0.mk (below_step (bl1 HB.out GE525.out) hb); clear BK525; clear HB; have HO528 := n0_; have BK525 := n1_; have HB := n2_; clear n0_ n1_ n2_; clear hb ho41; obtain ⟨Ao42, co42, eo42⟩ := Kd.R_slice HO528.out; subst eo42) | ((with_reducible refine gate_callee (f := 31) rfl ?_); refine goesL_ (some 20) rfl rfl Try.func31 (by kernel_rfl) rfl #[.int .i64 a0, .slice Ao42 y526.length co42] rfl gl ?_; (with_reducible refine (sum_Nans.calls k a0 _ _ y526 t529 t530 t531 t532 t533 t534 false _ ?side1 ?side2 A5.out).mono ?_); (case side1 => repeat (first | exact (Kd.R_reads' HO528.out).2.2 | (with_reducible refine Kd.C_alloc ?_ _) | (with_reducible refine Kd.C_drewN ?_ _) | (with_reducible refine Kd.C_drew ?_))); (case side2 => exact (Kd.R_reads' HO528.out).2.1); rintro e w43 ⟨rfl, hb⟩; refine ⟨_, rfl, ?_⟩; have n0_ := Aside0.mk (Kd.R_below (by (with_reducible repeat (first | apply Kd.R_alloc | apply Kd.R_drewN | apply Kd.R_drew)); exact HO528.out) hb); have n1_ := Aside0.mk (blk_below (g := gb525) (o := .cells #[.bool false, .bool false, .bool false, .bool false, .bool false] 27 (0, 0)) (bv BK525.out) hb); have n2_ := Aside0.mk (below_step (bl1 HB.out GE525.out) hb); clear HO528; clear BK525; clear HB; have HO528 := n0_; have BK525 := n1_; have HB := n2_; clear n0_ n1_ n2_) | ((with_reducible refine gate_dst (N := 11) rfl ?_); refine box_event ?hg (N := 11) ?hd (cs := F5) (t := 27) ?hr ?_; (case hd => rfl); (case hg => rfl); (case hr => first | (go_simp; done) | (go_simp; rfl)); intro gb536 hg w44 hbox hb; have n0_ := Aside0.mk (Kd.R_below (by (with_reducible repeat (first | apply Kd.R_alloc | apply Kd.R_drewN | apply Kd.R_drew)); exact HO528.out) hb); have n1_ := Aside0.mk (blk_below (g := gb525) (o := .cells #[.bool false, .bool false, .bool false, .bool false, .bool false] 27 (0, 0)) (bv BK525.out) hb); have n2_ := Aside0.mk (below_step (bl1 HB.out GE525.out) hb); have n3_ := Aside0.mk (hbox); have n4_ := Aside0.mk ((by rw [hg]; exact (below_size (bl1 HB.out GE525.out)) : w.heap.size ≤ gb536)); have n5_ := n4_; have n6_ := Aside0.mk ((by rw [hg]; exact Nat.ne_of_lt (blk_lt (g := gb525) (o := .cells F5 27 (0, 0)) (bv BK525.out)) : gb525 ≠ gb536)); have n7_ := Aside0.mk (Ne.symm n6_.out); clear HO528; clear BK525; clear HB; have HO528 := n0_; have BK525 := n1_; have HB := n2_; have BK536 := n3_; have GW536 := n4_; have GE536 := n5_; have NB525_536 := n6_; have NB536_525 := n7_; clear n0_ n1_ n2_ n3_ n4_ n5_ n6_ n7_; clear hb hbox hg; have hnb45 := NB536_525.out; have hnc45 := NB525_536.out; obtain ⟨hcz46_0, hcz46_1, hcz46_2, hcz46_3, hcz46_4⟩ := bc5 BK536.out; obtain ⟨hfz46_0, hfz46_1, hfz46_2, hfz46_3, hfz46_4⟩ := bf5 BK536.out) | ((with_reducible refine gate_store (t := 27) (p := 11) rfl ?_); refine store_event (t := 27) (p := 11) (v := ?vo_w47) (w1 := (((((w44.setCell ⟨gb536, 0, none⟩ (.bool t530)).setCell ⟨gb536, 1, none⟩ (.bool t531)).setCell ⟨gb536, 2, none⟩ (.bool t532)).setCell ⟨gb536, 3, none⟩ (.bool t533)).setCell ⟨gb536, 4, none⟩ (.bool t534))) ?hg ?ho ?hn ?hr ?_; (case ho => rfl); (case hg => rfl); (case hn => rfl); (case hr => first | (go_simp; done) | (go_simp; rfl)); intro w47 hw; have n0_ : Aside0 (Kd.R (Kd.int .u32) 22 w47 w.heap.size (fun _ => True) (.slice Ao42 y526.length co42) y526) := ⟨(by rw [hw]; exact (by (with_reducible repeat (first | apply Kd.R_alloc | apply Kd.R_drewN | apply Kd.R_drew)); exact Kd.R_mono (Kd.R_far (p := ⟨gb536, 4, none⟩) (Kd.R_far (p := ⟨gb536, 3, none⟩) (Kd.R_far (p := ⟨gb536, 2, none⟩) (Kd.R_far (p := ⟨gb536, 1, none⟩) (Kd.R_far (p := ⟨gb536, 0, none⟩) (Kd.R_types HO528.out BK536.out (by decide)) (fun _ hk => hk.2) (.bool t530)) (fun _ hk => hk.2) (.bool t531)) (fun _ hk => hk.2) (.bool t532)) (fun _ hk => hk.2) (.bool t533)) (fun _ hk => hk.2) (.bool t534)) (fun _ hk => trivial)))⟩; have n1_ : Aside0 (w47.heap[gb525]? = some (.cells #[.bool false, .bool false, .bool false, .bool false, .bool false] 27 (0, 0))) := ⟨(by rw [hw]; exact (by (with_reducible repeat first | apply bd | apply be | apply ba); refine blk_far ?_ NB525_536.out _; (with_reducible repeat first | apply bd | apply be | apply ba); refine blk_far ?_ NB525_536.out _; (with_reducible repeat first | apply bd | apply be | apply ba); refine blk_far ?_ NB525_536.out _; (with_reducible repeat first | apply bd | apply be | apply ba); refine blk_far ?_ NB525_536.out _; (with_reducible repeat first | apply bd | apply be | apply ba); refine blk_far ?_ NB525_536.out _; (with_reducible repeat first | apply bd | apply be | apply ba); exact BK525.out))⟩; have n2_ : Aside0 (w47.heap[gb536]? = some (.cells #[.bool t530, .bool t531, .bool t532, .bool t533, .bool t534] 27 (0, 0))) := ⟨(by rw [hw]; exact (by (with_reducible repeat first | apply bd | apply be | apply ba); refine blk_put (cs := #[.bool t530, .bool t531, .bool t532, .bool t533, .bool false]) ?_ 4 _ rfl; (with_reducible repeat first | apply bd | apply be | apply ba); refine blk_put (cs := #[.bool t530, .bool t531, .bool t532, .bool false, .bool false]) ?_ 3 _ rfl; (with_reducible repeat first | apply bd | apply be | apply ba); refine blk_put (cs := #[.bool t530, .bool t531, .bool false, .bool false, .bool false]) ?_ 2 _ rfl; (with_reducible repeat first | apply bd | apply be | apply ba); refine blk_put (cs := #[.bool t530, .bool false, .bool false, .bool false, .bool false]) ?_ 1 _ rfl; (with_reducible repeat first | apply bd | apply be | apply ba); refine blk_put (cs := F5) ?_ 0 _ rfl; (with_reducible repeat first | apply bd | apply be | apply ba); exact BK536.out))⟩; have n3_ : Aside0 (Below w.heap.size w w47) := ⟨(by rw [hw]; exact (bl2 HB.out GE525.out GE536.out))⟩; clear hw; clear HO528; clear BK525; clear BK536; clear HB; have HO528 := n0_; have BK525 := n1_; have BK536 := n2_; have HB := n3_; clear n0_ n1_ n2_ n3_) | ((with_reducible refine gate_callee (f := 47) rfl ?_); refine goesL_ (some 30) rfl rfl Try.func47 (by kernel_rfl) rfl #[.int .i64 a0, .int .u32 a2, .int .u32 a3] rfl gl ?_; (with_reducible refine (prod_torn.calls k a0 a2 a3 false _ A22.out).mono ?_); rintro e w' ⟨rfl, ⟨nd, rfl⟩⟩; refine ⟨_, rfl, ?_⟩) | ((with_reducible refine gate_callee (f := 34) rfl ?_); refine goesL_ (some 37) rfl rfl Try.func34 (by kernel_rfl) rfl #[.int .i64 a0, .int .u32 a2] rfl gl ?_; (with_reducible refine (format_Neg.calls a0 a2 t544 _ A36.out).mono ?_); rintro e w' ⟨rfl, ⟨nd, rfl⟩⟩; refine ⟨_, rfl, ?_⟩) | ((with_reducible refine gate_callee (f := 34) rfl ?_); refine goesL_ (some 40) rfl rfl Try.func34 (by kernel_rfl) rfl #[.int .i64 a0, .int .u32 a3] rfl gl ?_; (with_reducible refine (format_Neg.calls a0 a3 t545 _ A37.out).mono ?_); rintro e w' ⟨rfl, ⟨nd, rfl⟩⟩; refine ⟨_, rfl, ?_⟩))
   (try simp only [Act.put, sb, sz, ss])
   go_cut [49] (fun v49 wc => ∃ (kq : Nat) (x49_37 : Bool), v49 = .bool x49_37 ∧ Aside0 (prod_Mul.j0 kq a0 a1 a2 a3 (t544 != t545) x49_37 = some (r1, r2, r3, r4, r5, r6)) ∧ Aside0 (kq ≤ k) ∧ Aside0 (wc.heap[gb525]? = some (.cells #[.bool false, .bool false, .bool false, .bool false, .bool false] 27 (0, 0))) ∧ Aside0 (wc.heap[gb536]? = some (.cells #[.bool t530, .bool t531, .bool t532, .bool t533, .bool t534] 27 (0, 0))) ∧ Aside0 (Below w.heap.size w wc))
   case first =>
    have H := HC38.out
    clear HC38
    replace H := Option.bind_eq_some_iff.mp H
    obtain ⟨t546, A480, H⟩ := H
    replace H : (if t546 = true then (prod_Mul.j0 k a0 a1 a2 a3 (t544 != t545) true) else ((format_IsInf.f k a0 a3).bind fun t547 => (prod_Mul.j0 k a0 a1 a2 a3 (t544 != t545) t547))) = some (r1, r2, r3, r4, r5, r6) := H
    have A48 := Aside0.mk A480
    clear A480
    by_cases c49 : t546 = true
    ·subst c49
     have H1 : (prod_Mul.j0 k a0 a1 a2 a3 (t544 != t545) true) = some (r1, r2, r3, r4, r5, r6) := by rw [if_pos rfl] at H; exact H
     clear H
     have H := H1
     clear H1
     have H' := Aside0.mk H
     clear H
     go_wp2_with (first | ((with_reducible refine gate_callee (f := 32) rfl ?_); refine goesL_ (some 44) rfl rfl Try.func32 (by kernel_rfl) rfl #[.int .i64 a0, .int .u32 a2] rfl gl ?_; (with_reducible refine (format_IsInf.calls k a0 a2 true _ A48.out).mono ?_); rintro e w' ⟨rfl, ⟨nd, rfl⟩⟩; refine ⟨_, rfl, ?_⟩))
     go_meet
     case rel => exact ⟨_, (true), (by first | rfl | (simp; done) | (simp [*]; done) | (congr 1; (try unfold wrap64); omega) | (congr 1; rw [IntKind.wrap_u64]; omega)), H', ⟨by first | omega | exact Nat.le_refl _⟩, ⟨by (with_reducible repeat first | apply bd | apply be | apply ba); exact BK525.out⟩, ⟨by (with_reducible repeat first | apply bd | apply be | apply ba); exact BK536.out⟩, ⟨bl2 HB.out GE525.out GE536.out⟩⟩
    ·replace c49 := Bool.eq_false_iff.mpr c49
     subst c49
     have H1 : ((format_IsInf.f k a0 a3).bind fun t547 => (prod_Mul.j0 k a0 a1 a2 a3 (t544 != t545) t547)) = some (r1, r2, r3, r4, r5, r6) := by rw [if_neg (show ¬ (false = true) by decide)] at H; exact H
     clear H
     have H := H1
     clear H1
     replace H := Option.bind_eq_some_iff.mp H
     obtain ⟨t547, A500, H⟩ := H
     replace H : (prod_Mul.j0 k a0 a1 a2 a3 (t544 != t545) t547) = some (r1, r2, r3, r4, r5, r6) := H
     have A50 := Aside0.mk A500
     clear A500
     have H' := Aside0.mk H
     clear H
     go_wp2_with (first | ((with_reducible refine gate_callee (f := 32) rfl ?_); refine goesL_ (some 44) rfl rfl Try.func32 (by kernel_rfl) rfl #[.int .i64 a0, .int .u32 a2] rfl gl ?_; (with_reducible refine (format_IsInf.calls k a0 a2 false _ A48.out).mono ?_); rintro e w' ⟨rfl, ⟨nd, rfl⟩⟩; refine ⟨_, rfl, ?_⟩) | (go_at_call 32; (with_reducible refine (format_IsInf.calls k a0 a3 t547 _ A50.out).mono ?_); rintro e w' ⟨rfl, ⟨nd, rfl⟩⟩))
     go_meet
     case rel => exact ⟨_, (t547), (by first | rfl | (simp; done) | (simp [*]; done) | (congr 1; (try unfold wrap64); omega) | (congr 1; rw [IntKind.wrap_u64]; omega)), H', ⟨by first | omega | exact Nat.le_refl _⟩, ⟨by (with_reducible repeat first | apply bd | apply be | apply ba); exact BK525.out⟩, ⟨by (with_reducible repeat first | apply bd | apply be | apply ba); exact BK536.out⟩, ⟨bl2 HB.out GE525.out GE536.out⟩⟩
   case rest =>
    clear HC38
    try clear c1 c2 p2 c3 c4 c6 p6 c13 c23 c31 c32 c34 c45 c47 c48 c49 hcz14_0 hcz14_1 hcz14_2 hcz14_3 hcz14_4 hcz32_0 hcz32_1 hcz32_2 hcz32_3 hcz32_4 hcz35_0 hcz35_1 hcz35_2 hcz35_3 hcz35_4 hcz46_0 hcz46_1 hcz46_2 hcz46_3 hcz46_4 hfz14_0 hfz14_1 hfz14_2 hfz14_3 hfz14_4 hfz32_0 hfz32_1 hfz32_2 hfz32_3 hfz32_4 hfz35_0 hfz35_1 hfz35_2 hfz35_3 hfz35_4 hfz46_0 hfz46_1 hfz46_2 hfz46_3 hfz46_4
    obtain ⟨kq, x49_37, rfl, HA, HJ37, BK525, BK536, HB⟩ := hcut
    cases kq with
    |zero => exact absurd HA.out (by simp [prod_Mul.j0])
    |succ kj37 =>
     have H := HA.out
     clear HA
     simp only [prod_Mul.j0] at H
     by_cases c51 : x49_37 = true
     ·subst c51
      have H1 : ((format_Inf.f a0 (t544 != t545)).bind fun t548 => (some (t548, false, false, false, false, false))) = some (r1, r2, r3, r4, r5, r6) := by rw [if_pos rfl] at H; exact H
      clear H
      have H := H1
      clear H1
      replace H := Option.bind_eq_some_iff.mp H
      obtain ⟨t548, A520, H⟩ := H
      replace H : (some (t548, false, false, false, false, false)) = some (r1, r2, r3, r4, r5, r6) := H
      have A52 := Aside0.mk A520
      clear A520
      simp only [Option.some.injEq, Prod.mk.injEq] at H
      obtain ⟨rfl, rfl, rfl, rfl, rfl, rfl⟩ := H
      go_wp2_with (first | ((with_reducible refine gate_callee (f := 49) rfl ?_); refine goesL_ (some 52) rfl rfl Try.func49 (by kernel_rfl) rfl #[.int .i64 a0, .bool (t544 != t545)] rfl gl ?_; (with_reducible refine (format_Inf.calls a0 (t544 != t545) t548 _ A52.out).mono ?_); rintro e w' ⟨rfl, ⟨nd, rfl⟩⟩; refine ⟨_, rfl, ?_⟩; (try (rw [drewN_self wc]; generalize hq_ : World.drewN wc _ = wc; have n0_ : Aside0 (wc.heap[gb525]? = some (.cells #[.bool false, .bool false, .bool false, .bool false, .bool false] 27 (0, 0))) := ⟨by rw [← hq_]; exact (bv BK525.out)⟩; have n1_ : Aside0 (wc.heap[gb536]? = some (.cells #[.bool t530, .bool t531, .bool t532, .bool t533, .bool t534] 27 (0, 0))) := ⟨by rw [← hq_]; exact (bv BK536.out)⟩; have n2_ : Aside0 (Below w.heap.size w wc) := ⟨by rw [← hq_]; exact (bl2 HB.out GE525.out GE536.out)⟩; clear BK525 BK536 HB hq_; have BK525 := n0_; have BK536 := n1_; have HB := n2_; clear n0_ n1_ n2_)); have hnb53 := NB525_536.out; have hnc53 := NB536_525.out; obtain ⟨hcz54_0, hcz54_1, hcz54_2, hcz54_3, hcz54_4⟩ := bc5 BK525.out; obtain ⟨hfz54_0, hfz54_1, hfz54_2, hfz54_3, hfz54_4⟩ := bf5 BK525.out))
      refine bodyPost_ret (results_tc rfl _ _ gb525 27 #[.bool false, .bool false, .bool false, .bool false, .bool false] (0, 0) _ rfl (by (with_reducible repeat first | apply bd | apply be | apply ba); refine blk_put (cs := F5) ?_ 4 _ rfl; (with_reducible repeat first | apply bd | apply be | apply ba); refine blk_put (cs := F5) ?_ 3 _ rfl; (with_reducible repeat first | apply bd | apply be | apply ba); refine blk_put (cs := F5) ?_ 2 _ rfl; (with_reducible repeat first | apply bd | apply be | apply ba); refine blk_put (cs := F5) ?_ 1 _ rfl; (with_reducible repeat first | apply bd | apply be | apply ba); refine blk_put (cs := F5) ?_ 0 _ rfl; (with_reducible repeat first | apply bd | apply be | apply ba); exact BK525.out) Try.underlying27 rfl (by kernel_rfl)) rfl ?_
      exact ⟨by first | rfl | (simp [errW_none, errW_some] <;> rfl) | (simp [*, errW_none, errW_some] <;> rfl), bl2 HB.out GE525.out GE536.out⟩
     ·replace c51 := Bool.eq_false_iff.mpr c51
      subst c51
      have H1 : ((prod_product.f a0 a2 a3).bind fun bt549 => ((round_Pack.f kj37 a0 a1 (t544 != t545) bt549.2.1 bt549.2.2.1 false).bind fun bt554 => (some (bt554.1, bt554.2.1, bt554.2.2.1, bt554.2.2.2.1, bt554.2.2.2.2.1, bt554.2.2.2.2.2)))) = some (r1, r2, r3, r4, r5, r6) := by rw [if_neg (show ¬ (false = true) by decide)] at H; exact H
      clear H
      have H := H1
      clear H1
      replace H := Option.bind_eq_some_iff.mp H
      obtain ⟨⟨t549, t550, t551, t552⟩, A550, H⟩ := H
      replace H : ((round_Pack.f kj37 a0 a1 (t544 != t545) t550 t551 false).bind fun bt554 => (some (bt554.1, bt554.2.1, bt554.2.2.1, bt554.2.2.2.1, bt554.2.2.2.2.1, bt554.2.2.2.2.2))) = some (r1, r2, r3, r4, r5, r6) := H
      have A55 := Aside0.mk A550
      clear A550
      replace H := Option.bind_eq_some_iff.mp H
      obtain ⟨⟨t554, t555, t556, t557, t558, t559⟩, A560, H⟩ := H
      replace H : (some (t554, t555, t556, t557, t558, t559)) = some (r1, r2, r3, r4, r5, r6) := H
      have A56 := Aside0.mk A560
      clear A560
      simp only [Option.some.injEq, Prod.mk.injEq] at H
      obtain ⟨rfl, rfl, rfl, rfl, rfl, rfl⟩ := H
      go_wp2_with (first | ((with_reducible refine gate_callee (f := 50) rfl ?_); refine goesL_ (some 57) rfl rfl Try.func50 (by kernel_rfl) rfl #[.int .i64 a0, .int .u32 a2, .int .u32 a3] rfl gl ?_; (with_reducible refine (prod_product.calls a0 a2 a3 t549 t550 t551 t552 _ A55.out).mono ?_); rintro e w57 ⟨rfl, hb⟩; refine ⟨_, rfl, ?_⟩; have n0_ := Aside0.mk (blk_below (g := gb525) (o := .cells #[.bool false, .bool false, .bool false, .bool false, .bool false] 27 (0, 0)) (bv BK525.out) hb); have n1_ := Aside0.mk (blk_below (g := gb536) (o := .cells #[.bool t530, .bool t531, .bool t532, .bool t533, .bool t534] 27 (0, 0)) (bv BK536.out) hb); have n2_ := Aside0.mk (below_step (bl2 HB.out GE525.out GE536.out) hb); clear BK525; clear BK536; clear HB; have BK525 := n0_; have BK536 := n1_; have HB := n2_; clear n0_ n1_ n2_) | ((with_reducible refine gate_dst (N := 14) rfl ?_); refine box_event ?hg (N := 14) ?hd (cs := #[.bool false, .int .i64 0, .int .u64 0, .bool false]) (t := 56) ?hr ?_; (case hd => rfl); (case hg => rfl); (case hr => first | (go_simp; done) | (go_simp; rfl)); intro gb553 hg w58 hbox hb; have n0_ := Aside0.mk (blk_below (g := gb525) (o := .cells #[.bool false, .bool false, .bool false, .bool false, .bool false] 27 (0, 0)) (bv BK525.out) hb); have n1_ := Aside0.mk (blk_below (g := gb536) (o := .cells #[.bool t530, .bool t531, .bool t532, .bool t533, .bool t534] 27 (0, 0)) (bv BK536.out) hb); have n2_ := Aside0.mk (below_step (bl2 HB.out GE525.out GE536.out) hb); have n3_ := Aside0.mk (hbox); have n4_ := Aside0.mk ((by rw [hg]; exact (below_size (bl2 HB.out GE525.out GE536.out)) : w.heap.size ≤ gb553)); have n5_ := n4_; have n6_ := Aside0.mk ((by rw [hg]; exact Nat.ne_of_lt (blk_lt (g := gb525) (o := .cells F5 27 (0, 0)) (bv BK525.out)) : gb525 ≠ gb553)); have n7_ := Aside0.mk (Ne.symm n6_.out); have n8_ := Aside0.mk ((by rw [hg]; exact Nat.ne_of_lt (blk_lt (g := gb536) (o := .cells #[.bool t530, .bool t531, .bool t532, .bool t533, .bool t534] 27 (0, 0)) (bv BK536.out)) : gb536 ≠ gb553)); have n9_ := Aside0.mk (Ne.symm n8_.out); clear BK525; clear BK536; clear HB; have BK525 := n0_; have BK536 := n1_; have HB := n2_; have BK553 := n3_; have GW553 := n4_; have GE553 := n5_; have NB525_553 := n6_; have NB553_525 := n7_; have NB536_553 := n8_; have NB553_536 := n9_; clear n0_ n1_ n2_ n3_ n4_ n5_ n6_ n7_ n8_ n9_; clear hb hbox hg; have hnb59 := NB553_525.out; have hnc59 := NB525_553.out; have hnb60 := NB553_536.out; have hnc60 := NB536_553.out; obtain ⟨hcz61_0, hcz61_1, hcz61_2, hcz61_3⟩ := bc4 BK553.out; obtain ⟨hfz61_0, hfz61_1, hfz61_2, hfz61_3⟩ := bf4 BK553.out) | ((with_reducible refine gate_callee (f := 38) rfl ?_); refine goesL_ (some 65) rfl rfl Try.func38 (by kernel_rfl) rfl #[.int .i64 a0, .int .i64 a1, .bool (t544 != t545), .int .i64 t550, .int .u64 t551, .bool false] rfl gl ?_; (with_reducible refine (round_Pack.calls kj37 a0 a1 (t544 != t545) t550 t551 false t554 t555 t556 t557 t558 t559 _ A56.out).mono ?_); rintro e w62 ⟨rfl, hb⟩; refine ⟨_, rfl, ?_⟩; have n0_ := Aside0.mk (blk_below (g := gb525) (o := .cells #[.bool false, .bool false, .bool false, .bool false, .bool false] 27 (0, 0)) (by (with_reducible repeat first | apply bd | apply be | apply ba); refine blk_far ?_ NB525_553.out _; (with_reducible repeat first | apply bd | apply be | apply ba); refine blk_far ?_ NB525_553.out _; (with_reducible repeat first | apply bd | apply be | apply ba); refine blk_far ?_ NB525_553.out _; (with_reducible repeat first | apply bd | apply be | apply ba); refine blk_far ?_ NB525_553.out _; (with_reducible repeat first | apply bd | apply be | apply ba); exact BK525.out) hb); have n1_ := Aside0.mk (blk_below (g := gb536) (o := .cells #[.bool t530, .bool t531, .bool t532, .bool t533, .bool t534] 27 (0, 0)) (by (with_reducible repeat first | apply bd | apply be | apply ba); refine blk_far ?_ NB536_553.out _; (with_reducible repeat first | apply bd | apply be | apply ba); refine blk_far ?_ NB536_553.out _; (with_reducible repeat first | apply bd | apply be | apply ba); refine blk_far ?_ NB536_553.out _; (with_reducible repeat first | apply bd | apply be | apply ba); refine blk_far ?_ NB536_553.out _; (with_reducible repeat first | apply bd | apply be | apply ba); exact BK536.out) hb); have n2_ := Aside0.mk (blk_below (g := gb553) (o := .cells #[.bool t549, .int .i64 t550, .int .u64 t551, .bool t552] 56 (0, 0)) (by (with_reducible repeat first | apply bd | apply be | apply ba); refine blk_put (cs := #[.bool t549, .int .i64 t550, .int .u64 t551, .bool false]) ?_ 3 _ rfl; (with_reducible repeat first | apply bd | apply be | apply ba); refine blk_put (cs := #[.bool t549, .int .i64 t550, .int .u64 0, .bool false]) ?_ 2 _ rfl; (with_reducible repeat first | apply bd | apply be | apply ba); refine blk_put (cs := #[.bool t549, .int .i64 0, .int .u64 0, .bool false]) ?_ 1 _ rfl; (with_reducible repeat first | apply bd | apply be | apply ba); refine blk_put (cs := #[.bool false, .int .i64 0, .int .u64 0, .bool false]) ?_ 0 _ rfl; (with_reducible repeat first | apply bd | apply be | apply ba); exact BK553.out) hb); have n3_ := Aside0.mk (below_step (bl3 HB.out GE525.out GE536.out GE553.out) hb); clear BK525; clear BK536; clear BK553; clear HB; have BK525 := n0_; have BK536 := n1_; have BK553 := n2_; have HB := n3_; clear n0_ n1_ n2_ n3_; have hnb63 := NB525_536.out; have hnc63 := NB536_525.out; obtain ⟨hcz64_0, hcz64_1, hcz64_2, hcz64_3, hcz64_4⟩ := bc5 BK525.out; obtain ⟨hfz64_0, hfz64_1, hfz64_2, hfz64_3, hfz64_4⟩ := bf5 BK525.out))
      refine bodyPost_ret (results_tc rfl _ _ gb525 27 #[.bool t555, .bool t556, .bool t557, .bool t558, .bool t559] (0, 0) _ rfl (by (with_reducible repeat first | apply bd | apply be | apply ba); refine blk_put (cs := #[.bool t555, .bool t556, .bool t557, .bool t558, .bool false]) ?_ 4 _ rfl; (with_reducible repeat first | apply bd | apply be | apply ba); refine blk_put (cs := #[.bool t555, .bool t556, .bool t557, .bool false, .bool false]) ?_ 3 _ rfl; (with_reducible repeat first | apply bd | apply be | apply ba); refine blk_put (cs := #[.bool t555, .bool t556, .bool false, .bool false, .bool false]) ?_ 2 _ rfl; (with_reducible repeat first | apply bd | apply be | apply ba); refine blk_put (cs := #[.bool t555, .bool false, .bool false, .bool false, .bool false]) ?_ 1 _ rfl; (with_reducible repeat first | apply bd | apply be | apply ba); refine blk_put (cs := F5) ?_ 0 _ rfl; (with_reducible repeat first | apply bd | apply be | apply ba); exact BK525.out) Try.underlying27 rfl (by kernel_rfl)) rfl ?_
      exact ⟨by first | rfl | (simp [errW_none, errW_some] <;> rfl) | (simp [*, errW_none, errW_some] <;> rfl), bl3 HB.out GE525.out GE536.out GE553.out⟩

end Go.Proofs.Ytlkjoibpfhjhcaa.P
