import Derived.Test.YtlkjoibpfhjhcaaQfeZ
import Derived.Test.YtlkjoibpfhjhcaaQfeM1
import Derived.Test.YtlkjoibpfhjhcaaQfePx7
import Derived.Test.YtlkjoibpfhjhcaaQfeM2
import Derived.Test.YtlkjoibpfhjhcaaQfePx12
import Derived.Test.YtlkjoibpfhjhcaaQfeM4
-- Printed by a program of this session's out of Lean's print of the translation; Lean checks it.
namespace Go.Proofs.Ytlkjoibpfhjhcaa.P
open Go.RowKit Go.Proofs.YtlkjoibpfhjhcaaW.PrintWords Go.Proofs.YtlkjoibpfhjhcaaW.PrintLast Go.Proofs.YtlkjoibpfhjhcaaW.PrintMore
attribute [local go_sem] max2_int min2_int max_two min_two max_three min_three max_four min_four   -- for this text's walks alone
set_option linter.unusedVariables false
set_option linter.unusedSimpArgs false

/-! ### prod_Fma: function 27 -/
mutual
def prod_Fma.j0 : Nat → Int → Int → Int → Int → Int → Bool → Bool → Bool → Option (Int × Bool × Bool × Bool × Bool × Bool)
 |0, _, _, _, _, _, _, _, _ => none
 |k + 1, x0, x1, x2, x3, x4, x16, x17, x18 => if x17 = true then (prod_Fma.j1 k x0 x1 x2 x3 x4 x16 x17 x18 true) else (prod_Fma.j1 k x0 x1 x2 x3 x4 x16 x17 x18 x18)
def prod_Fma.j1 : Nat → Int → Int → Int → Int → Int → Bool → Bool → Bool → Bool → Option (Int × Bool × Bool × Bool × Bool × Bool)
 |0, _, _, _, _, _, _, _, _, _ => none
 |k + 1, x0, x1, x2, x3, x4, x16, x17, x18, x71 => if x71 = true then ((format_Neg.f x0 x4).bind fun t585 => ((sum_Infinite.f k x0 x16 t585 x17 x18).bind fun bt586 => (some (bt586.1, bt586.2.1, bt586.2.2.1, bt586.2.2.2.1, bt586.2.2.2.2.1, bt586.2.2.2.2.2)))) else ((prod_product.f x0 x2 x3).bind fun bt592 => ((sum_Of.f x0 x4).bind fun bt596 => ((sum_Exact.f k bt592.1 bt592.2.1 bt592.2.2.1 bt592.2.2.2 bt596.1 bt596.2.1 bt596.2.2.1 bt596.2.2.2).bind fun bt602 => (if bt602.2.2.1 = 0 then (prod_Fma.j2 k x0 x1 x16 (!bt602.2.2.2) bt596.1 bt596.2.1 bt596.2.2.1 bt596.2.2.2 bt602.1 bt602.2.1 bt602.2.2.1 bt602.2.2.2) else (prod_Fma.j2 k x0 x1 x16 false bt596.1 bt596.2.1 bt596.2.2.1 bt596.2.2.2 bt602.1 bt602.2.1 bt602.2.2.1 bt602.2.2.2)))))
def prod_Fma.j2 : Nat → Int → Int → Bool → Bool → Bool → Int → Int → Bool → Bool → Int → Int → Bool → Option (Int × Bool × Bool × Bool × Bool × Bool)
 |0, _, _, _, _, _, _, _, _, _, _, _, _ => none
 |k + 1, x0, x1, x16, x99, x602000, x602001, x602002, x602003, x607000, x607001, x607002, x607003 => if x99 = true then ((sum_Nought.f x0 x1 x16 x602000).bind fun t607 => (some (t607, false, false, false, false, false))) else ((round_Pack.f k x0 x1 x607000 x607001 x607002 x607003).bind fun bt608 => (some (bt608.1, bt608.2.1, bt608.2.2.1, bt608.2.2.2.1, bt608.2.2.2.2.1, bt608.2.2.2.2.2)))
end
def prod_Fma.f (k : Nat) (a0 : Int) (a1 : Int) (a2 : Int) (a3 : Int) (a4 : Int) : Option (Int × Bool × Bool × Bool × Bool × Bool) := (prod_torn.f k a0 a2 a3).bind fun t561 => ((sum_Nans.f k a0 (([a2, a3, a4] : List Int))).bind fun bt565 => (if bt565.2.2.2.2.2.2 = true then (if bt565.2.1 = true then (some (bt565.1, true, bt565.2.2.1, bt565.2.2.2.1, bt565.2.2.2.2.1, bt565.2.2.2.2.2.1)) else (some (bt565.1, t561, bt565.2.2.1, bt565.2.2.2.1, bt565.2.2.2.2.1, bt565.2.2.2.2.2.1))) else (if t561 = true then ((sum_Bad.f a0).bind fun bt573 => (some (bt573.1, bt573.2.1, bt573.2.2.1, bt573.2.2.2.1, bt573.2.2.2.2.1, bt573.2.2.2.2.2))) else ((format_Neg.f a0 a2).bind fun t579 => ((format_Neg.f a0 a3).bind fun t580 => ((format_IsInf.f k a0 a2).bind fun t581 => (if t581 = true then ((format_IsInf.f k a0 a4).bind fun t582 => (prod_Fma.j0 k a0 a1 a2 a3 a4 (t579 != t580) true t582)) else ((format_IsInf.f k a0 a3).bind fun t583 => ((format_IsInf.f k a0 a4).bind fun t584 => (prod_Fma.j0 k a0 a1 a2 a3 a4 (t579 != t580) t583 t584))))))))))
theorem prod_Fma.mono_l : ∀ k, (∀ y0 y1 y2 y3 y4 y5 y6 y7, LeO (prod_Fma.j0 k y0 y1 y2 y3 y4 y5 y6 y7) (prod_Fma.j0 (k + 1) y0 y1 y2 y3 y4 y5 y6 y7)) ∧ (∀ y0 y1 y2 y3 y4 y5 y6 y7 y8, LeO (prod_Fma.j1 k y0 y1 y2 y3 y4 y5 y6 y7 y8) (prod_Fma.j1 (k + 1) y0 y1 y2 y3 y4 y5 y6 y7 y8)) ∧ (∀ y0 y1 y2 y3 y4 y5 y6 y7 y8 y9 y10 y11, LeO (prod_Fma.j2 k y0 y1 y2 y3 y4 y5 y6 y7 y8 y9 y10 y11) (prod_Fma.j2 (k + 1) y0 y1 y2 y3 y4 y5 y6 y7 y8 y9 y10 y11))
 |0 => ⟨fun _ _ _ _ _ _ _ _ r h => by simp [prod_Fma.j0] at h, fun _ _ _ _ _ _ _ _ _ r h => by simp [prod_Fma.j1] at h, fun _ _ _ _ _ _ _ _ _ _ _ _ r h => by simp [prod_Fma.j2] at h⟩
 |k + 1 => by
  obtain ⟨ih0, ih1, ih2⟩ := prod_Fma.mono_l k
  refine ⟨?_, ?_, ?_⟩
  ·intro y0 y1 y2 y3 y4 y5 y6 y7
   unfold prod_Fma.j0
   repeat' first
   |(with_reducible exact ih0 _ _ _ _ _ _ _ _)
   |(with_reducible exact ih1 _ _ _ _ _ _ _ _ _)
   |(with_reducible exact ih2 _ _ _ _ _ _ _ _ _ _ _ _)
   |(with_reducible exact format_IsInf.mono _ _ _)
   |(with_reducible exact prod_torn.mono _ _ _ _)
   |(with_reducible exact round_Pack.mono _ _ _ _ _ _ _)
   |(with_reducible exact sum_Exact.mono _ _ _ _ _ _ _ _ _)
   |(with_reducible exact sum_Infinite.mono _ _ _ _ _ _)
   |(with_reducible exact sum_Nans.mono _ _ _)
   |(with_reducible exact LeO.refl _)
   |(with_reducible exact LeO.none _)
   |(with_reducible refine LeO.ite ?_ ?_)
   |(with_reducible refine LeO.bind ?_ (fun _ => ?_))
   |exact ih0 _ _ _ _ _ _ _ _
   |exact ih1 _ _ _ _ _ _ _ _ _
   |exact ih2 _ _ _ _ _ _ _ _ _ _ _ _
   |exact format_IsInf.mono _ _ _
   |exact prod_torn.mono _ _ _ _
   |exact round_Pack.mono _ _ _ _ _ _ _
   |exact sum_Exact.mono _ _ _ _ _ _ _ _ _
   |exact sum_Infinite.mono _ _ _ _ _ _
   |exact sum_Nans.mono _ _ _
   |exact LeO.none _
   |refine LeO.ite ?_ ?_
   |refine LeO.bind ?_ (fun _ => ?_)
  ·intro y0 y1 y2 y3 y4 y5 y6 y7 y8
   unfold prod_Fma.j1
   repeat' first
   |(with_reducible exact ih0 _ _ _ _ _ _ _ _)
   |(with_reducible exact ih1 _ _ _ _ _ _ _ _ _)
   |(with_reducible exact ih2 _ _ _ _ _ _ _ _ _ _ _ _)
   |(with_reducible exact format_IsInf.mono _ _ _)
   |(with_reducible exact prod_torn.mono _ _ _ _)
   |(with_reducible exact round_Pack.mono _ _ _ _ _ _ _)
   |(with_reducible exact sum_Exact.mono _ _ _ _ _ _ _ _ _)
   |(with_reducible exact sum_Infinite.mono _ _ _ _ _ _)
   |(with_reducible exact sum_Nans.mono _ _ _)
   |(with_reducible exact LeO.refl _)
   |(with_reducible exact LeO.none _)
   |(with_reducible refine LeO.ite ?_ ?_)
   |(with_reducible refine LeO.bind ?_ (fun _ => ?_))
   |exact ih0 _ _ _ _ _ _ _ _
   |exact ih1 _ _ _ _ _ _ _ _ _
   |exact ih2 _ _ _ _ _ _ _ _ _ _ _ _
   |exact format_IsInf.mono _ _ _
   |exact prod_torn.mono _ _ _ _
   |exact round_Pack.mono _ _ _ _ _ _ _
   |exact sum_Exact.mono _ _ _ _ _ _ _ _ _
   |exact sum_Infinite.mono _ _ _ _ _ _
   |exact sum_Nans.mono _ _ _
   |exact LeO.none _
   |refine LeO.ite ?_ ?_
   |refine LeO.bind ?_ (fun _ => ?_)
  ·intro y0 y1 y2 y3 y4 y5 y6 y7 y8 y9 y10 y11
   unfold prod_Fma.j2
   repeat' first
   |(with_reducible exact ih0 _ _ _ _ _ _ _ _)
   |(with_reducible exact ih1 _ _ _ _ _ _ _ _ _)
   |(with_reducible exact ih2 _ _ _ _ _ _ _ _ _ _ _ _)
   |(with_reducible exact format_IsInf.mono _ _ _)
   |(with_reducible exact prod_torn.mono _ _ _ _)
   |(with_reducible exact round_Pack.mono _ _ _ _ _ _ _)
   |(with_reducible exact sum_Exact.mono _ _ _ _ _ _ _ _ _)
   |(with_reducible exact sum_Infinite.mono _ _ _ _ _ _)
   |(with_reducible exact sum_Nans.mono _ _ _)
   |(with_reducible exact LeO.refl _)
   |(with_reducible exact LeO.none _)
   |(with_reducible refine LeO.ite ?_ ?_)
   |(with_reducible refine LeO.bind ?_ (fun _ => ?_))
   |exact ih0 _ _ _ _ _ _ _ _
   |exact ih1 _ _ _ _ _ _ _ _ _
   |exact ih2 _ _ _ _ _ _ _ _ _ _ _ _
   |exact format_IsInf.mono _ _ _
   |exact prod_torn.mono _ _ _ _
   |exact round_Pack.mono _ _ _ _ _ _ _
   |exact sum_Exact.mono _ _ _ _ _ _ _ _ _
   |exact sum_Infinite.mono _ _ _ _ _ _
   |exact sum_Nans.mono _ _ _
   |exact LeO.none _
   |refine LeO.ite ?_ ?_
   |refine LeO.bind ?_ (fun _ => ?_)
theorem prod_Fma.mono : ∀ a0 a1 a2 a3 a4 k, LeO (prod_Fma.f k a0 a1 a2 a3 a4) (prod_Fma.f (k + 1) a0 a1 a2 a3 a4) := by
 intro a0 a1 a2 a3 a4 k
 obtain ⟨ih0, ih1, ih2⟩ := prod_Fma.mono_l k
 unfold prod_Fma.f
 repeat' first
   |(with_reducible exact ih0 _ _ _ _ _ _ _ _)
   |(with_reducible exact ih1 _ _ _ _ _ _ _ _ _)
   |(with_reducible exact ih2 _ _ _ _ _ _ _ _ _ _ _ _)
   |(with_reducible exact format_IsInf.mono _ _ _)
   |(with_reducible exact prod_torn.mono _ _ _ _)
   |(with_reducible exact round_Pack.mono _ _ _ _ _ _ _)
   |(with_reducible exact sum_Exact.mono _ _ _ _ _ _ _ _ _)
   |(with_reducible exact sum_Infinite.mono _ _ _ _ _ _)
   |(with_reducible exact sum_Nans.mono _ _ _)
   |(with_reducible exact LeO.refl _)
   |(with_reducible exact LeO.none _)
   |(with_reducible refine LeO.ite ?_ ?_)
   |(with_reducible refine LeO.bind ?_ (fun _ => ?_))
   |exact ih0 _ _ _ _ _ _ _ _
   |exact ih1 _ _ _ _ _ _ _ _ _
   |exact ih2 _ _ _ _ _ _ _ _ _ _ _ _
   |exact format_IsInf.mono _ _ _
   |exact prod_torn.mono _ _ _ _
   |exact round_Pack.mono _ _ _ _ _ _ _
   |exact sum_Exact.mono _ _ _ _ _ _ _ _ _
   |exact sum_Infinite.mono _ _ _ _ _ _
   |exact sum_Nans.mono _ _ _
   |exact LeO.none _
   |refine LeO.ite ?_ ?_
   |refine LeO.bind ?_ (fun _ => ?_)
set_option maxHeartbeats 8000000 in
set_option maxRecDepth 100000 in
theorem prod_Fma.calls (k : Nat) (a0 : Int) (a1 : Int) (a2 : Int) (a3 : Int) (a4 : Int) (r1 : Int) (r2 : Bool) (r3 : Bool) (r4 : Bool) (r5 : Bool) (r6 : Bool) (w : World) (h : prod_Fma.f k a0 a1 a2 a3 a4 = some (r1, r2, r3, r4, r5, r6)) :
  Calls Try.prog 27 #[.int .i64 a0, .int .i64 a1, .int .u32 a2, .int .u32 a3, .int .u32 a4] w fun e w' => e = .returned (.tuple #[.int .u32 r1, .agg #[.bool r2, .bool r3, .bool r4, .bool r5, .bool r6]]) ∧ Below w.heap.size w w' := by
 have hu27 := Try.underlying27
 have hu56 := Try.underlying56
 have HB := Aside0.mk (Below.refl w.heap.size w)
 have H : ((prod_torn.f k a0 a2 a3).bind fun t561 => ((sum_Nans.f k a0 (([a2, a3, a4] : List Int))).bind fun bt565 => (if bt565.2.2.2.2.2.2 = true then (if bt565.2.1 = true then (some (bt565.1, true, bt565.2.2.1, bt565.2.2.2.1, bt565.2.2.2.2.1, bt565.2.2.2.2.2.1)) else (some (bt565.1, t561, bt565.2.2.1, bt565.2.2.2.1, bt565.2.2.2.2.1, bt565.2.2.2.2.2.1))) else (if t561 = true then ((sum_Bad.f a0).bind fun bt573 => (some (bt573.1, bt573.2.1, bt573.2.2.1, bt573.2.2.2.1, bt573.2.2.2.2.1, bt573.2.2.2.2.2))) else ((format_Neg.f a0 a2).bind fun t579 => ((format_Neg.f a0 a3).bind fun t580 => ((format_IsInf.f k a0 a2).bind fun t581 => (if t581 = true then ((format_IsInf.f k a0 a4).bind fun t582 => (prod_Fma.j0 k a0 a1 a2 a3 a4 (t579 != t580) true t582)) else ((format_IsInf.f k a0 a3).bind fun t583 => ((format_IsInf.f k a0 a4).bind fun t584 => (prod_Fma.j0 k a0 a1 a2 a3 a4 (t579 != t580) t583 t584))))))))))) = some (r1, r2, r3, r4, r5, r6) := h
 clear h
 replace H := Option.bind_eq_some_iff.mp H
 obtain ⟨t561, A60, H⟩ := H
 replace H : ((sum_Nans.f k a0 (([a2, a3, a4] : List Int))).bind fun bt565 => (if bt565.2.2.2.2.2.2 = true then (if bt565.2.1 = true then (some (bt565.1, true, bt565.2.2.1, bt565.2.2.2.1, bt565.2.2.2.2.1, bt565.2.2.2.2.2.1)) else (some (bt565.1, t561, bt565.2.2.1, bt565.2.2.2.1, bt565.2.2.2.2.1, bt565.2.2.2.2.2.1))) else (if t561 = true then ((sum_Bad.f a0).bind fun bt573 => (some (bt573.1, bt573.2.1, bt573.2.2.1, bt573.2.2.2.1, bt573.2.2.2.2.1, bt573.2.2.2.2.2))) else ((format_Neg.f a0 a2).bind fun t579 => ((format_Neg.f a0 a3).bind fun t580 => ((format_IsInf.f k a0 a2).bind fun t581 => (if t581 = true then ((format_IsInf.f k a0 a4).bind fun t582 => (prod_Fma.j0 k a0 a1 a2 a3 a4 (t579 != t580) true t582)) else ((format_IsInf.f k a0 a3).bind fun t583 => ((format_IsInf.f k a0 a4).bind fun t584 => (prod_Fma.j0 k a0 a1 a2 a3 a4 (t579 != t580) t583 t584)))))))))) = some (r1, r2, r3, r4, r5, r6) := H
 have A6 := Aside0.mk A60
 clear A60
 obtain ⟨y562, hy562⟩ : ∃ y_ : List Int, y_ = (([a2, a3, a4] : List Int)) := ⟨_, rfl⟩
 replace H : ((sum_Nans.f k a0 y562).bind fun bt565 => (if bt565.2.2.2.2.2.2 = true then (if bt565.2.1 = true then (some (bt565.1, true, bt565.2.2.1, bt565.2.2.2.1, bt565.2.2.2.2.1, bt565.2.2.2.2.2.1)) else (some (bt565.1, t561, bt565.2.2.1, bt565.2.2.2.1, bt565.2.2.2.2.1, bt565.2.2.2.2.2.1))) else (if t561 = true then ((sum_Bad.f a0).bind fun bt573 => (some (bt573.1, bt573.2.1, bt573.2.2.1, bt573.2.2.2.1, bt573.2.2.2.2.1, bt573.2.2.2.2.2))) else ((format_Neg.f a0 a2).bind fun t579 => ((format_Neg.f a0 a3).bind fun t580 => ((format_IsInf.f k a0 a2).bind fun t581 => (if t581 = true then ((format_IsInf.f k a0 a4).bind fun t582 => (prod_Fma.j0 k a0 a1 a2 a3 a4 (t579 != t580) true t582)) else ((format_IsInf.f k a0 a3).bind fun t583 => ((format_IsInf.f k a0 a4).bind fun t584 => (prod_Fma.j0 k a0 a1 a2 a3 a4 (t579 != t580) t583 t584)))))))))) = some (r1, r2, r3, r4, r5, r6) := by first | (rw [hy562]; with_reducible exact H) | (have H2_ := (Option.bind_some _ _).symm.trans H; rw [hy562]; with_reducible exact H2_) | (have H2_ := (Option.bind_some _ _).symm.trans H; with_reducible exact H2_) | with_reducible exact H | (rw [hy562]; exact H) | exact H
 have Ny562 := Aside0.mk hy562
 clear hy562
 replace H := Option.bind_eq_some_iff.mp H
 obtain ⟨⟨t565, t566, t567, t568, t569, t570, t571⟩, A70, H⟩ := H
 replace H : (if t571 = true then (if t566 = true then (some (t565, true, t567, t568, t569, t570)) else (some (t565, t561, t567, t568, t569, t570))) else (if t561 = true then ((sum_Bad.f a0).bind fun bt573 => (some (bt573.1, bt573.2.1, bt573.2.2.1, bt573.2.2.2.1, bt573.2.2.2.2.1, bt573.2.2.2.2.2))) else ((format_Neg.f a0 a2).bind fun t579 => ((format_Neg.f a0 a3).bind fun t580 => ((format_IsInf.f k a0 a2).bind fun t581 => (if t581 = true then ((format_IsInf.f k a0 a4).bind fun t582 => (prod_Fma.j0 k a0 a1 a2 a3 a4 (t579 != t580) true t582)) else ((format_IsInf.f k a0 a3).bind fun t583 => ((format_IsInf.f k a0 a4).bind fun t584 => (prod_Fma.j0 k a0 a1 a2 a3 a4 (t579 != t580) t583 t584))))))))) = some (r1, r2, r3, r4, r5, r6) := H
 have A7 := Aside0.mk A70
 clear A70
 by_cases c8 : t571 = true
 ·subst c8
  have H1 : (if t566 = true then (some (t565, true, t567, t568, t569, t570)) else (some (t565, t561, t567, t568, t569, t570))) = some (r1, r2, r3, r4, r5, r6) := by rw [if_pos rfl] at H; exact H
  clear H
  have H := H1
  clear H1
  by_cases c9 : t566 = true
  ·subst c9
   have H1 : (some (t565, true, t567, t568, t569, t570)) = some (r1, r2, r3, r4, r5, r6) := by rw [if_pos rfl] at H; exact H
   clear H
   have H := H1
   clear H1
   simp only [Option.some.injEq, Prod.mk.injEq] at H
   obtain ⟨rfl, rfl, rfl, rfl, rfl, rfl⟩ := H
   go_enter Try.func27, Try.ntmps27
   try go_wp2_with (first | ((with_reducible refine gate_dst (N := 11) rfl ?_); refine box_event ?hg (N := 11) ?hd (cs := F5) (t := 27) ?hr ?_; (case hd => rfl); (case hg => rfl); (case hr => first | (go_simp; done) | (go_simp; rfl)); intro gb560 hg w10 hbox hb; have n0_ := Aside0.mk (below_step (bl0 HB.out) hb); have n1_ := Aside0.mk (hbox); have n2_ := Aside0.mk ((by rw [hg]; exact (below_size (bl0 HB.out)) : w.heap.size ≤ gb560)); have n3_ := n2_; clear HB; have HB := n0_; have BK560 := n1_; have GW560 := n2_; have GE560 := n3_; clear n0_ n1_ n2_ n3_; clear hb hbox hg) | ((with_reducible refine gate_callee (f := 47) rfl ?_); refine goesL_ (some 25) rfl rfl Try.func47 (by kernel_rfl) rfl #[.int .i64 a0, .int .u32 a2, .int .u32 a3] rfl gl ?_; (with_reducible refine (prod_torn.calls k a0 a2 a3 t561 _ A6.out).mono ?_); rintro e w' ⟨rfl, ⟨nd, rfl⟩⟩; refine ⟨_, rfl, ?_⟩; (try (rw [drewN_self w10]; generalize hq_ : World.drewN w10 _ = w10; have n0_ : Aside0 (w10.heap[gb560]? = some (.cells #[.bool false, .bool false, .bool false, .bool false, .bool false] 27 (0, 0))) := ⟨by rw [← hq_]; exact (bv BK560.out)⟩; have n1_ : Aside0 (Below w.heap.size w w10) := ⟨by rw [← hq_]; exact (bl1 HB.out GE560.out)⟩; clear BK560 HB hq_; have BK560 := n0_; have HB := n1_; clear n0_ n1_))) | ((with_reducible refine gate_dst (N := 31) rfl ?_); refine Kd.R_lit (Kd.int .u32) _ 22 ?hg (N := 31) ?hd (xs := ([a2, a3, a4] : List Int)) (inner := [.int .u32 a2, .int .u32 a3, .int .u32 a4]) (ok := fun _ => True) (okp := fun _ => True) ?hr ?hp (fun _ hk => hk) trivial (Below.refl _ _) (Nat.le_refl _) (by simp) ?_; (case hd => rfl); (case hg => rfl); (case hr => first | (go_simp; done) | (go_simp; rfl)); (case hp => exact (Reps.one (show Kd.M (Kd.int .u32) _ _ _ a2 [.int .u32 a2] from rfl) (Reps.one (show Kd.M (Kd.int .u32) _ _ _ a3 [.int .u32 a3] from rfl) (Reps.one (show Kd.M (Kd.int .u32) _ _ _ a4 [.int .u32 a4] from rfl) (Reps.none _ _))))); intro v563 w11 ho12 hb hg_ hnew_; clear hg_ hnew_; (first | rw [← Ny562.out] at ho12 | (simp only [Int.reduceToNat] at ho12; rw [← Ny562.out] at ho12)); have n0_ := Aside0.mk (Kd.R_lower ho12 (below_size (bl1 HB.out GE560.out))); have n1_ := Aside0.mk (blk_below (g := gb560) (o := .cells #[.bool false, .bool false, .bool false, .bool false, .bool false] 27 (0, 0)) (bv BK560.out) hb); have n2_ := Aside0.mk (below_step (bl1 HB.out GE560.out) hb); clear BK560; clear HB; have HO564 := n0_; have BK560 := n1_; have HB := n2_; clear n0_ n1_ n2_; clear hb ho12; obtain ⟨Ao13, co13, eo13⟩ := Kd.R_slice HO564.out; subst eo13) | ((with_reducible refine gate_callee (f := 31) rfl ?_); refine goesL_ (some 32) rfl rfl Try.func31 (by kernel_rfl) rfl #[.int .i64 a0, .slice Ao13 y562.length co13] rfl gl ?_; (with_reducible refine (sum_Nans.calls k a0 _ _ y562 t565 true t567 t568 t569 t570 true _ ?side1 ?side2 A7.out).mono ?_); (case side1 => repeat (first | exact (Kd.R_reads' HO564.out).2.2 | (with_reducible refine Kd.C_alloc ?_ _) | (with_reducible refine Kd.C_drewN ?_ _) | (with_reducible refine Kd.C_drew ?_))); (case side2 => exact (Kd.R_reads' HO564.out).2.1); rintro e w14 ⟨rfl, hb⟩; refine ⟨_, rfl, ?_⟩; have n0_ := Aside0.mk (Kd.R_below (by (with_reducible repeat (first | apply Kd.R_alloc | apply Kd.R_drewN | apply Kd.R_drew)); exact HO564.out) hb); have n1_ := Aside0.mk (blk_below (g := gb560) (o := .cells #[.bool false, .bool false, .bool false, .bool false, .bool false] 27 (0, 0)) (bv BK560.out) hb); have n2_ := Aside0.mk (below_step (bl1 HB.out GE560.out) hb); clear HO564; clear BK560; clear HB; have HO564 := n0_; have BK560 := n1_; have HB := n2_; clear n0_ n1_ n2_) | ((with_reducible refine gate_dst (N := 14) rfl ?_); refine box_event ?hg (N := 14) ?hd (cs := F5) (t := 27) ?hr ?_; (case hd => rfl); (case hg => rfl); (case hr => first | (go_simp; done) | (go_simp; rfl)); intro gb572 hg w15 hbox hb; have n0_ := Aside0.mk (Kd.R_below (by (with_reducible repeat (first | apply Kd.R_alloc | apply Kd.R_drewN | apply Kd.R_drew)); exact HO564.out) hb); have n1_ := Aside0.mk (blk_below (g := gb560) (o := .cells #[.bool false, .bool false, .bool false, .bool false, .bool false] 27 (0, 0)) (bv BK560.out) hb); have n2_ := Aside0.mk (below_step (bl1 HB.out GE560.out) hb); have n3_ := Aside0.mk (hbox); have n4_ := Aside0.mk ((by rw [hg]; exact (below_size (bl1 HB.out GE560.out)) : w.heap.size ≤ gb572)); have n5_ := n4_; have n6_ := Aside0.mk ((by rw [hg]; exact Nat.ne_of_lt (blk_lt (g := gb560) (o := .cells F5 27 (0, 0)) (bv BK560.out)) : gb560 ≠ gb572)); have n7_ := Aside0.mk (Ne.symm n6_.out); clear HO564; clear BK560; clear HB; have HO564 := n0_; have BK560 := n1_; have HB := n2_; have BK572 := n3_; have GW572 := n4_; have GE572 := n5_; have NB560_572 := n6_; have NB572_560 := n7_; clear n0_ n1_ n2_ n3_ n4_ n5_ n6_ n7_; clear hb hbox hg; have hnb16 := NB572_560.out; have hnc16 := NB560_572.out; obtain ⟨hcz17_0, hcz17_1, hcz17_2, hcz17_3, hcz17_4⟩ := bc5 BK572.out; obtain ⟨hfz17_0, hfz17_1, hfz17_2, hfz17_3, hfz17_4⟩ := bf5 BK572.out))
   have n0_ : Aside0 (Kd.R (Kd.int .u32) 22 ((((((w15.setCell ⟨gb572, 0, none⟩ (.bool true)).setCell ⟨gb572, 1, none⟩ (.bool t567)).setCell ⟨gb572, 2, none⟩ (.bool t568)).setCell ⟨gb572, 3, none⟩ (.bool t569)).setCell ⟨gb572, 4, none⟩ (.bool t570)).setCell ⟨gb572, 0, none⟩ (.bool true)) w.heap.size (fun _ => True) (.slice Ao13 y562.length co13) y562) := ⟨by (with_reducible repeat (first | apply Kd.R_alloc | apply Kd.R_drewN | apply Kd.R_drew)); exact Kd.R_mono (Kd.R_far (p := ⟨gb572, 0, none⟩) (Kd.R_far (p := ⟨gb572, 4, none⟩) (Kd.R_far (p := ⟨gb572, 3, none⟩) (Kd.R_far (p := ⟨gb572, 2, none⟩) (Kd.R_far (p := ⟨gb572, 1, none⟩) (Kd.R_far (p := ⟨gb572, 0, none⟩) (Kd.R_types HO564.out BK572.out (by decide)) (fun _ hk => hk.2) (.bool true)) (fun _ hk => hk.2) (.bool t567)) (fun _ hk => hk.2) (.bool t568)) (fun _ hk => hk.2) (.bool t569)) (fun _ hk => hk.2) (.bool t570)) (fun _ hk => hk.2) (.bool true)) (fun _ hk => trivial)⟩
   have n1_ : Aside0 (((((((w15.setCell ⟨gb572, 0, none⟩ (.bool true)).setCell ⟨gb572, 1, none⟩ (.bool t567)).setCell ⟨gb572, 2, none⟩ (.bool t568)).setCell ⟨gb572, 3, none⟩ (.bool t569)).setCell ⟨gb572, 4, none⟩ (.bool t570)).setCell ⟨gb572, 0, none⟩ (.bool true)).heap[gb560]? = some (.cells #[.bool false, .bool false, .bool false, .bool false, .bool false] 27 (0, 0))) := ⟨by (with_reducible repeat first | apply bd | apply be | apply ba); refine blk_far ?_ NB560_572.out _; (with_reducible repeat first | apply bd | apply be | apply ba); refine blk_far ?_ NB560_572.out _; (with_reducible repeat first | apply bd | apply be | apply ba); refine blk_far ?_ NB560_572.out _; (with_reducible repeat first | apply bd | apply be | apply ba); refine blk_far ?_ NB560_572.out _; (with_reducible repeat first | apply bd | apply be | apply ba); refine blk_far ?_ NB560_572.out _; (with_reducible repeat first | apply bd | apply be | apply ba); refine blk_far ?_ NB560_572.out _; (with_reducible repeat first | apply bd | apply be | apply ba); exact BK560.out⟩
   have n2_ : Aside0 (((((((w15.setCell ⟨gb572, 0, none⟩ (.bool true)).setCell ⟨gb572, 1, none⟩ (.bool t567)).setCell ⟨gb572, 2, none⟩ (.bool t568)).setCell ⟨gb572, 3, none⟩ (.bool t569)).setCell ⟨gb572, 4, none⟩ (.bool t570)).setCell ⟨gb572, 0, none⟩ (.bool true)).heap[gb572]? = some (.cells #[.bool true, .bool t567, .bool t568, .bool t569, .bool t570] 27 (0, 0))) := ⟨by (with_reducible repeat first | apply bd | apply be | apply ba); refine blk_put (cs := #[.bool true, .bool t567, .bool t568, .bool t569, .bool t570]) ?_ 0 _ rfl; (with_reducible repeat first | apply bd | apply be | apply ba); refine blk_put (cs := #[.bool true, .bool t567, .bool t568, .bool t569, .bool false]) ?_ 4 _ rfl; (with_reducible repeat first | apply bd | apply be | apply ba); refine blk_put (cs := #[.bool true, .bool t567, .bool t568, .bool false, .bool false]) ?_ 3 _ rfl; (with_reducible repeat first | apply bd | apply be | apply ba); refine blk_put (cs := #[.bool true, .bool t567, .bool false, .bool false, .bool false]) ?_ 2 _ rfl; (with_reducible repeat first | apply bd | apply be | apply ba); refine blk_put (cs := #[.bool true, .bool false, .bool false, .bool false, .bool false]) ?_ 1 _ rfl; (with_reducible repeat first | apply bd | apply be | apply ba); refine blk_put (cs := F5) ?_ 0 _ rfl; (with_reducible repeat first | apply bd | apply be | apply ba); exact BK572.out⟩
   have n3_ : Aside0 (Below w.heap.size w ((((((w15.setCell ⟨gb572, 0, none⟩ (.bool true)).setCell ⟨gb572, 1, none⟩ (.bool t567)).setCell ⟨gb572, 2, none⟩ (.bool t568)).setCell ⟨gb572, 3, none⟩ (.bool t569)).setCell ⟨gb572, 4, none⟩ (.bool t570)).setCell ⟨gb572, 0, none⟩ (.bool true))) := ⟨bl2 HB.out GE560.out GE572.out⟩
   (try clear HO564)
   (try clear BK560)
   (try clear BK572)
   (try clear HB)
   generalize ((((((w15.setCell ⟨gb572, 0, none⟩ (.bool true)).setCell ⟨gb572, 1, none⟩ (.bool t567)).setCell ⟨gb572, 2, none⟩ (.bool t568)).setCell ⟨gb572, 3, none⟩ (.bool t569)).setCell ⟨gb572, 4, none⟩ (.bool t570)).setCell ⟨gb572, 0, none⟩ (.bool true)) = w18 at n0_ n1_ n2_ n3_ ⊢
   have HO564 := n0_
   have BK560 := n1_
   have BK572 := n2_
   have HB := n3_
   clear n0_ n1_ n2_ n3_
   have n0_ := Aside0.mk (Kd.R_drew HO564.out)
   have n1_ := Aside0.mk (blk_drew BK560.out)
   have n2_ := Aside0.mk (blk_drew BK572.out)
   have n3_ := Aside0.mk (below_drew1 HB.out)
   clear HO564
   clear BK560
   clear BK572
   clear HB
   have HO564 := n0_
   have BK560 := n1_
   have BK572 := n2_
   have HB := n3_
   clear n0_ n1_ n2_ n3_
   refine start_ (n := 4) (S := fun w' => w'.cell? ⟨gb572, 0, none⟩ = some (.bool true) ∧ w'.cell? ⟨gb572, 1, none⟩ = some (.bool t567) ∧ w'.cell? ⟨gb572, 2, none⟩ = some (.bool t568) ∧ w'.cell? ⟨gb572, 3, none⟩ = some (.bool t569) ∧ w'.cell? ⟨gb572, 4, none⟩ = some (.bool t570)) (ds := []) #[false, false, false, false] (by kernel_rfl) rfl rfl ⟨(blk_cell BK572.out 0).trans rfl, (blk_cell BK572.out 1).trans rfl, (blk_cell BK572.out 2).trans rfl, (blk_cell BK572.out 3).trans rfl, (blk_cell BK572.out 4).trans rfl⟩ (fun hHeld => ?_)
   generalize w18.drew = w19 at HO564 BK560 BK572 HB hHeld ⊢
   refine pure_ (i := 0) (N := some 43) (v := ?_) (a' := ?_) #[true, false, false, false] rfl rfl (by kernel_rfl) (fun _ _ _ h => h) (Or.inl ⟨by rfl, ?_⟩) ?_ ?_
   rotate_left
   ·intro w'
    go_simp
    with_reducible rfl
   rotate_left
   ·simp only [Act.put, sb, sz, ss, i64_w, i32_w]
    rfl
   refine pure_ (i := 2) (N := some 10) (v := ?_) (a' := ?_) #[true, false, true, false] rfl rfl (by kernel_rfl) (fun _ _ _ h => h) (Or.inl ⟨by rfl, ?_⟩) ?_ ?_
   rotate_left
   ·intro w'
    go_simp
    with_reducible rfl
   rotate_left
   ·simp only [Act.put, sb, sz, ss, i64_w, i32_w]
    rfl
   refine take_ (i := 1) (N := some 44) (v := ?_) (a' := ?_) #[true, true, true, false] rfl rfl (by kernel_rfl) (fun _ _ _ h => h) (Or.inl ⟨by rfl, ?_⟩) hHeld ?_ ?_
   rotate_left
   ·rintro w' ⟨s0, s1, s2, s3, s4⟩
    go_simp
    with_reducible rfl
   rotate_left
   ·simp only [Act.put, sb, sz, ss, i64_w, i32_w]
    rfl
   refine one_ (i := 3) (N := none) #[true, true, true, true] rfl rfl (by kernel_rfl) (by decide) (fun K hK => ?_)
   have hs20 : w19.cell? ⟨gb560, 0, none⟩ = some (.bool false) := (blk_cell BK560.out 0).trans rfl
   have hfs20 := blk_frozen BK560.out 0
   have hns20_1 := NB572_560.out
   have hms20_1 := NB560_572.out
   have hs21 : w19.cell? ⟨gb560, 1, none⟩ = some (.bool false) := (blk_cell BK560.out 1).trans rfl
   have hfs21 := blk_frozen BK560.out 1
   have hns21_1 := NB572_560.out
   have hms21_1 := NB560_572.out
   have hs22 : w19.cell? ⟨gb560, 2, none⟩ = some (.bool false) := (blk_cell BK560.out 2).trans rfl
   have hfs22 := blk_frozen BK560.out 2
   have hns22_1 := NB572_560.out
   have hms22_1 := NB560_572.out
   have hs23 : w19.cell? ⟨gb560, 3, none⟩ = some (.bool false) := (blk_cell BK560.out 3).trans rfl
   have hfs23 := blk_frozen BK560.out 3
   have hns23_1 := NB572_560.out
   have hms23_1 := NB560_572.out
   have hs24 : w19.cell? ⟨gb560, 4, none⟩ = some (.bool false) := (blk_cell BK560.out 4).trans rfl
   have hfs24 := blk_frozen BK560.out 4
   have hns24_1 := NB572_560.out
   have hms24_1 := NB560_572.out
   refine skip_ (w1 := ?_) (by rfl) rfl ?_ ?_
   rotate_left
   ·go_simp
    rfl
   refine hK.out _ _ ⟨(cf5 NB572_560.out (hHeld.1)), (cf5 NB572_560.out (hHeld.2.1)), (cf5 NB572_560.out (hHeld.2.2.1)), (cf5 NB572_560.out (hHeld.2.2.2.1)), (cf5 NB572_560.out (hHeld.2.2.2.2))⟩ (fun hHeld => ?_)
   clear hK K
   refine done_ (by kernel_rfl) ?_
   try go_wp2
   refine bodyPost_ret (results_tc rfl _ _ gb560 27 #[.bool true, .bool t567, .bool t568, .bool t569, .bool t570] (0, 0) _ rfl (by (with_reducible repeat first | apply bd | apply be | apply ba); refine blk_put (cs := #[.bool true, .bool t567, .bool t568, .bool t569, .bool false]) ?_ 4 _ rfl; (with_reducible repeat first | apply bd | apply be | apply ba); refine blk_put (cs := #[.bool true, .bool t567, .bool t568, .bool false, .bool false]) ?_ 3 _ rfl; (with_reducible repeat first | apply bd | apply be | apply ba); refine blk_put (cs := #[.bool true, .bool t567, .bool false, .bool false, .bool false]) ?_ 2 _ rfl; (with_reducible repeat first | apply bd | apply be | apply ba); refine blk_put (cs := #[.bool true, .bool false, .bool false, .bool false, .bool false]) ?_ 1 _ rfl; (with_reducible repeat first | apply bd | apply be | apply ba); refine blk_put (cs := F5) ?_ 0 _ rfl; (with_reducible repeat first | apply bd | apply be | apply ba); exact BK560.out) Try.underlying27 rfl (by kernel_rfl)) rfl ?_
   exact ⟨by first | rfl | (simp [errW_none, errW_some] <;> rfl) | (simp [*, errW_none, errW_some] <;> rfl), bl2 HB.out GE560.out GE572.out⟩
  ·replace c9 := Bool.eq_false_iff.mpr c9
   subst c9
   have H1 : (some (t565, t561, t567, t568, t569, t570)) = some (r1, r2, r3, r4, r5, r6) := by rw [if_neg (show ¬ (false = true) by decide)] at H; exact H
   clear H
   have H := H1
   clear H1
   simp only [Option.some.injEq, Prod.mk.injEq] at H
   obtain ⟨rfl, rfl, rfl, rfl, rfl, rfl⟩ := H
   go_enter Try.func27, Try.ntmps27
   try go_wp2_with (first | ((with_reducible refine gate_dst (N := 11) rfl ?_); refine box_event ?hg (N := 11) ?hd (cs := F5) (t := 27) ?hr ?_; (case hd => rfl); (case hg => rfl); (case hr => first | (go_simp; done) | (go_simp; rfl)); intro gb560 hg w25 hbox hb; have n0_ := Aside0.mk (below_step (bl0 HB.out) hb); have n1_ := Aside0.mk (hbox); have n2_ := Aside0.mk ((by rw [hg]; exact (below_size (bl0 HB.out)) : w.heap.size ≤ gb560)); have n3_ := n2_; clear HB; have HB := n0_; have BK560 := n1_; have GW560 := n2_; have GE560 := n3_; clear n0_ n1_ n2_ n3_; clear hb hbox hg) | ((with_reducible refine gate_callee (f := 47) rfl ?_); refine goesL_ (some 25) rfl rfl Try.func47 (by kernel_rfl) rfl #[.int .i64 a0, .int .u32 a2, .int .u32 a3] rfl gl ?_; (with_reducible refine (prod_torn.calls k a0 a2 a3 t561 _ A6.out).mono ?_); rintro e w' ⟨rfl, ⟨nd, rfl⟩⟩; refine ⟨_, rfl, ?_⟩; (try (rw [drewN_self w25]; generalize hq_ : World.drewN w25 _ = w25; have n0_ : Aside0 (w25.heap[gb560]? = some (.cells #[.bool false, .bool false, .bool false, .bool false, .bool false] 27 (0, 0))) := ⟨by rw [← hq_]; exact (bv BK560.out)⟩; have n1_ : Aside0 (Below w.heap.size w w25) := ⟨by rw [← hq_]; exact (bl1 HB.out GE560.out)⟩; clear BK560 HB hq_; have BK560 := n0_; have HB := n1_; clear n0_ n1_))) | ((with_reducible refine gate_dst (N := 31) rfl ?_); refine Kd.R_lit (Kd.int .u32) _ 22 ?hg (N := 31) ?hd (xs := ([a2, a3, a4] : List Int)) (inner := [.int .u32 a2, .int .u32 a3, .int .u32 a4]) (ok := fun _ => True) (okp := fun _ => True) ?hr ?hp (fun _ hk => hk) trivial (Below.refl _ _) (Nat.le_refl _) (by simp) ?_; (case hd => rfl); (case hg => rfl); (case hr => first | (go_simp; done) | (go_simp; rfl)); (case hp => exact (Reps.one (show Kd.M (Kd.int .u32) _ _ _ a2 [.int .u32 a2] from rfl) (Reps.one (show Kd.M (Kd.int .u32) _ _ _ a3 [.int .u32 a3] from rfl) (Reps.one (show Kd.M (Kd.int .u32) _ _ _ a4 [.int .u32 a4] from rfl) (Reps.none _ _))))); intro v563 w26 ho27 hb hg_ hnew_; clear hg_ hnew_; (first | rw [← Ny562.out] at ho27 | (simp only [Int.reduceToNat] at ho27; rw [← Ny562.out] at ho27)); have n0_ := Aside0.mk (Kd.R_lower ho27 (below_size (bl1 HB.out GE560.out))); have n1_ := Aside0.mk (blk_below (g := gb560) (o := .cells #[.bool false, .bool false, .bool false, .bool false, .bool false] 27 (0, 0)) (bv BK560.out) hb); have n2_ := Aside0.mk (below_step (bl1 HB.out GE560.out) hb); clear BK560; clear HB; have HO564 := n0_; have BK560 := n1_; have HB := n2_; clear n0_ n1_ n2_; clear hb ho27; obtain ⟨Ao28, co28, eo28⟩ := Kd.R_slice HO564.out; subst eo28) | ((with_reducible refine gate_callee (f := 31) rfl ?_); refine goesL_ (some 32) rfl rfl Try.func31 (by kernel_rfl) rfl #[.int .i64 a0, .slice Ao28 y562.length co28] rfl gl ?_; (with_reducible refine (sum_Nans.calls k a0 _ _ y562 t565 false t567 t568 t569 t570 true _ ?side1 ?side2 A7.out).mono ?_); (case side1 => repeat (first | exact (Kd.R_reads' HO564.out).2.2 | (with_reducible refine Kd.C_alloc ?_ _) | (with_reducible refine Kd.C_drewN ?_ _) | (with_reducible refine Kd.C_drew ?_))); (case side2 => exact (Kd.R_reads' HO564.out).2.1); rintro e w29 ⟨rfl, hb⟩; refine ⟨_, rfl, ?_⟩; have n0_ := Aside0.mk (Kd.R_below (by (with_reducible repeat (first | apply Kd.R_alloc | apply Kd.R_drewN | apply Kd.R_drew)); exact HO564.out) hb); have n1_ := Aside0.mk (blk_below (g := gb560) (o := .cells #[.bool false, .bool false, .bool false, .bool false, .bool false] 27 (0, 0)) (bv BK560.out) hb); have n2_ := Aside0.mk (below_step (bl1 HB.out GE560.out) hb); clear HO564; clear BK560; clear HB; have HO564 := n0_; have BK560 := n1_; have HB := n2_; clear n0_ n1_ n2_) | ((with_reducible refine gate_dst (N := 14) rfl ?_); refine box_event ?hg (N := 14) ?hd (cs := F5) (t := 27) ?hr ?_; (case hd => rfl); (case hg => rfl); (case hr => first | (go_simp; done) | (go_simp; rfl)); intro gb572 hg w30 hbox hb; have n0_ := Aside0.mk (Kd.R_below (by (with_reducible repeat (first | apply Kd.R_alloc | apply Kd.R_drewN | apply Kd.R_drew)); exact HO564.out) hb); have n1_ := Aside0.mk (blk_below (g := gb560) (o := .cells #[.bool false, .bool false, .bool false, .bool false, .bool false] 27 (0, 0)) (bv BK560.out) hb); have n2_ := Aside0.mk (below_step (bl1 HB.out GE560.out) hb); have n3_ := Aside0.mk (hbox); have n4_ := Aside0.mk ((by rw [hg]; exact (below_size (bl1 HB.out GE560.out)) : w.heap.size ≤ gb572)); have n5_ := n4_; have n6_ := Aside0.mk ((by rw [hg]; exact Nat.ne_of_lt (blk_lt (g := gb560) (o := .cells F5 27 (0, 0)) (bv BK560.out)) : gb560 ≠ gb572)); have n7_ := Aside0.mk (Ne.symm n6_.out); clear HO564; clear BK560; clear HB; have HO564 := n0_; have BK560 := n1_; have HB := n2_; have BK572 := n3_; have GW572 := n4_; have GE572 := n5_; have NB560_572 := n6_; have NB572_560 := n7_; clear n0_ n1_ n2_ n3_ n4_ n5_ n6_ n7_; clear hb hbox hg; have hnb31 := NB572_560.out; have hnc31 := NB560_572.out; obtain ⟨hcz32_0, hcz32_1, hcz32_2, hcz32_3, hcz32_4⟩ := bc5 BK572.out; obtain ⟨hfz32_0, hfz32_1, hfz32_2, hfz32_3, hfz32_4⟩ := bf5 BK572.out))
   have n0_ : Aside0 (Kd.R (Kd.int .u32) 22 ((((((w30.setCell ⟨gb572, 0, none⟩ (.bool false)).setCell ⟨gb572, 1, none⟩ (.bool t567)).setCell ⟨gb572, 2, none⟩ (.bool t568)).setCell ⟨gb572, 3, none⟩ (.bool t569)).setCell ⟨gb572, 4, none⟩ (.bool t570)).setCell ⟨gb572, 0, none⟩ (.bool t561)) w.heap.size (fun _ => True) (.slice Ao28 y562.length co28) y562) := ⟨by (with_reducible repeat (first | apply Kd.R_alloc | apply Kd.R_drewN | apply Kd.R_drew)); exact Kd.R_mono (Kd.R_far (p := ⟨gb572, 0, none⟩) (Kd.R_far (p := ⟨gb572, 4, none⟩) (Kd.R_far (p := ⟨gb572, 3, none⟩) (Kd.R_far (p := ⟨gb572, 2, none⟩) (Kd.R_far (p := ⟨gb572, 1, none⟩) (Kd.R_far (p := ⟨gb572, 0, none⟩) (Kd.R_types HO564.out BK572.out (by decide)) (fun _ hk => hk.2) (.bool false)) (fun _ hk => hk.2) (.bool t567)) (fun _ hk => hk.2) (.bool t568)) (fun _ hk => hk.2) (.bool t569)) (fun _ hk => hk.2) (.bool t570)) (fun _ hk => hk.2) (.bool t561)) (fun _ hk => trivial)⟩
   have n1_ : Aside0 (((((((w30.setCell ⟨gb572, 0, none⟩ (.bool false)).setCell ⟨gb572, 1, none⟩ (.bool t567)).setCell ⟨gb572, 2, none⟩ (.bool t568)).setCell ⟨gb572, 3, none⟩ (.bool t569)).setCell ⟨gb572, 4, none⟩ (.bool t570)).setCell ⟨gb572, 0, none⟩ (.bool t561)).heap[gb560]? = some (.cells #[.bool false, .bool false, .bool false, .bool false, .bool false] 27 (0, 0))) := ⟨by (with_reducible repeat first | apply bd | apply be | apply ba); refine blk_far ?_ NB560_572.out _; (with_reducible repeat first | apply bd | apply be | apply ba); refine blk_far ?_ NB560_572.out _; (with_reducible repeat first | apply bd | apply be | apply ba); refine blk_far ?_ NB560_572.out _; (with_reducible repeat first | apply bd | apply be | apply ba); refine blk_far ?_ NB560_572.out _; (with_reducible repeat first | apply bd | apply be | apply ba); refine blk_far ?_ NB560_572.out _; (with_reducible repeat first | apply bd | apply be | apply ba); refine blk_far ?_ NB560_572.out _; (with_reducible repeat first | apply bd | apply be | apply ba); exact BK560.out⟩
   have n2_ : Aside0 (((((((w30.setCell ⟨gb572, 0, none⟩ (.bool false)).setCell ⟨gb572, 1, none⟩ (.bool t567)).setCell ⟨gb572, 2, none⟩ (.bool t568)).setCell ⟨gb572, 3, none⟩ (.bool t569)).setCell ⟨gb572, 4, none⟩ (.bool t570)).setCell ⟨gb572, 0, none⟩ (.bool t561)).heap[gb572]? = some (.cells #[.bool t561, .bool t567, .bool t568, .bool t569, .bool t570] 27 (0, 0))) := ⟨by (with_reducible repeat first | apply bd | apply be | apply ba); refine blk_put (cs := #[.bool false, .bool t567, .bool t568, .bool t569, .bool t570]) ?_ 0 _ rfl; (with_reducible repeat first | apply bd | apply be | apply ba); refine blk_put (cs := #[.bool false, .bool t567, .bool t568, .bool t569, .bool false]) ?_ 4 _ rfl; (with_reducible repeat first | apply bd | apply be | apply ba); refine blk_put (cs := #[.bool false, .bool t567, .bool t568, .bool false, .bool false]) ?_ 3 _ rfl; (with_reducible repeat first | apply bd | apply be | apply ba); refine blk_put (cs := #[.bool false, .bool t567, .bool false, .bool false, .bool false]) ?_ 2 _ rfl; (with_reducible repeat first | apply bd | apply be | apply ba); refine blk_put (cs := F5) ?_ 1 _ rfl; (with_reducible repeat first | apply bd | apply be | apply ba); refine blk_put (cs := F5) ?_ 0 _ rfl; (with_reducible repeat first | apply bd | apply be | apply ba); exact BK572.out⟩
   have n3_ : Aside0 (Below w.heap.size w ((((((w30.setCell ⟨gb572, 0, none⟩ (.bool false)).setCell ⟨gb572, 1, none⟩ (.bool t567)).setCell ⟨gb572, 2, none⟩ (.bool t568)).setCell ⟨gb572, 3, none⟩ (.bool t569)).setCell ⟨gb572, 4, none⟩ (.bool t570)).setCell ⟨gb572, 0, none⟩ (.bool t561))) := ⟨bl2 HB.out GE560.out GE572.out⟩
   (try clear HO564)
   (try clear BK560)
   (try clear BK572)
   (try clear HB)
   generalize ((((((w30.setCell ⟨gb572, 0, none⟩ (.bool false)).setCell ⟨gb572, 1, none⟩ (.bool t567)).setCell ⟨gb572, 2, none⟩ (.bool t568)).setCell ⟨gb572, 3, none⟩ (.bool t569)).setCell ⟨gb572, 4, none⟩ (.bool t570)).setCell ⟨gb572, 0, none⟩ (.bool t561)) = w33 at n0_ n1_ n2_ n3_ ⊢
   have HO564 := n0_
   have BK560 := n1_
   have BK572 := n2_
   have HB := n3_
   clear n0_ n1_ n2_ n3_
   have n0_ := Aside0.mk (Kd.R_drew HO564.out)
   have n1_ := Aside0.mk (blk_drew BK560.out)
   have n2_ := Aside0.mk (blk_drew BK572.out)
   have n3_ := Aside0.mk (below_drew1 HB.out)
   clear HO564
   clear BK560
   clear BK572
   clear HB
   have HO564 := n0_
   have BK560 := n1_
   have BK572 := n2_
   have HB := n3_
   clear n0_ n1_ n2_ n3_
   refine start_ (n := 4) (S := fun w' => w'.cell? ⟨gb572, 0, none⟩ = some (.bool t561) ∧ w'.cell? ⟨gb572, 1, none⟩ = some (.bool t567) ∧ w'.cell? ⟨gb572, 2, none⟩ = some (.bool t568) ∧ w'.cell? ⟨gb572, 3, none⟩ = some (.bool t569) ∧ w'.cell? ⟨gb572, 4, none⟩ = some (.bool t570)) (ds := []) #[false, false, false, false] (by kernel_rfl) rfl rfl ⟨(blk_cell BK572.out 0).trans rfl, (blk_cell BK572.out 1).trans rfl, (blk_cell BK572.out 2).trans rfl, (blk_cell BK572.out 3).trans rfl, (blk_cell BK572.out 4).trans rfl⟩ (fun hHeld => ?_)
   generalize w33.drew = w34 at HO564 BK560 BK572 HB hHeld ⊢
   refine pure_ (i := 0) (N := some 43) (v := ?_) (a' := ?_) #[true, false, false, false] rfl rfl (by kernel_rfl) (fun _ _ _ h => h) (Or.inl ⟨by rfl, ?_⟩) ?_ ?_
   rotate_left
   ·intro w'
    go_simp
    with_reducible rfl
   rotate_left
   ·simp only [Act.put, sb, sz, ss, i64_w, i32_w]
    rfl
   refine pure_ (i := 2) (N := some 10) (v := ?_) (a' := ?_) #[true, false, true, false] rfl rfl (by kernel_rfl) (fun _ _ _ h => h) (Or.inl ⟨by rfl, ?_⟩) ?_ ?_
   rotate_left
   ·intro w'
    go_simp
    with_reducible rfl
   rotate_left
   ·simp only [Act.put, sb, sz, ss, i64_w, i32_w]
    rfl
   refine take_ (i := 1) (N := some 44) (v := ?_) (a' := ?_) #[true, true, true, false] rfl rfl (by kernel_rfl) (fun _ _ _ h => h) (Or.inl ⟨by rfl, ?_⟩) hHeld ?_ ?_
   rotate_left
   ·rintro w' ⟨s0, s1, s2, s3, s4⟩
    go_simp
    with_reducible rfl
   rotate_left
   ·simp only [Act.put, sb, sz, ss, i64_w, i32_w]
    rfl
   refine one_ (i := 3) (N := none) #[true, true, true, true] rfl rfl (by kernel_rfl) (by decide) (fun K hK => ?_)
   have hs35 : w34.cell? ⟨gb560, 0, none⟩ = some (.bool false) := (blk_cell BK560.out 0).trans rfl
   have hfs35 := blk_frozen BK560.out 0
   have hns35_1 := NB572_560.out
   have hms35_1 := NB560_572.out
   have hs36 : w34.cell? ⟨gb560, 1, none⟩ = some (.bool false) := (blk_cell BK560.out 1).trans rfl
   have hfs36 := blk_frozen BK560.out 1
   have hns36_1 := NB572_560.out
   have hms36_1 := NB560_572.out
   have hs37 : w34.cell? ⟨gb560, 2, none⟩ = some (.bool false) := (blk_cell BK560.out 2).trans rfl
   have hfs37 := blk_frozen BK560.out 2
   have hns37_1 := NB572_560.out
   have hms37_1 := NB560_572.out
   have hs38 : w34.cell? ⟨gb560, 3, none⟩ = some (.bool false) := (blk_cell BK560.out 3).trans rfl
   have hfs38 := blk_frozen BK560.out 3
   have hns38_1 := NB572_560.out
   have hms38_1 := NB560_572.out
   have hs39 : w34.cell? ⟨gb560, 4, none⟩ = some (.bool false) := (blk_cell BK560.out 4).trans rfl
   have hfs39 := blk_frozen BK560.out 4
   have hns39_1 := NB572_560.out
   have hms39_1 := NB560_572.out
   refine skip_ (w1 := ?_) (by rfl) rfl ?_ ?_
   rotate_left
   ·go_simp
    rfl
   refine hK.out _ _ ⟨(cf5 NB572_560.out (hHeld.1)), (cf5 NB572_560.out (hHeld.2.1)), (cf5 NB572_560.out (hHeld.2.2.1)), (cf5 NB572_560.out (hHeld.2.2.2.1)), (cf5 NB572_560.out (hHeld.2.2.2.2))⟩ (fun hHeld => ?_)
   clear hK K
   refine done_ (by kernel_rfl) ?_
   try go_wp2
   refine bodyPost_ret (results_tc rfl _ _ gb560 27 #[.bool t561, .bool t567, .bool t568, .bool t569, .bool t570] (0, 0) _ rfl (by (with_reducible repeat first | apply bd | apply be | apply ba); refine blk_put (cs := #[.bool t561, .bool t567, .bool t568, .bool t569, .bool false]) ?_ 4 _ rfl; (with_reducible repeat first | apply bd | apply be | apply ba); refine blk_put (cs := #[.bool t561, .bool t567, .bool t568, .bool false, .bool false]) ?_ 3 _ rfl; (with_reducible repeat first | apply bd | apply be | apply ba); refine blk_put (cs := #[.bool t561, .bool t567, .bool false, .bool false, .bool false]) ?_ 2 _ rfl; (with_reducible repeat first | apply bd | apply be | apply ba); refine blk_put (cs := #[.bool t561, .bool false, .bool false, .bool false, .bool false]) ?_ 1 _ rfl; (with_reducible repeat first | apply bd | apply be | apply ba); refine blk_put (cs := F5) ?_ 0 _ rfl; (with_reducible repeat first | apply bd | apply be | apply ba); exact BK560.out) Try.underlying27 rfl (by kernel_rfl)) rfl ?_
   exact ⟨by first | rfl | (simp [errW_none, errW_some] <;> rfl) | (simp [*, errW_none, errW_some] <;> rfl), bl2 HB.out GE560.out GE572.out⟩
 ·replace c8 := Bool.eq_false_iff.mpr c8
  subst c8
  have H1 : (if t561 = true then ((sum_Bad.f a0).bind fun bt573 => (some (bt573.1, bt573.2.1, bt573.2.2.1, bt573.2.2.2.1, bt573.2.2.2.2.1, bt573.2.2.2.2.2))) else ((format_Neg.f a0 a2).bind fun t579 => ((format_Neg.f a0 a3).bind fun t580 => ((format_IsInf.f k a0 a2).bind fun t581 => (if t581 = true then ((format_IsInf.f k a0 a4).bind fun t582 => (prod_Fma.j0 k a0 a1 a2 a3 a4 (t579 != t580) true t582)) else ((format_IsInf.f k a0 a3).bind fun t583 => ((format_IsInf.f k a0 a4).bind fun t584 => (prod_Fma.j0 k a0 a1 a2 a3 a4 (t579 != t580) t583 t584)))))))) = some (r1, r2, r3, r4, r5, r6) := by rw [if_neg (show ¬ (false = true) by decide)] at H; exact H
  clear H
  have H := H1
  clear H1
  by_cases c40 : t561 = true
  ·subst c40
   have H1 : ((sum_Bad.f a0).bind fun bt573 => (some (bt573.1, bt573.2.1, bt573.2.2.1, bt573.2.2.2.1, bt573.2.2.2.2.1, bt573.2.2.2.2.2))) = some (r1, r2, r3, r4, r5, r6) := by rw [if_pos rfl] at H; exact H
   clear H
   have H := H1
   clear H1
   replace H := Option.bind_eq_some_iff.mp H
   obtain ⟨⟨t573, t574, t575, t576, t577, t578⟩, A410, H⟩ := H
   replace H : (some (t573, t574, t575, t576, t577, t578)) = some (r1, r2, r3, r4, r5, r6) := H
   have A41 := Aside0.mk A410
   clear A410
   simp only [Option.some.injEq, Prod.mk.injEq] at H
   obtain ⟨rfl, rfl, rfl, rfl, rfl, rfl⟩ := H
   go_enter Try.func27, Try.ntmps27
   go_wp2_with (first | ((with_reducible refine gate_dst (N := 11) rfl ?_); refine box_event ?hg (N := 11) ?hd (cs := F5) (t := 27) ?hr ?_; (case hd => rfl); (case hg => rfl); (case hr => first | (go_simp; done) | (go_simp; rfl)); intro gb560 hg w42 hbox hb; have n0_ := Aside0.mk (below_step (bl0 HB.out) hb); have n1_ := Aside0.mk (hbox); have n2_ := Aside0.mk ((by rw [hg]; exact (below_size (bl0 HB.out)) : w.heap.size ≤ gb560)); have n3_ := n2_; clear HB; have HB := n0_; have BK560 := n1_; have GW560 := n2_; have GE560 := n3_; clear n0_ n1_ n2_ n3_; clear hb hbox hg) | ((with_reducible refine gate_callee (f := 47) rfl ?_); refine goesL_ (some 25) rfl rfl Try.func47 (by kernel_rfl) rfl #[.int .i64 a0, .int .u32 a2, .int .u32 a3] rfl gl ?_; (with_reducible refine (prod_torn.calls k a0 a2 a3 true _ A6.out).mono ?_); rintro e w' ⟨rfl, ⟨nd, rfl⟩⟩; refine ⟨_, rfl, ?_⟩; (try (rw [drewN_self w42]; generalize hq_ : World.drewN w42 _ = w42; have n0_ : Aside0 (w42.heap[gb560]? = some (.cells #[.bool false, .bool false, .bool false, .bool false, .bool false] 27 (0, 0))) := ⟨by rw [← hq_]; exact (bv BK560.out)⟩; have n1_ : Aside0 (Below w.heap.size w w42) := ⟨by rw [← hq_]; exact (bl1 HB.out GE560.out)⟩; clear BK560 HB hq_; have BK560 := n0_; have HB := n1_; clear n0_ n1_))) | ((with_reducible refine gate_dst (N := 31) rfl ?_); refine Kd.R_lit (Kd.int .u32) _ 22 ?hg (N := 31) ?hd (xs := ([a2, a3, a4] : List Int)) (inner := [.int .u32 a2, .int .u32 a3, .int .u32 a4]) (ok := fun _ => True) (okp := fun _ => True) ?hr ?hp (fun _ hk => hk) trivial (Below.refl _ _) (Nat.le_refl _) (by simp) ?_; (case hd => rfl); (case hg => rfl); (case hr => first | (go_simp; done) | (go_simp; rfl)); (case hp => exact (Reps.one (show Kd.M (Kd.int .u32) _ _ _ a2 [.int .u32 a2] from rfl) (Reps.one (show Kd.M (Kd.int .u32) _ _ _ a3 [.int .u32 a3] from rfl) (Reps.one (show Kd.M (Kd.int .u32) _ _ _ a4 [.int .u32 a4] from rfl) (Reps.none _ _))))); intro v563 w43 ho44 hb hg_ hnew_; clear hg_ hnew_; (first | rw [← Ny562.out] at ho44 | (simp only [Int.reduceToNat] at ho44; rw [← Ny562.out] at ho44)); have n0_ := Aside0.mk (Kd.R_lower ho44 (below_size (bl1 HB.out GE560.out))); have n1_ := Aside0.mk (blk_below (g := gb560) (o := .cells #[.bool false, .bool false, .bool false, .bool false, .bool false] 27 (0, 0)) (bv BK560.out) hb); have n2_ := Aside0.mk (below_step (bl1 HB.out GE560.out) hb); clear BK560; clear HB; have HO564 := n0_; have BK560 := n1_; have HB := n2_; clear n0_ n1_ n2_; clear hb ho44; obtain ⟨Ao45, co45, eo45⟩ := Kd.R_slice HO564.out; subst eo45) | ((with_reducible refine gate_callee (f := 31) rfl ?_); refine goesL_ (some 32) rfl rfl Try.func31 (by kernel_rfl) rfl #[.int .i64 a0, .slice Ao45 y562.length co45] rfl gl ?_; (with_reducible refine (sum_Nans.calls k a0 _ _ y562 t565 t566 t567 t568 t569 t570 false _ ?side1 ?side2 A7.out).mono ?_); (case side1 => repeat (first | exact (Kd.R_reads' HO564.out).2.2 | (with_reducible refine Kd.C_alloc ?_ _) | (with_reducible refine Kd.C_drewN ?_ _) | (with_reducible refine Kd.C_drew ?_))); (case side2 => exact (Kd.R_reads' HO564.out).2.1); rintro e w46 ⟨rfl, hb⟩; refine ⟨_, rfl, ?_⟩; have n0_ := Aside0.mk (Kd.R_below (by (with_reducible repeat (first | apply Kd.R_alloc | apply Kd.R_drewN | apply Kd.R_drew)); exact HO564.out) hb); have n1_ := Aside0.mk (blk_below (g := gb560) (o := .cells #[.bool false, .bool false, .bool false, .bool false, .bool false] 27 (0, 0)) (bv BK560.out) hb); have n2_ := Aside0.mk (below_step (bl1 HB.out GE560.out) hb); clear HO564; clear BK560; clear HB; have HO564 := n0_; have BK560 := n1_; have HB := n2_; clear n0_ n1_ n2_) | ((with_reducible refine gate_dst (N := 14) rfl ?_); refine box_event ?hg (N := 14) ?hd (cs := F5) (t := 27) ?hr ?_; (case hd => rfl); (case hg => rfl); (case hr => first | (go_simp; done) | (go_simp; rfl)); intro gb572 hg w47 hbox hb; have n0_ := Aside0.mk (Kd.R_below (by (with_reducible repeat (first | apply Kd.R_alloc | apply Kd.R_drewN | apply Kd.R_drew)); exact HO564.out) hb); have n1_ := Aside0.mk (blk_below (g := gb560) (o := .cells #[.bool false, .bool false, .bool false, .bool false, .bool false] 27 (0, 0)) (bv BK560.out) hb); have n2_ := Aside0.mk (below_step (bl1 HB.out GE560.out) hb); have n3_ := Aside0.mk (hbox); have n4_ := Aside0.mk ((by rw [hg]; exact (below_size (bl1 HB.out GE560.out)) : w.heap.size ≤ gb572)); have n5_ := n4_; have n6_ := Aside0.mk ((by rw [hg]; exact Nat.ne_of_lt (blk_lt (g := gb560) (o := .cells F5 27 (0, 0)) (bv BK560.out)) : gb560 ≠ gb572)); have n7_ := Aside0.mk (Ne.symm n6_.out); clear HO564; clear BK560; clear HB; have HO564 := n0_; have BK560 := n1_; have HB := n2_; have BK572 := n3_; have GW572 := n4_; have GE572 := n5_; have NB560_572 := n6_; have NB572_560 := n7_; clear n0_ n1_ n2_ n3_ n4_ n5_ n6_ n7_; clear hb hbox hg; have hnb48 := NB572_560.out; have hnc48 := NB560_572.out; obtain ⟨hcz49_0, hcz49_1, hcz49_2, hcz49_3, hcz49_4⟩ := bc5 BK572.out; obtain ⟨hfz49_0, hfz49_1, hfz49_2, hfz49_3, hfz49_4⟩ := bf5 BK572.out) | ((with_reducible refine gate_callee (f := 48) rfl ?_); refine goesL_ (some 47) rfl rfl Try.func48 (by kernel_rfl) rfl #[.int .i64 a0] rfl gl ?_; (with_reducible refine (sum_Bad.calls a0 t573 t574 t575 t576 t577 t578 _ A41.out).mono ?_); rintro e w50 ⟨rfl, hb⟩; refine ⟨_, rfl, ?_⟩; have n0_ := Aside0.mk (Kd.R_below (by (with_reducible repeat (first | apply Kd.R_alloc | apply Kd.R_drewN | apply Kd.R_drew)); exact (Kd.R_mono (Kd.R_far (p := ⟨gb572, 4, none⟩) (Kd.R_far (p := ⟨gb572, 3, none⟩) (Kd.R_far (p := ⟨gb572, 2, none⟩) (Kd.R_far (p := ⟨gb572, 1, none⟩) (Kd.R_far (p := ⟨gb572, 0, none⟩) (Kd.R_types HO564.out BK572.out (by decide)) (fun _ hk => hk.2) (.bool t566)) (fun _ hk => hk.2) (.bool t567)) (fun _ hk => hk.2) (.bool t568)) (fun _ hk => hk.2) (.bool t569)) (fun _ hk => hk.2) (.bool t570)) (fun _ h_ => h_.1))) hb); have n1_ := Aside0.mk (blk_below (g := gb560) (o := .cells #[.bool false, .bool false, .bool false, .bool false, .bool false] 27 (0, 0)) (by (with_reducible repeat first | apply bd | apply be | apply ba); refine blk_far ?_ NB560_572.out _; (with_reducible repeat first | apply bd | apply be | apply ba); refine blk_far ?_ NB560_572.out _; (with_reducible repeat first | apply bd | apply be | apply ba); refine blk_far ?_ NB560_572.out _; (with_reducible repeat first | apply bd | apply be | apply ba); refine blk_far ?_ NB560_572.out _; (with_reducible repeat first | apply bd | apply be | apply ba); refine blk_far ?_ NB560_572.out _; (with_reducible repeat first | apply bd | apply be | apply ba); exact BK560.out) hb); have n2_ := Aside0.mk (blk_below (g := gb572) (o := .cells #[.bool t566, .bool t567, .bool t568, .bool t569, .bool t570] 27 (0, 0)) (by (with_reducible repeat first | apply bd | apply be | apply ba); refine blk_put (cs := #[.bool t566, .bool t567, .bool t568, .bool t569, .bool false]) ?_ 4 _ rfl; (with_reducible repeat first | apply bd | apply be | apply ba); refine blk_put (cs := #[.bool t566, .bool t567, .bool t568, .bool false, .bool false]) ?_ 3 _ rfl; (with_reducible repeat first | apply bd | apply be | apply ba); refine blk_put (cs := #[.bool t566, .bool t567, .bool false, .bool false, .bool false]) ?_ 2 _ rfl; (with_reducible repeat first | apply bd | apply be | apply ba); refine blk_put (cs := #[.bool t566, .bool false, .bool false, .bool false, .bool false]) ?_ 1 _ rfl; (with_reducible repeat first | apply bd | apply be | apply ba); refine blk_put (cs := F5) ?_ 0 _ rfl; (with_reducible repeat first | apply bd | apply be | apply ba); exact BK572.out) hb); have n3_ := Aside0.mk (below_step (bl2 HB.out GE560.out GE572.out) hb); clear HO564; clear BK560; clear BK572; clear HB; have HO564 := n0_; have BK560 := n1_; have BK572 := n2_; have HB := n3_; clear n0_ n1_ n2_ n3_; obtain ⟨hcz51_0, hcz51_1, hcz51_2, hcz51_3, hcz51_4⟩ := bc5 BK560.out; obtain ⟨hfz51_0, hfz51_1, hfz51_2, hfz51_3, hfz51_4⟩ := bf5 BK560.out))
   refine bodyPost_ret (results_tc rfl _ _ gb560 27 #[.bool t574, .bool t575, .bool t576, .bool t577, .bool t578] (0, 0) _ rfl (by (with_reducible repeat first | apply bd | apply be | apply ba); refine blk_put (cs := #[.bool t574, .bool t575, .bool t576, .bool t577, .bool false]) ?_ 4 _ rfl; (with_reducible repeat first | apply bd | apply be | apply ba); refine blk_put (cs := #[.bool t574, .bool t575, .bool t576, .bool false, .bool false]) ?_ 3 _ rfl; (with_reducible repeat first | apply bd | apply be | apply ba); refine blk_put (cs := #[.bool t574, .bool t575, .bool false, .bool false, .bool false]) ?_ 2 _ rfl; (with_reducible repeat first | apply bd | apply be | apply ba); refine blk_put (cs := #[.bool t574, .bool false, .bool false, .bool false, .bool false]) ?_ 1 _ rfl; (with_reducible repeat first | apply bd | apply be | apply ba); refine blk_put (cs := F5) ?_ 0 _ rfl; (with_reducible repeat first | apply bd | apply be | apply ba); exact BK560.out) Try.underlying27 rfl (by kernel_rfl)) rfl ?_
   exact ⟨by first | rfl | (simp [errW_none, errW_some] <;> rfl) | (simp [*, errW_none, errW_some] <;> rfl), bl2 HB.out GE560.out GE572.out⟩
  ·replace c40 := Bool.eq_false_iff.mpr c40
   subst c40
   have H1 : ((format_Neg.f a0 a2).bind fun t579 => ((format_Neg.f a0 a3).bind fun t580 => ((format_IsInf.f k a0 a2).bind fun t581 => (if t581 = true then ((format_IsInf.f k a0 a4).bind fun t582 => (prod_Fma.j0 k a0 a1 a2 a3 a4 (t579 != t580) true t582)) else ((format_IsInf.f k a0 a3).bind fun t583 => ((format_IsInf.f k a0 a4).bind fun t584 => (prod_Fma.j0 k a0 a1 a2 a3 a4 (t579 != t580) t583 t584))))))) = some (r1, r2, r3, r4, r5, r6) := by rw [if_neg (show ¬ (false = true) by decide)] at H; exact H
   clear H
   have H := H1
   clear H1
   replace H := Option.bind_eq_some_iff.mp H
   obtain ⟨t579, A520, H⟩ := H
   replace H : ((format_Neg.f a0 a3).bind fun t580 => ((format_IsInf.f k a0 a2).bind fun t581 => (if t581 = true then ((format_IsInf.f k a0 a4).bind fun t582 => (prod_Fma.j0 k a0 a1 a2 a3 a4 (t579 != t580) true t582)) else ((format_IsInf.f k a0 a3).bind fun t583 => ((format_IsInf.f k a0 a4).bind fun t584 => (prod_Fma.j0 k a0 a1 a2 a3 a4 (t579 != t580) t583 t584)))))) = some (r1, r2, r3, r4, r5, r6) := H
   have A52 := Aside0.mk A520
   clear A520
   replace H := Option.bind_eq_some_iff.mp H
   obtain ⟨t580, A530, H⟩ := H
   replace H : ((format_IsInf.f k a0 a2).bind fun t581 => (if t581 = true then ((format_IsInf.f k a0 a4).bind fun t582 => (prod_Fma.j0 k a0 a1 a2 a3 a4 (t579 != t580) true t582)) else ((format_IsInf.f k a0 a3).bind fun t583 => ((format_IsInf.f k a0 a4).bind fun t584 => (prod_Fma.j0 k a0 a1 a2 a3 a4 (t579 != t580) t583 t584))))) = some (r1, r2, r3, r4, r5, r6) := H
   have A53 := Aside0.mk A530
   clear A530
   have HC54 := Aside0.mk H
   clear H
   go_enter Try.func27, Try.ntmps27
   go_upto_region 9 with (first | ((with_reducible refine gate_dst (N := 11) rfl ?_); refine box_event ?hg (N := 11) ?hd (cs := F5) (t := 27) ?hr ?_; (case hd => rfl); (case hg => rfl); (case hr => first | (go_simp; done) | (go_simp; rfl)); intro gb560 hg w55 hbox hb; have n0_ := Aside0.mk (below_step (bl0 HB.out) hb); have n1_ := Aside0.mk (hbox); have n2_ := Aside0.mk ((by rw [hg]; exact (below_size (bl0 HB.out)) : w.heap.size ≤ gb560)); have n3_ := n2_; clear HB; have HB := n0_; have BK560 := n1_; have GW560 := n2_; have GE560 := n3_; clear n0_ n1_ n2_ n3_; clear hb hbox hg) | ((with_reducible refine gate_callee (f := 47) rfl ?_); refine goesL_ (some 25) rfl rfl Try.func47 (by kernel_rfl) rfl #[.int .i64 a0, .int .u32 a2, .int .u32 a3] rfl gl ?_; (with_reducible refine (prod_torn.calls k a0 a2 a3 false _ A6.out).mono ?_); rintro e w' ⟨rfl, ⟨nd, rfl⟩⟩; refine ⟨_, rfl, ?_⟩; (try (rw [drewN_self w55]; generalize hq_ : World.drewN w55 _ = w55; have n0_ : Aside0 (w55.heap[gb560]? = some (.cells #[.bool false, .bool false, .bool false, .bool false, .bool false] 27 (0, 0))) := ⟨by rw [← hq_]; exact (bv BK560.out)⟩; have n1_ : Aside0 (Below w.heap.size w w55) := ⟨by rw [← hq_]; exact (bl1 HB.out GE560.out)⟩; clear BK560 HB hq_; have BK560 := n0_; have HB := n1_; clear n0_ n1_))) | ((with_reducible refine gate_dst (N := 31) rfl ?_); refine Kd.R_lit (Kd.int .u32) _ 22 ?hg (N := 31) ?hd (xs := ([a2, a3, a4] : List Int)) (inner := [.int .u32 a2, .int .u32 a3, .int .u32 a4]) (ok := fun _ => True) (okp := fun _ => True) ?hr ?hp (fun _ hk => hk) trivial (Below.refl _ _) (Nat.le_refl _) (by simp) ?_; (case hd => rfl); (case hg => rfl); (case hr => first | (go_simp; done) | (go_simp; rfl)); (case hp => exact (Reps.one (show Kd.M (Kd.int .u32) _ _ _ a2 [.int .u32 a2] from rfl) (Reps.one (show Kd.M (Kd.int .u32) _ _ _ a3 [.int .u32 a3] from rfl) (Reps.one (show Kd.M (Kd.int .u32) _ _ _ a4 [.int .u32 a4] from rfl) (Reps.none _ _))))); intro v563 w56 ho57 hb hg_ hnew_; clear hg_ hnew_; (first | rw [← Ny562.out] at ho57 | (simp only [Int.reduceToNat] at ho57; rw [← Ny562.out] at ho57)); have n0_ := Aside0.mk (Kd.R_lower ho57 (below_size (bl1 HB.out GE560.out))); have n1_ := Aside0.mk (blk_below (g := gb560) (o := .cells #[.bool false, .bool false, .bool false, .bool false, .bool false] 27 (0, 0)) (bv BK560.out) hb); have n2_ := Aside0.mk (below_step (bl1 HB.out GE560.out) hb); clear BK560; clear HB; have HO564 := n0_; have BK560 := n1_; have HB := n2_; clear n0_ n1_ n2_; clear hb ho57; obtain ⟨Ao58, co58, eo58⟩ := Kd.R_slice HO564.out; subst eo58) | ((with_reducible refine gate_callee (f := 31) rfl ?_); refine goesL_ (some 32) rfl rfl Try.func31 (by kernel_rfl) rfl #[.int .i64 a0, .slice Ao58 y562.length co58] rfl gl ?_; (with_reducible refine (sum_Nans.calls k a0 _ _ y562 t565 t566 t567 t568 t569 t570 false _ ?side1 ?side2 A7.out).mono ?_); (case side1 => repeat (first | exact (Kd.R_reads' HO564.out).2.2 | (with_reducible refine Kd.C_alloc ?_ _) | (with_reducible refine Kd.C_drewN ?_ _) | (with_reducible refine Kd.C_drew ?_))); (case side2 => exact (Kd.R_reads' HO564.out).2.1); rintro e w59 ⟨rfl, hb⟩; refine ⟨_, rfl, ?_⟩; have n0_ := Aside0.mk (Kd.R_below (by (with_reducible repeat (first | apply Kd.R_alloc | apply Kd.R_drewN | apply Kd.R_drew)); exact HO564.out) hb); have n1_ := Aside0.mk (blk_below (g := gb560) (o := .cells #[.bool false, .bool false, .bool false, .bool false, .bool false] 27 (0, 0)) (bv BK560.out) hb); have n2_ := Aside0.mk (below_step (bl1 HB.out GE560.out) hb); clear HO564; clear BK560; clear HB; have HO564 := n0_; have BK560 := n1_; have HB := n2_; clear n0_ n1_ n2_) | ((with_reducible refine gate_dst (N := 14) rfl ?_); refine box_event ?hg (N := 14) ?hd (cs := F5) (t := 27) ?hr ?_; (case hd => rfl); (case hg => rfl); (case hr => first | (go_simp; done) | (go_simp; rfl)); intro gb572 hg w60 hbox hb; have n0_ := Aside0.mk (Kd.R_below (by (with_reducible repeat (first | apply Kd.R_alloc | apply Kd.R_drewN | apply Kd.R_drew)); exact HO564.out) hb); have n1_ := Aside0.mk (blk_below (g := gb560) (o := .cells #[.bool false, .bool false, .bool false, .bool false, .bool false] 27 (0, 0)) (bv BK560.out) hb); have n2_ := Aside0.mk (below_step (bl1 HB.out GE560.out) hb); have n3_ := Aside0.mk (hbox); have n4_ := Aside0.mk ((by rw [hg]; exact (below_size (bl1 HB.out GE560.out)) : w.heap.size ≤ gb572)); have n5_ := n4_; have n6_ := Aside0.mk ((by rw [hg]; exact Nat.ne_of_lt (blk_lt (g := gb560) (o := .cells F5 27 (0, 0)) (bv BK560.out)) : gb560 ≠ gb572)); have n7_ := Aside0.mk (Ne.symm n6_.out); clear HO564; clear BK560; clear HB; have HO564 := n0_; have BK560 := n1_; have HB := n2_; have BK572 := n3_; have GW572 := n4_; have GE572 := n5_; have NB560_572 := n6_; have NB572_560 := n7_; clear n0_ n1_ n2_ n3_ n4_ n5_ n6_ n7_; clear hb hbox hg; have hnb61 := NB572_560.out; have hnc61 := NB560_572.out; obtain ⟨hcz62_0, hcz62_1, hcz62_2, hcz62_3, hcz62_4⟩ := bc5 BK572.out; obtain ⟨hfz62_0, hfz62_1, hfz62_2, hfz62_3, hfz62_4⟩ := bf5 BK572.out) | ((with_reducible refine gate_store (t := 27) (p := 14) rfl ?_); refine store_event (t := 27) (p := 14) (v := ?vo_w63) (w1 := (((((w60.setCell ⟨gb572, 0, none⟩ (.bool t566)).setCell ⟨gb572, 1, none⟩ (.bool t567)).setCell ⟨gb572, 2, none⟩ (.bool t568)).setCell ⟨gb572, 3, none⟩ (.bool t569)).setCell ⟨gb572, 4, none⟩ (.bool t570))) ?hg ?ho ?hn ?hr ?_; (case ho => rfl); (case hg => rfl); (case hn => rfl); (case hr => first | (go_simp; done) | (go_simp; rfl)); intro w63 hw; have n0_ : Aside0 (Kd.R (Kd.int .u32) 22 w63 w.heap.size (fun _ => True) (.slice Ao58 y562.length co58) y562) := ⟨(by rw [hw]; exact (by (with_reducible repeat (first | apply Kd.R_alloc | apply Kd.R_drewN | apply Kd.R_drew)); exact Kd.R_mono (Kd.R_far (p := ⟨gb572, 4, none⟩) (Kd.R_far (p := ⟨gb572, 3, none⟩) (Kd.R_far (p := ⟨gb572, 2, none⟩) (Kd.R_far (p := ⟨gb572, 1, none⟩) (Kd.R_far (p := ⟨gb572, 0, none⟩) (Kd.R_types HO564.out BK572.out (by decide)) (fun _ hk => hk.2) (.bool t566)) (fun _ hk => hk.2) (.bool t567)) (fun _ hk => hk.2) (.bool t568)) (fun _ hk => hk.2) (.bool t569)) (fun _ hk => hk.2) (.bool t570)) (fun _ hk => trivial)))⟩; have n1_ : Aside0 (w63.heap[gb560]? = some (.cells #[.bool false, .bool false, .bool false, .bool false, .bool false] 27 (0, 0))) := ⟨(by rw [hw]; exact (by (with_reducible repeat first | apply bd | apply be | apply ba); refine blk_far ?_ NB560_572.out _; (with_reducible repeat first | apply bd | apply be | apply ba); refine blk_far ?_ NB560_572.out _; (with_reducible repeat first | apply bd | apply be | apply ba); refine blk_far ?_ NB560_572.out _; (with_reducible repeat first | apply bd | apply be | apply ba); refine blk_far ?_ NB560_572.out _; (with_reducible repeat first | apply bd | apply be | apply ba); refine blk_far ?_ NB560_572.out _; (with_reducible repeat first | apply bd | apply be | apply ba); exact BK560.out))⟩; have n2_ : Aside0 (w63.heap[gb572]? = some (.cells #[.bool t566, .bool t567, .bool t568, .bool t569, .bool t570] 27 (0, 0))) := ⟨(by rw [hw]; exact (by (with_reducible repeat first | apply bd | apply be | apply ba); refine blk_put (cs := #[.bool t566, .bool t567, .bool t568, .bool t569, .bool false]) ?_ 4 _ rfl; (with_reducible repeat first | apply bd | apply be | apply ba); refine blk_put (cs := #[.bool t566, .bool t567, .bool t568, .bool false, .bool false]) ?_ 3 _ rfl; (with_reducible repeat first | apply bd | apply be | apply ba); refine blk_put (cs := #[.bool t566, .bool t567, .bool false, .bool false, .bool false]) ?_ 2 _ rfl; (with_reducible repeat first | apply bd | apply be | apply ba); refine blk_put (cs := #[.bool t566, .bool false, .bool false, .bool false, .bool false]) ?_ 1 _ rfl; (with_reducible repeat first | apply bd | apply be | apply ba); refine blk_put (cs := F5) ?_ 0 _ rfl; (with_reducible repeat first | apply bd | apply be | apply ba); exact BK572.out))⟩; have n3_ : Aside0 (Below w.heap.size w w63) := ⟨(by rw [hw]; exact (bl2 HB.out GE560.out GE572.out))⟩; clear hw; clear HO564; clear BK560; clear BK572; clear HB; have HO564 := n0_; have BK560 := n1_; have BK572 := n2_; have HB := n3_; clear n0_ n1_ n2_ n3_) | ((with_reducible refine gate_callee (f := 34) rfl ?_); refine goesL_ (some 52) rfl rfl Try.func34 (by kernel_rfl) rfl #[.int .i64 a0, .int .u32 a2] rfl gl ?_; (with_reducible refine (format_Neg.calls a0 a2 t579 _ A52.out).mono ?_); rintro e w' ⟨rfl, ⟨nd, rfl⟩⟩; refine ⟨_, rfl, ?_⟩) | ((with_reducible refine gate_callee (f := 34) rfl ?_); refine goesL_ (some 55) rfl rfl Try.func34 (by kernel_rfl) rfl #[.int .i64 a0, .int .u32 a3] rfl gl ?_; (with_reducible refine (format_Neg.calls a0 a3 t580 _ A53.out).mono ?_); rintro e w' ⟨rfl, ⟨nd, rfl⟩⟩; refine ⟨_, rfl, ?_⟩))
   (try simp only [Act.put, sb, sz, ss])
   go_cut [17, 18] (fun v17 v18 wc => ∃ (kq : Nat) (x17_53 : Bool) (x18_53 : Bool), v17 = .bool x17_53 ∧ v18 = .bool x18_53 ∧ Aside0 (prod_Fma.j0 kq a0 a1 a2 a3 a4 (t579 != t580) x17_53 x18_53 = some (r1, r2, r3, r4, r5, r6)) ∧ Aside0 (kq ≤ k) ∧ Aside0 (wc.heap[gb560]? = some (.cells #[.bool false, .bool false, .bool false, .bool false, .bool false] 27 (0, 0))) ∧ Aside0 (wc.heap[gb572]? = some (.cells #[.bool t566, .bool t567, .bool t568, .bool t569, .bool t570] 27 (0, 0))) ∧ Aside0 (Below w.heap.size w wc))
   case first =>
    have H := HC54.out
    clear HC54
    replace H := Option.bind_eq_some_iff.mp H
    obtain ⟨t581, A640, H⟩ := H
    replace H : (if t581 = true then ((format_IsInf.f k a0 a4).bind fun t582 => (prod_Fma.j0 k a0 a1 a2 a3 a4 (t579 != t580) true t582)) else ((format_IsInf.f k a0 a3).bind fun t583 => ((format_IsInf.f k a0 a4).bind fun t584 => (prod_Fma.j0 k a0 a1 a2 a3 a4 (t579 != t580) t583 t584)))) = some (r1, r2, r3, r4, r5, r6) := H
    have A64 := Aside0.mk A640
    clear A640
    by_cases c65 : t581 = true
    ·subst c65
     have H1 : ((format_IsInf.f k a0 a4).bind fun t582 => (prod_Fma.j0 k a0 a1 a2 a3 a4 (t579 != t580) true t582)) = some (r1, r2, r3, r4, r5, r6) := by rw [if_pos rfl] at H; exact H
     clear H
     have H := H1
     clear H1
     replace H := Option.bind_eq_some_iff.mp H
     obtain ⟨t582, A660, H⟩ := H
     replace H : (prod_Fma.j0 k a0 a1 a2 a3 a4 (t579 != t580) true t582) = some (r1, r2, r3, r4, r5, r6) := H
     have A66 := Aside0.mk A660
     clear A660
     have H' := Aside0.mk H
     clear H
     go_wp2_with (first | ((with_reducible refine gate_callee (f := 32) rfl ?_); refine goesL_ (some 59) rfl rfl Try.func32 (by kernel_rfl) rfl #[.int .i64 a0, .int .u32 a2] rfl gl ?_; (with_reducible refine (format_IsInf.calls k a0 a2 true _ A64.out).mono ?_); rintro e w' ⟨rfl, ⟨nd, rfl⟩⟩; refine ⟨_, rfl, ?_⟩) | ((with_reducible refine gate_callee (f := 32) rfl ?_); refine goesL_ (some 67) rfl rfl Try.func32 (by kernel_rfl) rfl #[.int .i64 a0, .int .u32 a4] rfl gl ?_; (with_reducible refine (format_IsInf.calls k a0 a4 t582 _ A66.out).mono ?_); rintro e w' ⟨rfl, ⟨nd, rfl⟩⟩; refine ⟨_, rfl, ?_⟩))
     go_meet
     case rel => exact ⟨_, (true), (t582), (by first | rfl | (simp; done) | (simp [*]; done) | (congr 1; (try unfold wrap64); omega) | (congr 1; rw [IntKind.wrap_u64]; omega)), (by first | rfl | (simp; done) | (simp [*]; done) | (congr 1; (try unfold wrap64); omega) | (congr 1; rw [IntKind.wrap_u64]; omega)), H', ⟨by first | omega | exact Nat.le_refl _⟩, ⟨by (with_reducible repeat first | apply bd | apply be | apply ba); exact BK560.out⟩, ⟨by (with_reducible repeat first | apply bd | apply be | apply ba); exact BK572.out⟩, ⟨bl2 HB.out GE560.out GE572.out⟩⟩
    ·replace c65 := Bool.eq_false_iff.mpr c65
     subst c65
     have H1 : ((format_IsInf.f k a0 a3).bind fun t583 => ((format_IsInf.f k a0 a4).bind fun t584 => (prod_Fma.j0 k a0 a1 a2 a3 a4 (t579 != t580) t583 t584))) = some (r1, r2, r3, r4, r5, r6) := by rw [if_neg (show ¬ (false = true) by decide)] at H; exact H
     clear H
     have H := H1
     clear H1
     replace H := Option.bind_eq_some_iff.mp H
     obtain ⟨t583, A670, H⟩ := H
     replace H : ((format_IsInf.f k a0 a4).bind fun t584 => (prod_Fma.j0 k a0 a1 a2 a3 a4 (t579 != t580) t583 t584)) = some (r1, r2, r3, r4, r5, r6) := H
     have A67 := Aside0.mk A670
     clear A670
     replace H := Option.bind_eq_some_iff.mp H
     obtain ⟨t584, A680, H⟩ := H
     replace H : (prod_Fma.j0 k a0 a1 a2 a3 a4 (t579 != t580) t583 t584) = some (r1, r2, r3, r4, r5, r6) := H
     have A68 := Aside0.mk A680
     clear A680
     have H' := Aside0.mk H
     clear H
     go_wp2_with (first | ((with_reducible refine gate_callee (f := 32) rfl ?_); refine goesL_ (some 59) rfl rfl Try.func32 (by kernel_rfl) rfl #[.int .i64 a0, .int .u32 a2] rfl gl ?_; (with_reducible refine (format_IsInf.calls k a0 a2 false _ A64.out).mono ?_); rintro e w' ⟨rfl, ⟨nd, rfl⟩⟩; refine ⟨_, rfl, ?_⟩) | (go_at_call 32; (with_reducible refine (format_IsInf.calls k a0 a3 t583 _ A67.out).mono ?_); rintro e w' ⟨rfl, ⟨nd, rfl⟩⟩) | ((with_reducible refine gate_callee (f := 32) rfl ?_); refine goesL_ (some 67) rfl rfl Try.func32 (by kernel_rfl) rfl #[.int .i64 a0, .int .u32 a4] rfl gl ?_; (with_reducible refine (format_IsInf.calls k a0 a4 t584 _ A68.out).mono ?_); rintro e w' ⟨rfl, ⟨nd, rfl⟩⟩; refine ⟨_, rfl, ?_⟩))
     go_meet
     case rel => exact ⟨_, (t583), (t584), (by first | rfl | (simp; done) | (simp [*]; done) | (congr 1; (try unfold wrap64); omega) | (congr 1; rw [IntKind.wrap_u64]; omega)), (by first | rfl | (simp; done) | (simp [*]; done) | (congr 1; (try unfold wrap64); omega) | (congr 1; rw [IntKind.wrap_u64]; omega)), H', ⟨by first | omega | exact Nat.le_refl _⟩, ⟨by (with_reducible repeat first | apply bd | apply be | apply ba); exact BK560.out⟩, ⟨by (with_reducible repeat first | apply bd | apply be | apply ba); exact BK572.out⟩, ⟨bl2 HB.out GE560.out GE572.out⟩⟩
   case rest =>
    clear HC54
    try clear c1 c2 p2 c3 c4 c6 p6 c8 c9 c16 c27 c31 c32 c34 c40 c47 c48 c61 p64 c65 hcz17_0 hcz17_1 hcz17_2 hcz17_3 hcz17_4 hcz32_0 hcz32_1 hcz32_2 hcz32_3 hcz32_4 hcz49_0 hcz49_1 hcz49_2 hcz49_3 hcz49_4 hcz51_0 hcz51_1 hcz51_2 hcz51_3 hcz51_4 hcz62_0 hcz62_1 hcz62_2 hcz62_3 hcz62_4 hfz17_0 hfz17_1 hfz17_2 hfz17_3 hfz17_4 hfz32_0 hfz32_1 hfz32_2 hfz32_3 hfz32_4 hfz49_0 hfz49_1 hfz49_2 hfz49_3 hfz49_4 hfz51_0 hfz51_1 hfz51_2 hfz51_3 hfz51_4 hfz62_0 hfz62_1 hfz62_2 hfz62_3 hfz62_4
    obtain ⟨kq, x17_53, x18_53, rfl, rfl, HA, HJ53, BK560, BK572, HB⟩ := hcut
    cases kq with
    |zero => exact absurd HA.out (by simp [prod_Fma.j0])
    |succ kj53 =>
     have H := HA.out
     clear HA
     simp only [prod_Fma.j0] at H
     have HC69 := Aside0.mk H
     clear H
     go_upto_region 10 with (fail)
     go_cut [71] (fun v71 wc => ∃ (kq : Nat) (x71_68 : Bool), v71 = .bool x71_68 ∧ Aside0 (prod_Fma.j1 kq a0 a1 a2 a3 a4 (t579 != t580) x17_53 x18_53 x71_68 = some (r1, r2, r3, r4, r5, r6)) ∧ Aside0 (kq ≤ kj53) ∧ Aside0 (wc.heap[gb560]? = some (.cells #[.bool false, .bool false, .bool false, .bool false, .bool false] 27 (0, 0))) ∧ Aside0 (wc.heap[gb572]? = some (.cells #[.bool t566, .bool t567, .bool t568, .bool t569, .bool t570] 27 (0, 0))) ∧ Aside0 (Below w.heap.size w wc))
     case first =>
      have H := HC69.out
      clear HC69
      by_cases c70 : x17_53 = true
      ·subst c70
       have H1 : (prod_Fma.j1 kj53 a0 a1 a2 a3 a4 (t579 != t580) true x18_53 true) = some (r1, r2, r3, r4, r5, r6) := by rw [if_pos rfl] at H; exact H
       clear H
       have H := H1
       clear H1
       have H' := Aside0.mk H
       clear H
       go_wp2
       go_meet
       case rel => exact ⟨_, (true), (by first | rfl | (simp; done) | (simp [*]; done) | (congr 1; (try unfold wrap64); omega) | (congr 1; rw [IntKind.wrap_u64]; omega)), H', ⟨by have := HJ53.out; first | omega | exact Nat.le_refl _⟩, ⟨by (with_reducible repeat first | apply bd | apply be | apply ba); exact BK560.out⟩, ⟨by (with_reducible repeat first | apply bd | apply be | apply ba); exact BK572.out⟩, ⟨bl2 HB.out GE560.out GE572.out⟩⟩
      ·replace c70 := Bool.eq_false_iff.mpr c70
       subst c70
       have H1 : (prod_Fma.j1 kj53 a0 a1 a2 a3 a4 (t579 != t580) false x18_53 x18_53) = some (r1, r2, r3, r4, r5, r6) := by rw [if_neg (show ¬ (false = true) by decide)] at H; exact H
       clear H
       have H := H1
       clear H1
       have H' := Aside0.mk H
       clear H
       go_wp2
       go_meet
       case rel => exact ⟨_, (x18_53), (by first | rfl | (simp; done) | (simp [*]; done) | (congr 1; (try unfold wrap64); omega) | (congr 1; rw [IntKind.wrap_u64]; omega)), H', ⟨by have := HJ53.out; first | omega | exact Nat.le_refl _⟩, ⟨by (with_reducible repeat first | apply bd | apply be | apply ba); exact BK560.out⟩, ⟨by (with_reducible repeat first | apply bd | apply be | apply ba); exact BK572.out⟩, ⟨bl2 HB.out GE560.out GE572.out⟩⟩
     case rest =>
      clear HC69
      try clear c1 c2 p2 c3 c4 c6 p6 c7 c8 c9 c16 c27 c31 c32 c34 c40 c47 c48 c61 p64 c65 c70 hcz17_0 hcz17_1 hcz17_2 hcz17_3 hcz17_4 hcz32_0 hcz32_1 hcz32_2 hcz32_3 hcz32_4 hcz49_0 hcz49_1 hcz49_2 hcz49_3 hcz49_4 hcz51_0 hcz51_1 hcz51_2 hcz51_3 hcz51_4 hcz62_0 hcz62_1 hcz62_2 hcz62_3 hcz62_4 hfz17_0 hfz17_1 hfz17_2 hfz17_3 hfz17_4 hfz32_0 hfz32_1 hfz32_2 hfz32_3 hfz32_4 hfz49_0 hfz49_1 hfz49_2 hfz49_3 hfz49_4 hfz51_0 hfz51_1 hfz51_2 hfz51_3 hfz51_4 hfz62_0 hfz62_1 hfz62_2 hfz62_3 hfz62_4 p2 p6 p64
      obtain ⟨kq, x71_68, rfl, HA, HJ68, BK560, BK572, HB⟩ := hcut
      cases kq with
      |zero => exact absurd HA.out (by simp [prod_Fma.j1])
      |succ kj68 =>
       have H := HA.out
       clear HA
       simp only [prod_Fma.j1] at H
       by_cases c71 : x71_68 = true
       ·subst c71
        have H1 : ((format_Neg.f a0 a4).bind fun t585 => ((sum_Infinite.f kj68 a0 (t579 != t580) t585 x17_53 x18_53).bind fun bt586 => (some (bt586.1, bt586.2.1, bt586.2.2.1, bt586.2.2.2.1, bt586.2.2.2.2.1, bt586.2.2.2.2.2)))) = some (r1, r2, r3, r4, r5, r6) := by rw [if_pos rfl] at H; exact H
        clear H
        have H := H1
        clear H1
        replace H := Option.bind_eq_some_iff.mp H
        obtain ⟨t585, A720, H⟩ := H
        replace H : ((sum_Infinite.f kj68 a0 (t579 != t580) t585 x17_53 x18_53).bind fun bt586 => (some (bt586.1, bt586.2.1, bt586.2.2.1, bt586.2.2.2.1, bt586.2.2.2.2.1, bt586.2.2.2.2.2))) = some (r1, r2, r3, r4, r5, r6) := H
        have A72 := Aside0.mk A720
        clear A720
        replace H := Option.bind_eq_some_iff.mp H
        obtain ⟨⟨t586, t587, t588, t589, t590, t591⟩, A730, H⟩ := H
        replace H : (some (t586, t587, t588, t589, t590, t591)) = some (r1, r2, r3, r4, r5, r6) := H
        have A73 := Aside0.mk A730
        clear A730
        simp only [Option.some.injEq, Prod.mk.injEq] at H
        obtain ⟨rfl, rfl, rfl, rfl, rfl, rfl⟩ := H
        go_wp2_with (first | ((with_reducible refine gate_callee (f := 34) rfl ?_); refine goesL_ (some 76) rfl rfl Try.func34 (by kernel_rfl) rfl #[.int .i64 a0, .int .u32 a4] rfl gl ?_; (with_reducible refine (format_Neg.calls a0 a4 t585 _ A72.out).mono ?_); rintro e w' ⟨rfl, ⟨nd, rfl⟩⟩; refine ⟨_, rfl, ?_⟩; (try (rw [drewN_self wc]; generalize hq_ : World.drewN wc _ = wc; have n0_ : Aside0 (wc.heap[gb560]? = some (.cells #[.bool false, .bool false, .bool false, .bool false, .bool false] 27 (0, 0))) := ⟨by rw [← hq_]; exact (bv BK560.out)⟩; have n1_ : Aside0 (wc.heap[gb572]? = some (.cells #[.bool t566, .bool t567, .bool t568, .bool t569, .bool t570] 27 (0, 0))) := ⟨by rw [← hq_]; exact (bv BK572.out)⟩; have n2_ : Aside0 (Below w.heap.size w wc) := ⟨by rw [← hq_]; exact (bl2 HB.out GE560.out GE572.out)⟩; clear BK560 BK572 HB hq_; have BK560 := n0_; have BK572 := n1_; have HB := n2_; clear n0_ n1_ n2_))) | ((with_reducible refine gate_callee (f := 33) rfl ?_); refine goesL_ (some 79) rfl rfl Try.func33 (by kernel_rfl) rfl #[.int .i64 a0, .bool (t579 != t580), .bool t585, .bool x17_53, .bool x18_53] rfl gl ?_; (with_reducible refine (sum_Infinite.calls kj68 a0 (t579 != t580) t585 x17_53 x18_53 t586 t587 t588 t589 t590 t591 _ A73.out).mono ?_); rintro e w74 ⟨rfl, hb⟩; refine ⟨_, rfl, ?_⟩; have n0_ := Aside0.mk (blk_below (g := gb560) (o := .cells #[.bool false, .bool false, .bool false, .bool false, .bool false] 27 (0, 0)) (bv BK560.out) hb); have n1_ := Aside0.mk (blk_below (g := gb572) (o := .cells #[.bool t566, .bool t567, .bool t568, .bool t569, .bool t570] 27 (0, 0)) (bv BK572.out) hb); have n2_ := Aside0.mk (below_step (bl2 HB.out GE560.out GE572.out) hb); clear BK560; clear BK572; clear HB; have BK560 := n0_; have BK572 := n1_; have HB := n2_; clear n0_ n1_ n2_; have hnb75 := NB560_572.out; have hnc75 := NB572_560.out; obtain ⟨hcz76_0, hcz76_1, hcz76_2, hcz76_3, hcz76_4⟩ := bc5 BK560.out; obtain ⟨hfz76_0, hfz76_1, hfz76_2, hfz76_3, hfz76_4⟩ := bf5 BK560.out))
        refine bodyPost_ret (results_tc rfl _ _ gb560 27 #[.bool t587, .bool t588, .bool t589, .bool t590, .bool t591] (0, 0) _ rfl (by (with_reducible repeat first | apply bd | apply be | apply ba); refine blk_put (cs := #[.bool t587, .bool t588, .bool t589, .bool t590, .bool false]) ?_ 4 _ rfl; (with_reducible repeat first | apply bd | apply be | apply ba); refine blk_put (cs := #[.bool t587, .bool t588, .bool t589, .bool false, .bool false]) ?_ 3 _ rfl; (with_reducible repeat first | apply bd | apply be | apply ba); refine blk_put (cs := #[.bool t587, .bool t588, .bool false, .bool false, .bool false]) ?_ 2 _ rfl; (with_reducible repeat first | apply bd | apply be | apply ba); refine blk_put (cs := #[.bool t587, .bool false, .bool false, .bool false, .bool false]) ?_ 1 _ rfl; (with_reducible repeat first | apply bd | apply be | apply ba); refine blk_put (cs := F5) ?_ 0 _ rfl; (with_reducible repeat first | apply bd | apply be | apply ba); exact BK560.out) Try.underlying27 rfl (by kernel_rfl)) rfl ?_
        exact ⟨by first | rfl | (simp [errW_none, errW_some] <;> rfl) | (simp [*, errW_none, errW_some] <;> rfl), bl2 HB.out GE560.out GE572.out⟩
       ·replace c71 := Bool.eq_false_iff.mpr c71
        subst c71
        have H1 : ((prod_product.f a0 a2 a3).bind fun bt592 => ((sum_Of.f a0 a4).bind fun bt596 => ((sum_Exact.f kj68 bt592.1 bt592.2.1 bt592.2.2.1 bt592.2.2.2 bt596.1 bt596.2.1 bt596.2.2.1 bt596.2.2.2).bind fun bt602 => (if bt602.2.2.1 = 0 then (prod_Fma.j2 kj68 a0 a1 (t579 != t580) (!bt602.2.2.2) bt596.1 bt596.2.1 bt596.2.2.1 bt596.2.2.2 bt602.1 bt602.2.1 bt602.2.2.1 bt602.2.2.2) else (prod_Fma.j2 kj68 a0 a1 (t579 != t580) false bt596.1 bt596.2.1 bt596.2.2.1 bt596.2.2.2 bt602.1 bt602.2.1 bt602.2.2.1 bt602.2.2.2))))) = some (r1, r2, r3, r4, r5, r6) := by rw [if_neg (show ¬ (false = true) by decide)] at H; exact H
        clear H
        have H := H1
        clear H1
        replace H := Option.bind_eq_some_iff.mp H
        obtain ⟨⟨t592, t593, t594, t595⟩, A770, H⟩ := H
        replace H : ((sum_Of.f a0 a4).bind fun bt596 => ((sum_Exact.f kj68 t592 t593 t594 t595 bt596.1 bt596.2.1 bt596.2.2.1 bt596.2.2.2).bind fun bt602 => (if bt602.2.2.1 = 0 then (prod_Fma.j2 kj68 a0 a1 (t579 != t580) (!bt602.2.2.2) bt596.1 bt596.2.1 bt596.2.2.1 bt596.2.2.2 bt602.1 bt602.2.1 bt602.2.2.1 bt602.2.2.2) else (prod_Fma.j2 kj68 a0 a1 (t579 != t580) false bt596.1 bt596.2.1 bt596.2.2.1 bt596.2.2.2 bt602.1 bt602.2.1 bt602.2.2.1 bt602.2.2.2)))) = some (r1, r2, r3, r4, r5, r6) := H
        have A77 := Aside0.mk A770
        clear A770
        replace H := Option.bind_eq_some_iff.mp H
        obtain ⟨⟨t596, t597, t598, t599⟩, A780, H⟩ := H
        replace H : ((sum_Exact.f kj68 t592 t593 t594 t595 t596 t597 t598 t599).bind fun bt602 => (if bt602.2.2.1 = 0 then (prod_Fma.j2 kj68 a0 a1 (t579 != t580) (!bt602.2.2.2) t596 t597 t598 t599 bt602.1 bt602.2.1 bt602.2.2.1 bt602.2.2.2) else (prod_Fma.j2 kj68 a0 a1 (t579 != t580) false t596 t597 t598 t599 bt602.1 bt602.2.1 bt602.2.2.1 bt602.2.2.2))) = some (r1, r2, r3, r4, r5, r6) := H
        have A78 := Aside0.mk A780
        clear A780
        replace H := Option.bind_eq_some_iff.mp H
        obtain ⟨⟨t602, t603, t604, t605⟩, A790, H⟩ := H
        replace H : (if t604 = 0 then (prod_Fma.j2 kj68 a0 a1 (t579 != t580) (!t605) t596 t597 t598 t599 t602 t603 t604 t605) else (prod_Fma.j2 kj68 a0 a1 (t579 != t580) false t596 t597 t598 t599 t602 t603 t604 t605)) = some (r1, r2, r3, r4, r5, r6) := H
        have A79 := Aside0.mk A790
        clear A790
        have HC80 := Aside0.mk H
        clear H
        go_upto_region 14 with (first | ((with_reducible refine gate_callee (f := 50) rfl ?_); refine goesL_ (some 85) rfl rfl Try.func50 (by kernel_rfl) rfl #[.int .i64 a0, .int .u32 a2, .int .u32 a3] rfl gl ?_; (with_reducible refine (prod_product.calls a0 a2 a3 t592 t593 t594 t595 _ A77.out).mono ?_); rintro e w81 ⟨rfl, hb⟩; refine ⟨_, rfl, ?_⟩; have n0_ := Aside0.mk (blk_below (g := gb560) (o := .cells #[.bool false, .bool false, .bool false, .bool false, .bool false] 27 (0, 0)) (bv BK560.out) hb); have n1_ := Aside0.mk (blk_below (g := gb572) (o := .cells #[.bool t566, .bool t567, .bool t568, .bool t569, .bool t570] 27 (0, 0)) (bv BK572.out) hb); have n2_ := Aside0.mk (below_step (bl2 HB.out GE560.out GE572.out) hb); clear BK560; clear BK572; clear HB; have BK560 := n0_; have BK572 := n1_; have HB := n2_; clear n0_ n1_ n2_) | ((with_reducible refine gate_callee (f := 35) rfl ?_); refine goesL_ (some 88) rfl rfl Try.func35 (by kernel_rfl) rfl #[.int .i64 a0, .int .u32 a4] rfl gl ?_; (with_reducible refine (sum_Of.calls a0 a4 t596 t597 t598 t599 _ A78.out).mono ?_); rintro e w82 ⟨rfl, hb⟩; refine ⟨_, rfl, ?_⟩; have n0_ := Aside0.mk (blk_below (g := gb560) (o := .cells #[.bool false, .bool false, .bool false, .bool false, .bool false] 27 (0, 0)) (bv BK560.out) hb); have n1_ := Aside0.mk (blk_below (g := gb572) (o := .cells #[.bool t566, .bool t567, .bool t568, .bool t569, .bool t570] 27 (0, 0)) (bv BK572.out) hb); have n2_ := Aside0.mk (below_step (bl2 HB.out GE560.out GE572.out) hb); clear BK560; clear BK572; clear HB; have BK560 := n0_; have BK572 := n1_; have HB := n2_; clear n0_ n1_ n2_) | ((with_reducible refine gate_dst (N := 19) rfl ?_); refine box_event ?hg (N := 19) ?hd (cs := #[.bool false, .int .i64 0, .int .u64 0, .bool false]) (t := 56) ?hr ?_; (case hd => rfl); (case hg => rfl); (case hr => first | (go_simp; done) | (go_simp; rfl)); intro gb600 hg w83 hbox hb; have n0_ := Aside0.mk (blk_below (g := gb560) (o := .cells #[.bool false, .bool false, .bool false, .bool false, .bool false] 27 (0, 0)) (bv BK560.out) hb); have n1_ := Aside0.mk (blk_below (g := gb572) (o := .cells #[.bool t566, .bool t567, .bool t568, .bool t569, .bool t570] 27 (0, 0)) (bv BK572.out) hb); have n2_ := Aside0.mk (below_step (bl2 HB.out GE560.out GE572.out) hb); have n3_ := Aside0.mk (hbox); have n4_ := Aside0.mk ((by rw [hg]; exact (below_size (bl2 HB.out GE560.out GE572.out)) : w.heap.size ≤ gb600)); have n5_ := n4_; have n6_ := Aside0.mk ((by rw [hg]; exact Nat.ne_of_lt (blk_lt (g := gb560) (o := .cells F5 27 (0, 0)) (bv BK560.out)) : gb560 ≠ gb600)); have n7_ := Aside0.mk (Ne.symm n6_.out); have n8_ := Aside0.mk ((by rw [hg]; exact Nat.ne_of_lt (blk_lt (g := gb572) (o := .cells #[.bool t566, .bool t567, .bool t568, .bool t569, .bool t570] 27 (0, 0)) (bv BK572.out)) : gb572 ≠ gb600)); have n9_ := Aside0.mk (Ne.symm n8_.out); clear BK560; clear BK572; clear HB; have BK560 := n0_; have BK572 := n1_; have HB := n2_; have BK600 := n3_; have GW600 := n4_; have GE600 := n5_; have NB560_600 := n6_; have NB600_560 := n7_; have NB572_600 := n8_; have NB600_572 := n9_; clear n0_ n1_ n2_ n3_ n4_ n5_ n6_ n7_ n8_ n9_; clear hb hbox hg) | ((with_reducible refine gate_dst (N := 20) rfl ?_); refine box_event ?hg (N := 20) ?hd (cs := #[.bool false, .int .i64 0, .int .u64 0, .bool false]) (t := 56) ?hr ?_; (case hd => rfl); (case hg => rfl); (case hr => first | (go_simp; done) | (go_simp; rfl)); intro gb601 hg w84 hbox hb; have n0_ := Aside0.mk (blk_below (g := gb560) (o := .cells #[.bool false, .bool false, .bool false, .bool false, .bool false] 27 (0, 0)) (bv BK560.out) hb); have n1_ := Aside0.mk (blk_below (g := gb572) (o := .cells #[.bool t566, .bool t567, .bool t568, .bool t569, .bool t570] 27 (0, 0)) (bv BK572.out) hb); have n2_ := Aside0.mk (blk_below (g := gb600) (o := .cells #[.bool false, .int .i64 0, .int .u64 0, .bool false] 56 (0, 0)) (bv BK600.out) hb); have n3_ := Aside0.mk (below_step (bl3 HB.out GE560.out GE572.out GE600.out) hb); have n4_ := Aside0.mk (hbox); have n5_ := Aside0.mk ((by rw [hg]; exact (below_size (bl3 HB.out GE560.out GE572.out GE600.out)) : w.heap.size ≤ gb601)); have n6_ := n5_; have n7_ := Aside0.mk ((by rw [hg]; exact Nat.ne_of_lt (blk_lt (g := gb560) (o := .cells F5 27 (0, 0)) (bv BK560.out)) : gb560 ≠ gb601)); have n8_ := Aside0.mk (Ne.symm n7_.out); have n9_ := Aside0.mk ((by rw [hg]; exact Nat.ne_of_lt (blk_lt (g := gb572) (o := .cells #[.bool t566, .bool t567, .bool t568, .bool t569, .bool t570] 27 (0, 0)) (bv BK572.out)) : gb572 ≠ gb601)); have n10_ := Aside0.mk (Ne.symm n9_.out); have n11_ := Aside0.mk ((by rw [hg]; exact Nat.ne_of_lt (blk_lt (g := gb600) (o := .cells #[.bool false, .int .i64 0, .int .u64 0, .bool false] 56 (0, 0)) (bv BK600.out)) : gb600 ≠ gb601)); have n12_ := Aside0.mk (Ne.symm n11_.out); clear BK560; clear BK572; clear BK600; clear HB; have BK560 := n0_; have BK572 := n1_; have BK600 := n2_; have HB := n3_; have BK601 := n4_; have GW601 := n5_; have GE601 := n6_; have NB560_601 := n7_; have NB601_560 := n8_; have NB572_601 := n9_; have NB601_572 := n10_; have NB600_601 := n11_; have NB601_600 := n12_; clear n0_ n1_ n2_ n3_ n4_ n5_ n6_ n7_ n8_ n9_ n10_ n11_ n12_; clear hb hbox hg; have hnb85 := NB600_560.out; have hnc85 := NB560_600.out; have hnb86 := NB600_572.out; have hnc86 := NB572_600.out; have hnb87 := NB600_601.out; have hnc87 := NB601_600.out; obtain ⟨hcz88_0, hcz88_1, hcz88_2, hcz88_3⟩ := bc4 BK600.out; obtain ⟨hfz88_0, hfz88_1, hfz88_2, hfz88_3⟩ := bf4 BK600.out; have hnb89 := NB601_560.out; have hnc89 := NB560_601.out; have hnb90 := NB601_572.out; have hnc90 := NB572_601.out; obtain ⟨hcz91_0, hcz91_1, hcz91_2, hcz91_3⟩ := bc4 BK601.out; obtain ⟨hfz91_0, hfz91_1, hfz91_2, hfz91_3⟩ := bf4 BK601.out) | ((with_reducible refine gate_callee (f := 36) rfl ?_); refine goesL_ (some 91) rfl rfl Try.func36 (by kernel_rfl) rfl #[.agg #[.bool t592, .int .i64 t593, .int .u64 t594, .bool t595], .agg #[.bool t596, .int .i64 t597, .int .u64 t598, .bool t599]] rfl gl ?_; (with_reducible refine (sum_Exact.calls kj68 t592 t593 t594 t595 t596 t597 t598 t599 t602 t603 t604 t605 _ A79.out).mono ?_); rintro e w92 ⟨rfl, hb⟩; refine ⟨_, rfl, ?_⟩; have n0_ := Aside0.mk (blk_below (g := gb560) (o := .cells #[.bool false, .bool false, .bool false, .bool false, .bool false] 27 (0, 0)) (by (with_reducible repeat first | apply bd | apply be | apply ba); refine blk_far ?_ NB560_601.out _; (with_reducible repeat first | apply bd | apply be | apply ba); refine blk_far ?_ NB560_601.out _; (with_reducible repeat first | apply bd | apply be | apply ba); refine blk_far ?_ NB560_601.out _; (with_reducible repeat first | apply bd | apply be | apply ba); refine blk_far ?_ NB560_601.out _; (with_reducible repeat first | apply bd | apply be | apply ba); refine blk_far ?_ NB560_600.out _; (with_reducible repeat first | apply bd | apply be | apply ba); refine blk_far ?_ NB560_600.out _; (with_reducible repeat first | apply bd | apply be | apply ba); refine blk_far ?_ NB560_600.out _; (with_reducible repeat first | apply bd | apply be | apply ba); refine blk_far ?_ NB560_600.out _; (with_reducible repeat first | apply bd | apply be | apply ba); exact BK560.out) hb); have n1_ := Aside0.mk (blk_below (g := gb572) (o := .cells #[.bool t566, .bool t567, .bool t568, .bool t569, .bool t570] 27 (0, 0)) (by (with_reducible repeat first | apply bd | apply be | apply ba); refine blk_far ?_ NB572_601.out _; (with_reducible repeat first | apply bd | apply be | apply ba); refine blk_far ?_ NB572_601.out _; (with_reducible repeat first | apply bd | apply be | apply ba); refine blk_far ?_ NB572_601.out _; (with_reducible repeat first | apply bd | apply be | apply ba); refine blk_far ?_ NB572_601.out _; (with_reducible repeat first | apply bd | apply be | apply ba); refine blk_far ?_ NB572_600.out _; (with_reducible repeat first | apply bd | apply be | apply ba); refine blk_far ?_ NB572_600.out _; (with_reducible repeat first | apply bd | apply be | apply ba); refine blk_far ?_ NB572_600.out _; (with_reducible repeat first | apply bd | apply be | apply ba); refine blk_far ?_ NB572_600.out _; (with_reducible repeat first | apply bd | apply be | apply ba); exact BK572.out) hb); have n2_ := Aside0.mk (blk_below (g := gb600) (o := .cells #[.bool t592, .int .i64 t593, .int .u64 t594, .bool t595] 56 (0, 0)) (by (with_reducible repeat first | apply bd | apply be | apply ba); refine blk_far ?_ NB600_601.out _; (with_reducible repeat first | apply bd | apply be | apply ba); refine blk_far ?_ NB600_601.out _; (with_reducible repeat first | apply bd | apply be | apply ba); refine blk_far ?_ NB600_601.out _; (with_reducible repeat first | apply bd | apply be | apply ba); refine blk_far ?_ NB600_601.out _; (with_reducible repeat first | apply bd | apply be | apply ba); refine blk_put (cs := #[.bool t592, .int .i64 t593, .int .u64 t594, .bool false]) ?_ 3 _ rfl; (with_reducible repeat first | apply bd | apply be | apply ba); refine blk_put (cs := #[.bool t592, .int .i64 t593, .int .u64 0, .bool false]) ?_ 2 _ rfl; (with_reducible repeat first | apply bd | apply be | apply ba); refine blk_put (cs := #[.bool t592, .int .i64 0, .int .u64 0, .bool false]) ?_ 1 _ rfl; (with_reducible repeat first | apply bd | apply be | apply ba); refine blk_put (cs := #[.bool false, .int .i64 0, .int .u64 0, .bool false]) ?_ 0 _ rfl; (with_reducible repeat first | apply bd | apply be | apply ba); exact BK600.out) hb); have n3_ := Aside0.mk (blk_below (g := gb601) (o := .cells #[.bool t596, .int .i64 t597, .int .u64 t598, .bool t599] 56 (0, 0)) (by (with_reducible repeat first | apply bd | apply be | apply ba); refine blk_put (cs := #[.bool t596, .int .i64 t597, .int .u64 t598, .bool false]) ?_ 3 _ rfl; (with_reducible repeat first | apply bd | apply be | apply ba); refine blk_put (cs := #[.bool t596, .int .i64 t597, .int .u64 0, .bool false]) ?_ 2 _ rfl; (with_reducible repeat first | apply bd | apply be | apply ba); refine blk_put (cs := #[.bool t596, .int .i64 0, .int .u64 0, .bool false]) ?_ 1 _ rfl; (with_reducible repeat first | apply bd | apply be | apply ba); refine blk_put (cs := #[.bool false, .int .i64 0, .int .u64 0, .bool false]) ?_ 0 _ rfl; (with_reducible repeat first | apply bd | apply be | apply ba); refine blk_far ?_ NB601_600.out _; (with_reducible repeat first | apply bd | apply be | apply ba); refine blk_far ?_ NB601_600.out _; (with_reducible repeat first | apply bd | apply be | apply ba); refine blk_far ?_ NB601_600.out _; (with_reducible repeat first | apply bd | apply be | apply ba); refine blk_far ?_ NB601_600.out _; (with_reducible repeat first | apply bd | apply be | apply ba); exact BK601.out) hb); have n4_ := Aside0.mk (below_step (bl4 HB.out GE560.out GE572.out GE600.out GE601.out) hb); clear BK560; clear BK572; clear BK600; clear BK601; clear HB; have BK560 := n0_; have BK572 := n1_; have BK600 := n2_; have BK601 := n3_; have HB := n4_; clear n0_ n1_ n2_ n3_ n4_) | ((with_reducible refine gate_dst (N := 21) rfl ?_); refine box_event ?hg (N := 21) ?hd (cs := #[.bool false, .int .i64 0, .int .u64 0, .bool false]) (t := 56) ?hr ?_; (case hd => rfl); (case hg => rfl); (case hr => first | (go_simp; done) | (go_simp; rfl)); intro gb606 hg w93 hbox hb; have n0_ := Aside0.mk (blk_below (g := gb560) (o := .cells #[.bool false, .bool false, .bool false, .bool false, .bool false] 27 (0, 0)) (bv BK560.out) hb); have n1_ := Aside0.mk (blk_below (g := gb572) (o := .cells #[.bool t566, .bool t567, .bool t568, .bool t569, .bool t570] 27 (0, 0)) (bv BK572.out) hb); have n2_ := Aside0.mk (blk_below (g := gb600) (o := .cells #[.bool t592, .int .i64 t593, .int .u64 t594, .bool t595] 56 (0, 0)) (bv BK600.out) hb); have n3_ := Aside0.mk (blk_below (g := gb601) (o := .cells #[.bool t596, .int .i64 t597, .int .u64 t598, .bool t599] 56 (0, 0)) (bv BK601.out) hb); have n4_ := Aside0.mk (below_step (bl4 HB.out GE560.out GE572.out GE600.out GE601.out) hb); have n5_ := Aside0.mk (hbox); have n6_ := Aside0.mk ((by rw [hg]; exact (below_size (bl4 HB.out GE560.out GE572.out GE600.out GE601.out)) : w.heap.size ≤ gb606)); have n7_ := n6_; have n8_ := Aside0.mk ((by rw [hg]; exact Nat.ne_of_lt (blk_lt (g := gb560) (o := .cells F5 27 (0, 0)) (bv BK560.out)) : gb560 ≠ gb606)); have n9_ := Aside0.mk (Ne.symm n8_.out); have n10_ := Aside0.mk ((by rw [hg]; exact Nat.ne_of_lt (blk_lt (g := gb572) (o := .cells #[.bool t566, .bool t567, .bool t568, .bool t569, .bool t570] 27 (0, 0)) (bv BK572.out)) : gb572 ≠ gb606)); have n11_ := Aside0.mk (Ne.symm n10_.out); have n12_ := Aside0.mk ((by rw [hg]; exact Nat.ne_of_lt (blk_lt (g := gb600) (o := .cells #[.bool t592, .int .i64 t593, .int .u64 t594, .bool t595] 56 (0, 0)) (bv BK600.out)) : gb600 ≠ gb606)); have n13_ := Aside0.mk (Ne.symm n12_.out); have n14_ := Aside0.mk ((by rw [hg]; exact Nat.ne_of_lt (blk_lt (g := gb601) (o := .cells #[.bool t596, .int .i64 t597, .int .u64 t598, .bool t599] 56 (0, 0)) (bv BK601.out)) : gb601 ≠ gb606)); have n15_ := Aside0.mk (Ne.symm n14_.out); clear BK560; clear BK572; clear BK600; clear BK601; clear HB; have BK560 := n0_; have BK572 := n1_; have BK600 := n2_; have BK601 := n3_; have HB := n4_; have BK606 := n5_; have GW606 := n6_; have GE606 := n7_; have NB560_606 := n8_; have NB606_560 := n9_; have NB572_606 := n10_; have NB606_572 := n11_; have NB600_606 := n12_; have NB606_600 := n13_; have NB601_606 := n14_; have NB606_601 := n15_; clear n0_ n1_ n2_ n3_ n4_ n5_ n6_ n7_ n8_ n9_ n10_ n11_ n12_ n13_ n14_ n15_; clear hb hbox hg; have hnb94 := NB606_560.out; have hnc94 := NB560_606.out; have hnb95 := NB606_572.out; have hnc95 := NB572_606.out; have hnb96 := NB606_600.out; have hnc96 := NB600_606.out; have hnb97 := NB606_601.out; have hnc97 := NB601_606.out; obtain ⟨hcz98_0, hcz98_1, hcz98_2, hcz98_3⟩ := bc4 BK606.out; obtain ⟨hfz98_0, hfz98_1, hfz98_2, hfz98_3⟩ := bf4 BK606.out))
        (try simp only [Act.put, sb, sz, ss])
        go_cut [99] (fun v99 wc => ∃ (kq : Nat) (x99_79 : Bool), v99 = .bool x99_79 ∧ Aside0 (prod_Fma.j2 kq a0 a1 (t579 != t580) x99_79 t596 t597 t598 t599 t602 t603 t604 t605 = some (r1, r2, r3, r4, r5, r6)) ∧ Aside0 (kq ≤ kj68) ∧ Aside0 (wc.heap[gb560]? = some (.cells #[.bool false, .bool false, .bool false, .bool false, .bool false] 27 (0, 0))) ∧ Aside0 (wc.heap[gb572]? = some (.cells #[.bool t566, .bool t567, .bool t568, .bool t569, .bool t570] 27 (0, 0))) ∧ Aside0 (wc.heap[gb600]? = some (.cells #[.bool t592, .int .i64 t593, .int .u64 t594, .bool t595] 56 (0, 0))) ∧ Aside0 (wc.heap[gb601]? = some (.cells #[.bool t596, .int .i64 t597, .int .u64 t598, .bool t599] 56 (0, 0))) ∧ Aside0 (wc.heap[gb606]? = some (.cells #[.bool t602, .int .i64 t603, .int .u64 t604, .bool t605] 56 (0, 0))) ∧ Aside0 (Below w.heap.size w wc))
        case first =>
         have H := HC80.out
         clear HC80
         by_cases c99 : t604 = 0
         ·rw [if_pos c99] at H
          have c99b0 : (t604 == 0) = true := beq_iff_eq.mpr c99
          have c99b1 : (t604 != 0) = false := bne_eq_false_iff_eq.mpr c99
          clear c99
          (first | rw [c99b0] | (simp only [i64_w, i32_w]; rw [c99b0]) | skip)
          have H' := Aside0.mk H
          clear H
          have hnb100 := NB606_560.out
          have hnc100 := NB560_606.out
          have hnb101 := NB606_572.out
          have hnc101 := NB572_606.out
          have hnb102 := NB606_600.out
          have hnc102 := NB600_606.out
          have hnb103 := NB606_601.out
          have hnc103 := NB601_606.out
          have hcz104_0 : w93.cell? ⟨gb606, 0, none⟩ = some (.bool false) := (blk_cell BK606.out 0).trans rfl
          have hcz104_1 : w93.cell? ⟨gb606, 1, none⟩ = some (.int .i64 0) := (blk_cell BK606.out 1).trans rfl
          have hcz104_2 : w93.cell? ⟨gb606, 2, none⟩ = some (.int .u64 0) := (blk_cell BK606.out 2).trans rfl
          have hcz104_3 : w93.cell? ⟨gb606, 3, none⟩ = some (.bool false) := (blk_cell BK606.out 3).trans rfl
          have hfz104_0 := blk_frozen BK606.out 0
          have hfz104_1 := blk_frozen BK606.out 1
          have hfz104_2 := blk_frozen BK606.out 2
          have hfz104_3 := blk_frozen BK606.out 3
          go_wp2
          go_meet
          case rel => exact ⟨_, (!t605), (by first | rfl | (simp; done) | (simp [*]; done) | (congr 1; (try unfold wrap64); omega) | (congr 1; rw [IntKind.wrap_u64]; omega)), H', ⟨by have := HJ53.out; have := HJ68.out; first | omega | exact Nat.le_refl _⟩, ⟨by (with_reducible repeat first | apply bd | apply be | apply ba); refine blk_far ?_ NB560_606.out _; (with_reducible repeat first | apply bd | apply be | apply ba); refine blk_far ?_ NB560_606.out _; (with_reducible repeat first | apply bd | apply be | apply ba); refine blk_far ?_ NB560_606.out _; (with_reducible repeat first | apply bd | apply be | apply ba); refine blk_far ?_ NB560_606.out _; (with_reducible repeat first | apply bd | apply be | apply ba); exact BK560.out⟩, ⟨by (with_reducible repeat first | apply bd | apply be | apply ba); refine blk_far ?_ NB572_606.out _; (with_reducible repeat first | apply bd | apply be | apply ba); refine blk_far ?_ NB572_606.out _; (with_reducible repeat first | apply bd | apply be | apply ba); refine blk_far ?_ NB572_606.out _; (with_reducible repeat first | apply bd | apply be | apply ba); refine blk_far ?_ NB572_606.out _; (with_reducible repeat first | apply bd | apply be | apply ba); exact BK572.out⟩, ⟨by (with_reducible repeat first | apply bd | apply be | apply ba); refine blk_far ?_ NB600_606.out _; (with_reducible repeat first | apply bd | apply be | apply ba); refine blk_far ?_ NB600_606.out _; (with_reducible repeat first | apply bd | apply be | apply ba); refine blk_far ?_ NB600_606.out _; (with_reducible repeat first | apply bd | apply be | apply ba); refine blk_far ?_ NB600_606.out _; (with_reducible repeat first | apply bd | apply be | apply ba); exact BK600.out⟩, ⟨by (with_reducible repeat first | apply bd | apply be | apply ba); refine blk_far ?_ NB601_606.out _; (with_reducible repeat first | apply bd | apply be | apply ba); refine blk_far ?_ NB601_606.out _; (with_reducible repeat first | apply bd | apply be | apply ba); refine blk_far ?_ NB601_606.out _; (with_reducible repeat first | apply bd | apply be | apply ba); refine blk_far ?_ NB601_606.out _; (with_reducible repeat first | apply bd | apply be | apply ba); exact BK601.out⟩, ⟨by (with_reducible repeat first | apply bd | apply be | apply ba); refine blk_put (cs := #[.bool t602, .int .i64 t603, .int .u64 t604, .bool false]) ?_ 3 _ rfl; (with_reducible repeat first | apply bd | apply be | apply ba); refine blk_put (cs := #[.bool t602, .int .i64 t603, .int .u64 0, .bool false]) ?_ 2 _ rfl; (with_reducible repeat first | apply bd | apply be | apply ba); refine blk_put (cs := #[.bool t602, .int .i64 0, .int .u64 0, .bool false]) ?_ 1 _ rfl; (with_reducible repeat first | apply bd | apply be | apply ba); refine blk_put (cs := #[.bool false, .int .i64 0, .int .u64 0, .bool false]) ?_ 0 _ rfl; (with_reducible repeat first | apply bd | apply be | apply ba); exact BK606.out⟩, ⟨bl5 HB.out GE560.out GE572.out GE600.out GE601.out GE606.out⟩⟩
         ·rw [if_neg c99] at H
          have c99b0 : (t604 == 0) = false := beq_eq_false_iff_ne.mpr c99
          have c99b1 : (t604 != 0) = true := bne_iff_ne.mpr c99
          (first | rw [c99b0] | (simp only [i64_w, i32_w]; rw [c99b0]) | skip)
          have H' := Aside0.mk H
          clear H
          have hnb105 := NB606_560.out
          have hnc105 := NB560_606.out
          have hnb106 := NB606_572.out
          have hnc106 := NB572_606.out
          have hnb107 := NB606_600.out
          have hnc107 := NB600_606.out
          have hnb108 := NB606_601.out
          have hnc108 := NB601_606.out
          have hcz109_0 : w93.cell? ⟨gb606, 0, none⟩ = some (.bool false) := (blk_cell BK606.out 0).trans rfl
          have hcz109_1 : w93.cell? ⟨gb606, 1, none⟩ = some (.int .i64 0) := (blk_cell BK606.out 1).trans rfl
          have hcz109_2 : w93.cell? ⟨gb606, 2, none⟩ = some (.int .u64 0) := (blk_cell BK606.out 2).trans rfl
          have hcz109_3 : w93.cell? ⟨gb606, 3, none⟩ = some (.bool false) := (blk_cell BK606.out 3).trans rfl
          have hfz109_0 := blk_frozen BK606.out 0
          have hfz109_1 := blk_frozen BK606.out 1
          have hfz109_2 := blk_frozen BK606.out 2
          have hfz109_3 := blk_frozen BK606.out 3
          go_wp2
          go_meet
          case rel => exact ⟨_, (false), (by first | rfl | (simp; done) | (simp [*]; done) | (congr 1; (try unfold wrap64); omega) | (congr 1; rw [IntKind.wrap_u64]; omega)), H', ⟨by have := HJ53.out; have := HJ68.out; first | omega | exact Nat.le_refl _⟩, ⟨by (with_reducible repeat first | apply bd | apply be | apply ba); refine blk_far ?_ NB560_606.out _; (with_reducible repeat first | apply bd | apply be | apply ba); refine blk_far ?_ NB560_606.out _; (with_reducible repeat first | apply bd | apply be | apply ba); refine blk_far ?_ NB560_606.out _; (with_reducible repeat first | apply bd | apply be | apply ba); refine blk_far ?_ NB560_606.out _; (with_reducible repeat first | apply bd | apply be | apply ba); exact BK560.out⟩, ⟨by (with_reducible repeat first | apply bd | apply be | apply ba); refine blk_far ?_ NB572_606.out _; (with_reducible repeat first | apply bd | apply be | apply ba); refine blk_far ?_ NB572_606.out _; (with_reducible repeat first | apply bd | apply be | apply ba); refine blk_far ?_ NB572_606.out _; (with_reducible repeat first | apply bd | apply be | apply ba); refine blk_far ?_ NB572_606.out _; (with_reducible repeat first | apply bd | apply be | apply ba); exact BK572.out⟩, ⟨by (with_reducible repeat first | apply bd | apply be | apply ba); refine blk_far ?_ NB600_606.out _; (with_reducible repeat first | apply bd | apply be | apply ba); refine blk_far ?_ NB600_606.out _; (with_reducible repeat first | apply bd | apply be | apply ba); refine blk_far ?_ NB600_606.out _; (with_reducible repeat first | apply bd | apply be | apply ba); refine blk_far ?_ NB600_606.out _; (with_reducible repeat first | apply bd | apply be | apply ba); exact BK600.out⟩, ⟨by (with_reducible repeat first | apply bd | apply be | apply ba); refine blk_far ?_ NB601_606.out _; (with_reducible repeat first | apply bd | apply be | apply ba); refine blk_far ?_ NB601_606.out _; (with_reducible repeat first | apply bd | apply be | apply ba); refine blk_far ?_ NB601_606.out _; (with_reducible repeat first | apply bd | apply be | apply ba); refine blk_far ?_ NB601_606.out _; (with_reducible repeat first | apply bd | apply be | apply ba); exact BK601.out⟩, ⟨by (with_reducible repeat first | apply bd | apply be | apply ba); refine blk_put (cs := #[.bool t602, .int .i64 t603, .int .u64 t604, .bool false]) ?_ 3 _ rfl; (with_reducible repeat first | apply bd | apply be | apply ba); refine blk_put (cs := #[.bool t602, .int .i64 t603, .int .u64 0, .bool false]) ?_ 2 _ rfl; (with_reducible repeat first | apply bd | apply be | apply ba); refine blk_put (cs := #[.bool t602, .int .i64 0, .int .u64 0, .bool false]) ?_ 1 _ rfl; (with_reducible repeat first | apply bd | apply be | apply ba); refine blk_put (cs := #[.bool false, .int .i64 0, .int .u64 0, .bool false]) ?_ 0 _ rfl; (with_reducible repeat first | apply bd | apply be | apply ba); exact BK606.out⟩, ⟨bl5 HB.out GE560.out GE572.out GE600.out GE601.out GE606.out⟩⟩
        case rest =>
         clear HC80
         try clear c1 c2 p2 c3 c4 c5 c6 p6 c7 c8 c9 c10 c16 c27 c31 c32 c33 c34 c35 c36 c40 c47 c48 c50 c61 p64 c65 c70 c71 c75 c85 c86 c87 c89 c90 c94 c95 c96 c97 c99 c99b0 c99b1 c100 c101 c102 c103 c105 c106 c107 c108 hcz104_0 hcz104_1 hcz104_2 hcz104_3 hcz109_0 hcz109_1 hcz109_2 hcz109_3 hcz17_0 hcz17_1 hcz17_2 hcz17_3 hcz17_4 hcz32_0 hcz32_1 hcz32_2 hcz32_3 hcz32_4 hcz49_0 hcz49_1 hcz49_2 hcz49_3 hcz49_4 hcz51_0 hcz51_1 hcz51_2 hcz51_3 hcz51_4 hcz62_0 hcz62_1 hcz62_2 hcz62_3 hcz62_4 hcz76_0 hcz76_1 hcz76_2 hcz76_3 hcz76_4 hcz88_0 hcz88_1 hcz88_2 hcz88_3 hcz91_0 hcz91_1 hcz91_2 hcz91_3 hcz98_0 hcz98_1 hcz98_2 hcz98_3 hfz104_0 hfz104_1 hfz104_2 hfz104_3 hfz109_0 hfz109_1 hfz109_2 hfz109_3 hfz17_0 hfz17_1 hfz17_2 hfz17_3 hfz17_4 hfz32_0 hfz32_1 hfz32_2 hfz32_3 hfz32_4 hfz49_0 hfz49_1 hfz49_2 hfz49_3 hfz49_4 hfz51_0 hfz51_1 hfz51_2 hfz51_3 hfz51_4 hfz62_0 hfz62_1 hfz62_2 hfz62_3 hfz62_4 hfz76_0 hfz76_1 hfz76_2 hfz76_3 hfz76_4 hfz88_0 hfz88_1 hfz88_2 hfz88_3 hfz91_0 hfz91_1 hfz91_2 hfz91_3 hfz98_0 hfz98_1 hfz98_2 hfz98_3 p2 p6 p64
         obtain ⟨kq, x99_79, rfl, HA, HJ79, BK560, BK572, BK600, BK601, BK606, HB⟩ := hcut
         cases kq with
         |zero => exact absurd HA.out (by simp [prod_Fma.j2])
         |succ kj79 =>
          have H := HA.out
          clear HA
          simp only [prod_Fma.j2] at H
          by_cases c110 : x99_79 = true
          ·subst c110
           have H1 : ((sum_Nought.f a0 a1 (t579 != t580) t596).bind fun t607 => (some (t607, false, false, false, false, false))) = some (r1, r2, r3, r4, r5, r6) := by rw [if_pos rfl] at H; exact H
           clear H
           have H := H1
           clear H1
           replace H := Option.bind_eq_some_iff.mp H
           obtain ⟨t607, A1110, H⟩ := H
           replace H : (some (t607, false, false, false, false, false)) = some (r1, r2, r3, r4, r5, r6) := H
           have A111 := Aside0.mk A1110
           clear A1110
           simp only [Option.some.injEq, Prod.mk.injEq] at H
           obtain ⟨rfl, rfl, rfl, rfl, rfl, rfl⟩ := H
           have hnb112 := NB601_560.out
           have hnc112 := NB560_601.out
           have hnb113 := NB601_572.out
           have hnc113 := NB572_601.out
           have hnb114 := NB601_600.out
           have hnc114 := NB600_601.out
           have hnb115 := NB601_606.out
           have hnc115 := NB606_601.out
           have hcz116_0 : wc.cell? ⟨gb601, 0, none⟩ = some (.bool t596) := (blk_cell BK601.out 0).trans rfl
           have hcz116_1 : wc.cell? ⟨gb601, 1, none⟩ = some (.int .i64 t597) := (blk_cell BK601.out 1).trans rfl
           have hcz116_2 : wc.cell? ⟨gb601, 2, none⟩ = some (.int .u64 t598) := (blk_cell BK601.out 2).trans rfl
           have hcz116_3 : wc.cell? ⟨gb601, 3, none⟩ = some (.bool t599) := (blk_cell BK601.out 3).trans rfl
           have hfz116_0 := blk_frozen BK601.out 0
           have hfz116_1 := blk_frozen BK601.out 1
           have hfz116_2 := blk_frozen BK601.out 2
           have hfz116_3 := blk_frozen BK601.out 3
           go_wp2_with (first | ((with_reducible refine gate_callee (f := 37) rfl ?_); refine goesL_ (some 105) rfl rfl Try.func37 (by kernel_rfl) rfl #[.int .i64 a0, .int .i64 a1, .bool (t579 != t580), .bool t596] rfl gl ?_; (with_reducible refine (sum_Nought.calls a0 a1 (t579 != t580) t596 t607 _ A111.out).mono ?_); rintro e w' ⟨rfl, ⟨nd, rfl⟩⟩; refine ⟨_, rfl, ?_⟩; (try (rw [drewN_self wc]; generalize hq_ : World.drewN wc _ = wc; have n0_ : Aside0 (wc.heap[gb560]? = some (.cells #[.bool false, .bool false, .bool false, .bool false, .bool false] 27 (0, 0))) := ⟨by rw [← hq_]; exact (bv BK560.out)⟩; have n1_ : Aside0 (wc.heap[gb572]? = some (.cells #[.bool t566, .bool t567, .bool t568, .bool t569, .bool t570] 27 (0, 0))) := ⟨by rw [← hq_]; exact (bv BK572.out)⟩; have n2_ : Aside0 (wc.heap[gb600]? = some (.cells #[.bool t592, .int .i64 t593, .int .u64 t594, .bool t595] 56 (0, 0))) := ⟨by rw [← hq_]; exact (bv BK600.out)⟩; have n3_ : Aside0 (wc.heap[gb601]? = some (.cells #[.bool t596, .int .i64 t597, .int .u64 t598, .bool t599] 56 (0, 0))) := ⟨by rw [← hq_]; exact (bv BK601.out)⟩; have n4_ : Aside0 (wc.heap[gb606]? = some (.cells #[.bool t602, .int .i64 t603, .int .u64 t604, .bool t605] 56 (0, 0))) := ⟨by rw [← hq_]; exact (bv BK606.out)⟩; have n5_ : Aside0 (Below w.heap.size w wc) := ⟨by rw [← hq_]; exact (bl5 HB.out GE560.out GE572.out GE600.out GE601.out GE606.out)⟩; clear BK560 BK572 BK600 BK601 BK606 HB hq_; have BK560 := n0_; have BK572 := n1_; have BK600 := n2_; have BK601 := n3_; have BK606 := n4_; have HB := n5_; clear n0_ n1_ n2_ n3_ n4_ n5_)); have hnb117 := NB560_572.out; have hnc117 := NB572_560.out; have hnb118 := NB560_600.out; have hnc118 := NB600_560.out; have hnb119 := NB560_606.out; have hnc119 := NB606_560.out; obtain ⟨hcz120_0, hcz120_1, hcz120_2, hcz120_3, hcz120_4⟩ := bc5 BK560.out; obtain ⟨hfz120_0, hfz120_1, hfz120_2, hfz120_3, hfz120_4⟩ := bf5 BK560.out))
           refine bodyPost_ret (results_tc rfl _ _ gb560 27 #[.bool false, .bool false, .bool false, .bool false, .bool false] (0, 0) _ rfl (by (with_reducible repeat first | apply bd | apply be | apply ba); refine blk_put (cs := F5) ?_ 4 _ rfl; (with_reducible repeat first | apply bd | apply be | apply ba); refine blk_put (cs := F5) ?_ 3 _ rfl; (with_reducible repeat first | apply bd | apply be | apply ba); refine blk_put (cs := F5) ?_ 2 _ rfl; (with_reducible repeat first | apply bd | apply be | apply ba); refine blk_put (cs := F5) ?_ 1 _ rfl; (with_reducible repeat first | apply bd | apply be | apply ba); refine blk_put (cs := F5) ?_ 0 _ rfl; (with_reducible repeat first | apply bd | apply be | apply ba); exact BK560.out) Try.underlying27 rfl (by kernel_rfl)) rfl ?_
           exact ⟨by first | rfl | (simp [errW_none, errW_some] <;> rfl) | (simp [*, errW_none, errW_some] <;> rfl), bl5 HB.out GE560.out GE572.out GE600.out GE601.out GE606.out⟩
          ·replace c110 := Bool.eq_false_iff.mpr c110
           subst c110
           have H1 : ((round_Pack.f kj79 a0 a1 t602 t603 t604 t605).bind fun bt608 => (some (bt608.1, bt608.2.1, bt608.2.2.1, bt608.2.2.2.1, bt608.2.2.2.2.1, bt608.2.2.2.2.2))) = some (r1, r2, r3, r4, r5, r6) := by rw [if_neg (show ¬ (false = true) by decide)] at H; exact H
           clear H
           have H := H1
           clear H1
           replace H := Option.bind_eq_some_iff.mp H
           obtain ⟨⟨t608, t609, t610, t611, t612, t613⟩, A1210, H⟩ := H
           replace H : (some (t608, t609, t610, t611, t612, t613)) = some (r1, r2, r3, r4, r5, r6) := H
           have A121 := Aside0.mk A1210
           clear A1210
           simp only [Option.some.injEq, Prod.mk.injEq] at H
           obtain ⟨rfl, rfl, rfl, rfl, rfl, rfl⟩ := H
           have hnb122 := NB606_560.out
           have hnc122 := NB560_606.out
           have hnb123 := NB606_572.out
           have hnc123 := NB572_606.out
           have hnb124 := NB606_600.out
           have hnc124 := NB600_606.out
           have hnb125 := NB606_601.out
           have hnc125 := NB601_606.out
           have hcz126_0 : wc.cell? ⟨gb606, 0, none⟩ = some (.bool t602) := (blk_cell BK606.out 0).trans rfl
           have hcz126_1 : wc.cell? ⟨gb606, 1, none⟩ = some (.int .i64 t603) := (blk_cell BK606.out 1).trans rfl
           have hcz126_2 : wc.cell? ⟨gb606, 2, none⟩ = some (.int .u64 t604) := (blk_cell BK606.out 2).trans rfl
           have hcz126_3 : wc.cell? ⟨gb606, 3, none⟩ = some (.bool t605) := (blk_cell BK606.out 3).trans rfl
           have hfz126_0 := blk_frozen BK606.out 0
           have hfz126_1 := blk_frozen BK606.out 1
           have hfz126_2 := blk_frozen BK606.out 2
           have hfz126_3 := blk_frozen BK606.out 3
           go_wp2_with (first | ((with_reducible refine gate_callee (f := 38) rfl ?_); refine goesL_ (some 117) rfl rfl Try.func38 (by kernel_rfl) rfl #[.int .i64 a0, .int .i64 a1, .bool t602, .int .i64 t603, .int .u64 t604, .bool t605] rfl gl ?_; (with_reducible refine (round_Pack.calls kj79 a0 a1 t602 t603 t604 t605 t608 t609 t610 t611 t612 t613 _ A121.out).mono ?_); rintro e w127 ⟨rfl, hb⟩; refine ⟨_, rfl, ?_⟩; have n0_ := Aside0.mk (blk_below (g := gb560) (o := .cells #[.bool false, .bool false, .bool false, .bool false, .bool false] 27 (0, 0)) (bv BK560.out) hb); have n1_ := Aside0.mk (blk_below (g := gb572) (o := .cells #[.bool t566, .bool t567, .bool t568, .bool t569, .bool t570] 27 (0, 0)) (bv BK572.out) hb); have n2_ := Aside0.mk (blk_below (g := gb600) (o := .cells #[.bool t592, .int .i64 t593, .int .u64 t594, .bool t595] 56 (0, 0)) (bv BK600.out) hb); have n3_ := Aside0.mk (blk_below (g := gb601) (o := .cells #[.bool t596, .int .i64 t597, .int .u64 t598, .bool t599] 56 (0, 0)) (bv BK601.out) hb); have n4_ := Aside0.mk (blk_below (g := gb606) (o := .cells #[.bool t602, .int .i64 t603, .int .u64 t604, .bool t605] 56 (0, 0)) (bv BK606.out) hb); have n5_ := Aside0.mk (below_step (bl5 HB.out GE560.out GE572.out GE600.out GE601.out GE606.out) hb); clear BK560; clear BK572; clear BK600; clear BK601; clear BK606; clear HB; have BK560 := n0_; have BK572 := n1_; have BK600 := n2_; have BK601 := n3_; have BK606 := n4_; have HB := n5_; clear n0_ n1_ n2_ n3_ n4_ n5_; have hnb128 := NB560_572.out; have hnc128 := NB572_560.out; have hnb129 := NB560_600.out; have hnc129 := NB600_560.out; have hnb130 := NB560_601.out; have hnc130 := NB601_560.out; obtain ⟨hcz131_0, hcz131_1, hcz131_2, hcz131_3, hcz131_4⟩ := bc5 BK560.out; obtain ⟨hfz131_0, hfz131_1, hfz131_2, hfz131_3, hfz131_4⟩ := bf5 BK560.out))
           refine bodyPost_ret (results_tc rfl _ _ gb560 27 #[.bool t609, .bool t610, .bool t611, .bool t612, .bool t613] (0, 0) _ rfl (by (with_reducible repeat first | apply bd | apply be | apply ba); refine blk_put (cs := #[.bool t609, .bool t610, .bool t611, .bool t612, .bool false]) ?_ 4 _ rfl; (with_reducible repeat first | apply bd | apply be | apply ba); refine blk_put (cs := #[.bool t609, .bool t610, .bool t611, .bool false, .bool false]) ?_ 3 _ rfl; (with_reducible repeat first | apply bd | apply be | apply ba); refine blk_put (cs := #[.bool t609, .bool t610, .bool false, .bool false, .bool false]) ?_ 2 _ rfl; (with_reducible repeat first | apply bd | apply be | apply ba); refine blk_put (cs := #[.bool t609, .bool false, .bool false, .bool false, .bool false]) ?_ 1 _ rfl; (with_reducible repeat first | apply bd | apply be | apply ba); refine blk_put (cs := F5) ?_ 0 _ rfl; (with_reducible repeat first | apply bd | apply be | apply ba); exact BK560.out) Try.underlying27 rfl (by kernel_rfl)) rfl ?_
           exact ⟨by first | rfl | (simp [errW_none, errW_some] <;> rfl) | (simp [*, errW_none, errW_some] <;> rfl), bl5 HB.out GE560.out GE572.out GE600.out GE601.out GE606.out⟩

end Go.Proofs.Ytlkjoibpfhjhcaa.P
