import Derived.Test.YtngkpekmgahjiaaQwdZ
import Derived.Test.YtngkpekmgahjiaaQwdM1
import Derived.Test.YtngkpekmgahjiaaQwdM4
import Derived.Test.YtngkpekmgahjiaaQwdPx33
-- Printed by a program of this session's out of Lean's print of the translation; Lean checks it.
namespace Go.Proofs.Ytngkpekmgahjiaa.P
open Go.RowKit Go.Proofs.YtngkpekmgahjiaaW.PrintWords Go.Proofs.YtngkpekmgahjiaaW.PrintLast Go.Proofs.YtngkpekmgahjiaaW.PrintMore
attribute [local go_sem] max2_int min2_int max_two min_two max_three min_three max_four min_four   -- for this text's walks alone
set_option linter.unusedVariables false
set_option linter.unusedSimpArgs false

/-! ### anneallaw8_WholeSides: function 8 -/
mutual
def anneallaw8_WholeSides.j1 : Nat → Int → Int → Int → Int → Int → Int → Option (Bool)
 |0, _, _, _, _, _, _ => none
 |k + 1, x8, x10, x12, x14, x16, x18 => if x10 = (wrap32 (x8 + 1)) then (if x12 = x18 then (if x14 = x8 then (if x16 = x14 then (anneallaw8_WholeSides.j2 k true) else (if (Int.tmod x14 2) = 0 then (if x16 = x8 then (anneallaw8_WholeSides.j2 k true) else (anneallaw8_WholeSides.j2 k (x16 == x10))) else (anneallaw8_WholeSides.j2 k false))) else (if x14 = x10 then (if x16 = x14 then (anneallaw8_WholeSides.j2 k true) else (if (Int.tmod x14 2) = 0 then (if x16 = x8 then (anneallaw8_WholeSides.j2 k true) else (anneallaw8_WholeSides.j2 k (x16 == x10))) else (anneallaw8_WholeSides.j2 k false))) else (anneallaw8_WholeSides.j2 k false))) else (anneallaw8_WholeSides.j2 k false)) else (anneallaw8_WholeSides.j2 k false)
def anneallaw8_WholeSides.j2 : Nat → Bool → Option (Bool)
 |0, _ => none
 |k + 1, x4 => some x4
def anneallaw8_WholeSides.j0 : Nat → Bool → Option (Bool)
 |0, _ => none
 |k + 1, x4 => some x4
end
def anneallaw8_WholeSides.f (k : Nat) (a0 : Int) (a1 : Int) : Option (Bool) := (anneallaw8_known.f k).bind fun t515 => (if t515 = true then ((annealseat_Mild.f 2 a0).bind fun t516 => ((annealref1_Scale.f k 2 0 t516 (wrap64 (Int.tmod a1 12))).bind fun bt517 => ((whole_ToInt.f k 2 3 bt517.1).bind fun bt524 => ((whole_ToInt.f k 2 2 bt517.1).bind fun bt531 => ((whole_ToInt.f k 2 1 bt517.1).bind fun bt538 => ((whole_ToInt.f k 2 0 bt517.1).bind fun bt545 => ((whole_ToInt.f k 2 4 bt517.1).bind fun bt552 => (if bt524.2.2.2.2.2 = true then (if (bt517.1 / 2147483648) = 1 then (anneallaw8_WholeSides.j1 k bt524.1 bt531.1 bt538.1 bt545.1 bt552.1 bt531.1) else (anneallaw8_WholeSides.j1 k bt524.1 bt531.1 bt538.1 bt545.1 bt552.1 bt524.1)) else (if bt524.1 = bt531.1 then (if bt538.1 = bt524.1 then (if bt545.1 = bt524.1 then (anneallaw8_WholeSides.j0 k (bt552.1 == bt524.1)) else (anneallaw8_WholeSides.j0 k false)) else (anneallaw8_WholeSides.j0 k false)) else (anneallaw8_WholeSides.j0 k false)))))))))) else (some false))
set_option maxHeartbeats 8000000 in
set_option maxRecDepth 100000 in
theorem anneallaw8_WholeSides.calls (k : Nat) (a0 : Int) (a1 : Int) (r : Bool) (w : World) (h : anneallaw8_WholeSides.f k a0 a1 = some r) :
  Calls Try.prog 8 #[.int .u32 a0, .int .u8 a1] w fun e w' => e = .returned (.bool r) ∧ Below w.heap.size w w' := by
 have hu41 := Try.underlying41
 have HB := Aside0.mk (Below.refl w.heap.size w)
 have H : ((anneallaw8_known.f k).bind fun t515 => (if t515 = true then ((annealseat_Mild.f 2 a0).bind fun t516 => ((annealref1_Scale.f k 2 0 t516 (wrap64 (Int.tmod a1 12))).bind fun bt517 => ((whole_ToInt.f k 2 3 bt517.1).bind fun bt524 => ((whole_ToInt.f k 2 2 bt517.1).bind fun bt531 => ((whole_ToInt.f k 2 1 bt517.1).bind fun bt538 => ((whole_ToInt.f k 2 0 bt517.1).bind fun bt545 => ((whole_ToInt.f k 2 4 bt517.1).bind fun bt552 => (if bt524.2.2.2.2.2 = true then (if (bt517.1 / 2147483648) = 1 then (anneallaw8_WholeSides.j1 k bt524.1 bt531.1 bt538.1 bt545.1 bt552.1 bt531.1) else (anneallaw8_WholeSides.j1 k bt524.1 bt531.1 bt538.1 bt545.1 bt552.1 bt524.1)) else (if bt524.1 = bt531.1 then (if bt538.1 = bt524.1 then (if bt545.1 = bt524.1 then (anneallaw8_WholeSides.j0 k (bt552.1 == bt524.1)) else (anneallaw8_WholeSides.j0 k false)) else (anneallaw8_WholeSides.j0 k false)) else (anneallaw8_WholeSides.j0 k false)))))))))) else (some false))) = some r := h
 clear h
 replace H := Option.bind_eq_some_iff.mp H
 obtain ⟨t515, A30, H⟩ := H
 replace H : (if t515 = true then ((annealseat_Mild.f 2 a0).bind fun t516 => ((annealref1_Scale.f k 2 0 t516 (wrap64 (Int.tmod a1 12))).bind fun bt517 => ((whole_ToInt.f k 2 3 bt517.1).bind fun bt524 => ((whole_ToInt.f k 2 2 bt517.1).bind fun bt531 => ((whole_ToInt.f k 2 1 bt517.1).bind fun bt538 => ((whole_ToInt.f k 2 0 bt517.1).bind fun bt545 => ((whole_ToInt.f k 2 4 bt517.1).bind fun bt552 => (if bt524.2.2.2.2.2 = true then (if (bt517.1 / 2147483648) = 1 then (anneallaw8_WholeSides.j1 k bt524.1 bt531.1 bt538.1 bt545.1 bt552.1 bt531.1) else (anneallaw8_WholeSides.j1 k bt524.1 bt531.1 bt538.1 bt545.1 bt552.1 bt524.1)) else (if bt524.1 = bt531.1 then (if bt538.1 = bt524.1 then (if bt545.1 = bt524.1 then (anneallaw8_WholeSides.j0 k (bt552.1 == bt524.1)) else (anneallaw8_WholeSides.j0 k false)) else (anneallaw8_WholeSides.j0 k false)) else (anneallaw8_WholeSides.j0 k false)))))))))) else (some false)) = some r := H
 have A3 := Aside0.mk A30
 clear A30
 by_cases c4 : t515 = true
 ·subst c4
  have H1 : ((annealseat_Mild.f 2 a0).bind fun t516 => ((annealref1_Scale.f k 2 0 t516 (wrap64 (Int.tmod a1 12))).bind fun bt517 => ((whole_ToInt.f k 2 3 bt517.1).bind fun bt524 => ((whole_ToInt.f k 2 2 bt517.1).bind fun bt531 => ((whole_ToInt.f k 2 1 bt517.1).bind fun bt538 => ((whole_ToInt.f k 2 0 bt517.1).bind fun bt545 => ((whole_ToInt.f k 2 4 bt517.1).bind fun bt552 => (if bt524.2.2.2.2.2 = true then (if (bt517.1 / 2147483648) = 1 then (anneallaw8_WholeSides.j1 k bt524.1 bt531.1 bt538.1 bt545.1 bt552.1 bt531.1) else (anneallaw8_WholeSides.j1 k bt524.1 bt531.1 bt538.1 bt545.1 bt552.1 bt524.1)) else (if bt524.1 = bt531.1 then (if bt538.1 = bt524.1 then (if bt545.1 = bt524.1 then (anneallaw8_WholeSides.j0 k (bt552.1 == bt524.1)) else (anneallaw8_WholeSides.j0 k false)) else (anneallaw8_WholeSides.j0 k false)) else (anneallaw8_WholeSides.j0 k false)))))))))) = some r := by rw [if_pos rfl] at H; exact H
  clear H
  have H := H1
  clear H1
  replace H := Option.bind_eq_some_iff.mp H
  obtain ⟨t516, A50, H⟩ := H
  replace H : ((annealref1_Scale.f k 2 0 t516 (wrap64 (Int.tmod a1 12))).bind fun bt517 => ((whole_ToInt.f k 2 3 bt517.1).bind fun bt524 => ((whole_ToInt.f k 2 2 bt517.1).bind fun bt531 => ((whole_ToInt.f k 2 1 bt517.1).bind fun bt538 => ((whole_ToInt.f k 2 0 bt517.1).bind fun bt545 => ((whole_ToInt.f k 2 4 bt517.1).bind fun bt552 => (if bt524.2.2.2.2.2 = true then (if (bt517.1 / 2147483648) = 1 then (anneallaw8_WholeSides.j1 k bt524.1 bt531.1 bt538.1 bt545.1 bt552.1 bt531.1) else (anneallaw8_WholeSides.j1 k bt524.1 bt531.1 bt538.1 bt545.1 bt552.1 bt524.1)) else (if bt524.1 = bt531.1 then (if bt538.1 = bt524.1 then (if bt545.1 = bt524.1 then (anneallaw8_WholeSides.j0 k (bt552.1 == bt524.1)) else (anneallaw8_WholeSides.j0 k false)) else (anneallaw8_WholeSides.j0 k false)) else (anneallaw8_WholeSides.j0 k false))))))))) = some r := H
  have A5 := Aside0.mk A50
  clear A50
  replace H := Option.bind_eq_some_iff.mp H
  obtain ⟨⟨t517, t518, t519, t520, t521, t522⟩, A60, H⟩ := H
  replace H : ((whole_ToInt.f k 2 3 t517).bind fun bt524 => ((whole_ToInt.f k 2 2 t517).bind fun bt531 => ((whole_ToInt.f k 2 1 t517).bind fun bt538 => ((whole_ToInt.f k 2 0 t517).bind fun bt545 => ((whole_ToInt.f k 2 4 t517).bind fun bt552 => (if bt524.2.2.2.2.2 = true then (if (t517 / 2147483648) = 1 then (anneallaw8_WholeSides.j1 k bt524.1 bt531.1 bt538.1 bt545.1 bt552.1 bt531.1) else (anneallaw8_WholeSides.j1 k bt524.1 bt531.1 bt538.1 bt545.1 bt552.1 bt524.1)) else (if bt524.1 = bt531.1 then (if bt538.1 = bt524.1 then (if bt545.1 = bt524.1 then (anneallaw8_WholeSides.j0 k (bt552.1 == bt524.1)) else (anneallaw8_WholeSides.j0 k false)) else (anneallaw8_WholeSides.j0 k false)) else (anneallaw8_WholeSides.j0 k false)))))))) = some r := H
  have A6 := Aside0.mk A60
  clear A60
  replace H := Option.bind_eq_some_iff.mp H
  obtain ⟨⟨t524, t525, t526, t527, t528, t529⟩, A70, H⟩ := H
  replace H : ((whole_ToInt.f k 2 2 t517).bind fun bt531 => ((whole_ToInt.f k 2 1 t517).bind fun bt538 => ((whole_ToInt.f k 2 0 t517).bind fun bt545 => ((whole_ToInt.f k 2 4 t517).bind fun bt552 => (if t529 = true then (if (t517 / 2147483648) = 1 then (anneallaw8_WholeSides.j1 k t524 bt531.1 bt538.1 bt545.1 bt552.1 bt531.1) else (anneallaw8_WholeSides.j1 k t524 bt531.1 bt538.1 bt545.1 bt552.1 t524)) else (if t524 = bt531.1 then (if bt538.1 = t524 then (if bt545.1 = t524 then (anneallaw8_WholeSides.j0 k (bt552.1 == t524)) else (anneallaw8_WholeSides.j0 k false)) else (anneallaw8_WholeSides.j0 k false)) else (anneallaw8_WholeSides.j0 k false))))))) = some r := H
  have A7 := Aside0.mk A70
  clear A70
  replace H := Option.bind_eq_some_iff.mp H
  obtain ⟨⟨t531, t532, t533, t534, t535, t536⟩, A80, H⟩ := H
  replace H : ((whole_ToInt.f k 2 1 t517).bind fun bt538 => ((whole_ToInt.f k 2 0 t517).bind fun bt545 => ((whole_ToInt.f k 2 4 t517).bind fun bt552 => (if t529 = true then (if (t517 / 2147483648) = 1 then (anneallaw8_WholeSides.j1 k t524 t531 bt538.1 bt545.1 bt552.1 t531) else (anneallaw8_WholeSides.j1 k t524 t531 bt538.1 bt545.1 bt552.1 t524)) else (if t524 = t531 then (if bt538.1 = t524 then (if bt545.1 = t524 then (anneallaw8_WholeSides.j0 k (bt552.1 == t524)) else (anneallaw8_WholeSides.j0 k false)) else (anneallaw8_WholeSides.j0 k false)) else (anneallaw8_WholeSides.j0 k false)))))) = some r := H
  have A8 := Aside0.mk A80
  clear A80
  replace H := Option.bind_eq_some_iff.mp H
  obtain ⟨⟨t538, t539, t540, t541, t542, t543⟩, A90, H⟩ := H
  replace H : ((whole_ToInt.f k 2 0 t517).bind fun bt545 => ((whole_ToInt.f k 2 4 t517).bind fun bt552 => (if t529 = true then (if (t517 / 2147483648) = 1 then (anneallaw8_WholeSides.j1 k t524 t531 t538 bt545.1 bt552.1 t531) else (anneallaw8_WholeSides.j1 k t524 t531 t538 bt545.1 bt552.1 t524)) else (if t524 = t531 then (if t538 = t524 then (if bt545.1 = t524 then (anneallaw8_WholeSides.j0 k (bt552.1 == t524)) else (anneallaw8_WholeSides.j0 k false)) else (anneallaw8_WholeSides.j0 k false)) else (anneallaw8_WholeSides.j0 k false))))) = some r := H
  have A9 := Aside0.mk A90
  clear A90
  replace H := Option.bind_eq_some_iff.mp H
  obtain ⟨⟨t545, t546, t547, t548, t549, t550⟩, A100, H⟩ := H
  replace H : ((whole_ToInt.f k 2 4 t517).bind fun bt552 => (if t529 = true then (if (t517 / 2147483648) = 1 then (anneallaw8_WholeSides.j1 k t524 t531 t538 t545 bt552.1 t531) else (anneallaw8_WholeSides.j1 k t524 t531 t538 t545 bt552.1 t524)) else (if t524 = t531 then (if t538 = t524 then (if t545 = t524 then (anneallaw8_WholeSides.j0 k (bt552.1 == t524)) else (anneallaw8_WholeSides.j0 k false)) else (anneallaw8_WholeSides.j0 k false)) else (anneallaw8_WholeSides.j0 k false)))) = some r := H
  have A10 := Aside0.mk A100
  clear A100
  replace H := Option.bind_eq_some_iff.mp H
  obtain ⟨⟨t552, t553, t554, t555, t556, t557⟩, A110, H⟩ := H
  replace H : (if t529 = true then (if (t517 / 2147483648) = 1 then (anneallaw8_WholeSides.j1 k t524 t531 t538 t545 t552 t531) else (anneallaw8_WholeSides.j1 k t524 t531 t538 t545 t552 t524)) else (if t524 = t531 then (if t538 = t524 then (if t545 = t524 then (anneallaw8_WholeSides.j0 k (t552 == t524)) else (anneallaw8_WholeSides.j0 k false)) else (anneallaw8_WholeSides.j0 k false)) else (anneallaw8_WholeSides.j0 k false))) = some r := H
  have A11 := Aside0.mk A110
  clear A110
  by_cases c12 : t529 = true
  ·subst c12
   have H1 : (if (t517 / 2147483648) = 1 then (anneallaw8_WholeSides.j1 k t524 t531 t538 t545 t552 t531) else (anneallaw8_WholeSides.j1 k t524 t531 t538 t545 t552 t524)) = some r := by rw [if_pos rfl] at H; exact H
   clear H
   have H := H1
   clear H1
   have HC13 := Aside0.mk H
   clear H
   go_enter Try.func8, Try.ntmps8
   go_upto_if 80 with (first | ((with_reducible refine gate_callee (f := 25) rfl ?_); refine goesL_ (some 19) rfl rfl Try.func25 (by kernel_rfl) rfl #[] rfl gl ?_; (with_reducible refine (anneallaw8_known.calls k  true _ A3.out).mono ?_); rintro e w14 ⟨rfl, hb⟩; refine ⟨_, rfl, ?_⟩; have n0_ := Aside0.mk (below_step (bl0 HB.out) hb); clear HB; have HB := n0_; clear n0_; (try clear hb); (try clear hb2); (try clear hk); (try clear hi)) | ((with_reducible refine gate_callee (f := 27) rfl ?_); refine goesL_ (some 22) rfl rfl Try.func27 (by kernel_rfl) rfl #[.int .i64 2, .int .u32 a0] rfl gl ?_; (with_reducible refine (annealseat_Mild.calls 2 a0 t516 _ A5.out).mono ?_); rintro e w' ⟨rfl, ⟨nd, rfl⟩⟩; refine ⟨_, rfl, ?_⟩; (try (rw [drewN_self w14]; generalize hq_ : World.drewN w14 _ = w14; have n0_ : Aside0 (Below w.heap.size w w14) := ⟨by rw [← hq_]; exact (bl0 HB.out)⟩; clear HB hq_; have HB := n0_; clear n0_))) | ((with_reducible refine gate_callee (f := 31) rfl ?_); refine goesL_ (some 28) rfl rfl Try.func31 (by kernel_rfl) rfl #[.int .i64 2, .int .i64 0, .int .u32 t516, .int .i64 (wrap64 (Int.tmod a1 12))] rfl gl ?_; (with_reducible refine (annealref1_Scale.calls k 2 0 t516 (wrap64 (Int.tmod a1 12)) t517 t518 t519 t520 t521 t522 _ A6.out).mono ?_); rintro e w15 ⟨rfl, hb⟩; refine ⟨_, rfl, ?_⟩; have n0_ := Aside0.mk (below_step (bl0 HB.out) hb); clear HB; have HB := n0_; clear n0_; (try clear hb); (try clear hb2); (try clear hk); (try clear hi)) | ((with_reducible refine gate_dst (N := 7) rfl ?_); refine box_event ?hg (N := 7) ?hd (cs := #[.bool false, .bool false, .bool false, .bool false, .bool false]) (t := 41) ?hr ?_; (case hd => rfl); (case hg => rfl); (case hr => first | (go_simp; done) | (go_simp; rfl)); intro gb523 hg w16 hbox hb; have n0_ := Aside0.mk (below_step (bl0 HB.out) hb); have n1_ := Aside0.mk (hbox); have n2_ := Aside0.mk ((by rw [hg]; exact (below_size (bl0 HB.out)) : w.heap.size ≤ gb523)); have n3_ := Aside0.mk ((by rw [hg]; exact (below_size (bl0 HB.out)) : w.heap.size ≤ gb523)); clear HB; have HB := n0_; have BK523 := n1_; have GW523 := n2_; have GE523 := n3_; clear n0_ n1_ n2_ n3_; clear hb hbox hg; obtain ⟨hcz17_0, hcz17_1, hcz17_2, hcz17_3, hcz17_4⟩ := bc5 BK523.out; obtain ⟨hfz17_0, hfz17_1, hfz17_2, hfz17_3, hfz17_4⟩ := bf5 BK523.out) | ((with_reducible refine gate_callee (f := 32) rfl ?_); refine goesL_ (some 33) rfl rfl Try.func32 (by kernel_rfl) rfl #[.int .i64 2, .int .i64 3, .int .u32 t517] rfl gl ?_; (with_reducible refine (whole_ToInt.calls k 2 3 t517 t524 t525 t526 t527 t528 true _ A7.out).mono ?_); rintro e w18 ⟨rfl, hb⟩; refine ⟨_, rfl, ?_⟩; have n0_ := Aside0.mk (blk_below (g := gb523) (o := .cells #[.bool t518, .bool t519, .bool t520, .bool t521, .bool t522] 41 (0, 0)) (by (with_reducible repeat (first | refine blk_drewN ?_ _ | refine blk_drew ?_ | refine blk_alloc ?_ _)); refine blk_put (cs := #[.bool t518, .bool t519, .bool t520, .bool t521, .bool false]) ?_ 4 _ rfl; (with_reducible repeat (first | refine blk_drewN ?_ _ | refine blk_drew ?_ | refine blk_alloc ?_ _)); refine blk_put (cs := #[.bool t518, .bool t519, .bool t520, .bool false, .bool false]) ?_ 3 _ rfl; (with_reducible repeat (first | refine blk_drewN ?_ _ | refine blk_drew ?_ | refine blk_alloc ?_ _)); refine blk_put (cs := #[.bool t518, .bool t519, .bool false, .bool false, .bool false]) ?_ 2 _ rfl; (with_reducible repeat (first | refine blk_drewN ?_ _ | refine blk_drew ?_ | refine blk_alloc ?_ _)); refine blk_put (cs := #[.bool t518, .bool false, .bool false, .bool false, .bool false]) ?_ 1 _ rfl; (with_reducible repeat (first | refine blk_drewN ?_ _ | refine blk_drew ?_ | refine blk_alloc ?_ _)); refine blk_put (cs := #[.bool false, .bool false, .bool false, .bool false, .bool false]) ?_ 0 _ rfl; (with_reducible repeat (first | refine blk_drewN ?_ _ | refine blk_drew ?_ | refine blk_alloc ?_ _)); exact BK523.out) hb); have n1_ := Aside0.mk (below_step (bl1 HB.out GE523.out) hb); clear BK523; clear HB; have BK523 := n0_; have HB := n1_; clear n0_ n1_; (try clear hb); (try clear hb2); (try clear hk); (try clear hi)) | ((with_reducible refine gate_dst (N := 9) rfl ?_); refine box_event ?hg (N := 9) ?hd (cs := #[.bool false, .bool false, .bool false, .bool false, .bool false]) (t := 41) ?hr ?_; (case hd => rfl); (case hg => rfl); (case hr => first | (go_simp; done) | (go_simp; rfl)); intro gb530 hg w19 hbox hb; have n0_ := Aside0.mk (blk_below (g := gb523) (o := .cells #[.bool t518, .bool t519, .bool t520, .bool t521, .bool t522] 41 (0, 0)) (bv BK523.out) hb); have n1_ := Aside0.mk (below_step (bl1 HB.out GE523.out) hb); have n2_ := Aside0.mk (hbox); have n3_ := Aside0.mk ((by rw [hg]; exact (below_size (bl1 HB.out GE523.out)) : w.heap.size ≤ gb530)); have n4_ := Aside0.mk ((by rw [hg]; exact (below_size (bl1 HB.out GE523.out)) : w.heap.size ≤ gb530)); have n5_ := Aside0.mk ((by rw [hg]; exact Nat.ne_of_lt (blk_lt (g := gb523) (o := .cells #[.bool t518, .bool t519, .bool t520, .bool t521, .bool t522] 41 (0, 0)) (bv BK523.out)) : gb523 ≠ gb530)); have n6_ := Aside0.mk ((by rw [hg]; exact Nat.ne_of_gt (blk_lt (g := gb523) (o := .cells #[.bool t518, .bool t519, .bool t520, .bool t521, .bool t522] 41 (0, 0)) (bv BK523.out)) : gb530 ≠ gb523)); clear BK523; clear HB; have BK523 := n0_; have HB := n1_; have BK530 := n2_; have GW530 := n3_; have GE530 := n4_; have NB523_530 := n5_; have NB530_523 := n6_; clear n0_ n1_ n2_ n3_ n4_ n5_ n6_; clear hb hbox hg; have hnb20 := NB530_523.out; have hnc20 := NB523_530.out; obtain ⟨hcz21_0, hcz21_1, hcz21_2, hcz21_3, hcz21_4⟩ := bc5 BK530.out; obtain ⟨hfz21_0, hfz21_1, hfz21_2, hfz21_3, hfz21_4⟩ := bf5 BK530.out) | ((with_reducible refine gate_callee (f := 32) rfl ?_); refine goesL_ (some 38) rfl rfl Try.func32 (by kernel_rfl) rfl #[.int .i64 2, .int .i64 2, .int .u32 t517] rfl gl ?_; (with_reducible refine (whole_ToInt.calls k 2 2 t517 t531 t532 t533 t534 t535 t536 _ A8.out).mono ?_); rintro e w22 ⟨rfl, hb⟩; refine ⟨_, rfl, ?_⟩; have n0_ := Aside0.mk (blk_below (g := gb523) (o := .cells #[.bool t518, .bool t519, .bool t520, .bool t521, .bool t522] 41 (0, 0)) (by (with_reducible repeat (first | refine blk_drewN ?_ _ | refine blk_drew ?_ | refine blk_alloc ?_ _)); refine blk_far ?_ NB523_530.out _; (with_reducible repeat (first | refine blk_drewN ?_ _ | refine blk_drew ?_ | refine blk_alloc ?_ _)); refine blk_far ?_ NB523_530.out _; (with_reducible repeat (first | refine blk_drewN ?_ _ | refine blk_drew ?_ | refine blk_alloc ?_ _)); refine blk_far ?_ NB523_530.out _; (with_reducible repeat (first | refine blk_drewN ?_ _ | refine blk_drew ?_ | refine blk_alloc ?_ _)); refine blk_far ?_ NB523_530.out _; (with_reducible repeat (first | refine blk_drewN ?_ _ | refine blk_drew ?_ | refine blk_alloc ?_ _)); refine blk_far ?_ NB523_530.out _; (with_reducible repeat (first | refine blk_drewN ?_ _ | refine blk_drew ?_ | refine blk_alloc ?_ _)); exact BK523.out) hb); have n1_ := Aside0.mk (blk_below (g := gb530) (o := .cells #[.bool t525, .bool t526, .bool t527, .bool t528, .bool true] 41 (0, 0)) (by (with_reducible repeat (first | refine blk_drewN ?_ _ | refine blk_drew ?_ | refine blk_alloc ?_ _)); refine blk_put (cs := #[.bool t525, .bool t526, .bool t527, .bool t528, .bool false]) ?_ 4 _ rfl; (with_reducible repeat (first | refine blk_drewN ?_ _ | refine blk_drew ?_ | refine blk_alloc ?_ _)); refine blk_put (cs := #[.bool t525, .bool t526, .bool t527, .bool false, .bool false]) ?_ 3 _ rfl; (with_reducible repeat (first | refine blk_drewN ?_ _ | refine blk_drew ?_ | refine blk_alloc ?_ _)); refine blk_put (cs := #[.bool t525, .bool t526, .bool false, .bool false, .bool false]) ?_ 2 _ rfl; (with_reducible repeat (first | refine blk_drewN ?_ _ | refine blk_drew ?_ | refine blk_alloc ?_ _)); refine blk_put (cs := #[.bool t525, .bool false, .bool false, .bool false, .bool false]) ?_ 1 _ rfl; (with_reducible repeat (first | refine blk_drewN ?_ _ | refine blk_drew ?_ | refine blk_alloc ?_ _)); refine blk_put (cs := #[.bool false, .bool false, .bool false, .bool false, .bool false]) ?_ 0 _ rfl; (with_reducible repeat (first | refine blk_drewN ?_ _ | refine blk_drew ?_ | refine blk_alloc ?_ _)); exact BK530.out) hb); have n2_ := Aside0.mk (below_step (bl2 HB.out GE523.out GE530.out) hb); clear BK523; clear BK530; clear HB; have BK523 := n0_; have BK530 := n1_; have HB := n2_; clear n0_ n1_ n2_; (try clear hb); (try clear hb2); (try clear hk); (try clear hi)) | ((with_reducible refine gate_dst (N := 11) rfl ?_); refine box_event ?hg (N := 11) ?hd (cs := #[.bool false, .bool false, .bool false, .bool false, .bool false]) (t := 41) ?hr ?_; (case hd => rfl); (case hg => rfl); (case hr => first | (go_simp; done) | (go_simp; rfl)); intro gb537 hg w23 hbox hb; have n0_ := Aside0.mk (blk_below (g := gb523) (o := .cells #[.bool t518, .bool t519, .bool t520, .bool t521, .bool t522] 41 (0, 0)) (bv BK523.out) hb); have n1_ := Aside0.mk (blk_below (g := gb530) (o := .cells #[.bool t525, .bool t526, .bool t527, .bool t528, .bool true] 41 (0, 0)) (bv BK530.out) hb); have n2_ := Aside0.mk (below_step (bl2 HB.out GE523.out GE530.out) hb); have n3_ := Aside0.mk (hbox); have n4_ := Aside0.mk ((by rw [hg]; exact (below_size (bl2 HB.out GE523.out GE530.out)) : w.heap.size ≤ gb537)); have n5_ := Aside0.mk ((by rw [hg]; exact (below_size (bl2 HB.out GE523.out GE530.out)) : w.heap.size ≤ gb537)); have n6_ := Aside0.mk ((by rw [hg]; exact Nat.ne_of_lt (blk_lt (g := gb523) (o := .cells #[.bool t518, .bool t519, .bool t520, .bool t521, .bool t522] 41 (0, 0)) (bv BK523.out)) : gb523 ≠ gb537)); have n7_ := Aside0.mk ((by rw [hg]; exact Nat.ne_of_gt (blk_lt (g := gb523) (o := .cells #[.bool t518, .bool t519, .bool t520, .bool t521, .bool t522] 41 (0, 0)) (bv BK523.out)) : gb537 ≠ gb523)); have n8_ := Aside0.mk ((by rw [hg]; exact Nat.ne_of_lt (blk_lt (g := gb530) (o := .cells #[.bool t525, .bool t526, .bool t527, .bool t528, .bool true] 41 (0, 0)) (bv BK530.out)) : gb530 ≠ gb537)); have n9_ := Aside0.mk ((by rw [hg]; exact Nat.ne_of_gt (blk_lt (g := gb530) (o := .cells #[.bool t525, .bool t526, .bool t527, .bool t528, .bool true] 41 (0, 0)) (bv BK530.out)) : gb537 ≠ gb530)); clear BK523; clear BK530; clear HB; have BK523 := n0_; have BK530 := n1_; have HB := n2_; have BK537 := n3_; have GW537 := n4_; have GE537 := n5_; have NB523_537 := n6_; have NB537_523 := n7_; have NB530_537 := n8_; have NB537_530 := n9_; clear n0_ n1_ n2_ n3_ n4_ n5_ n6_ n7_ n8_ n9_; clear hb hbox hg; have hnb24 := NB537_523.out; have hnc24 := NB523_537.out; have hnb25 := NB537_530.out; have hnc25 := NB530_537.out; obtain ⟨hcz26_0, hcz26_1, hcz26_2, hcz26_3, hcz26_4⟩ := bc5 BK537.out; obtain ⟨hfz26_0, hfz26_1, hfz26_2, hfz26_3, hfz26_4⟩ := bf5 BK537.out) | ((with_reducible refine gate_callee (f := 32) rfl ?_); refine goesL_ (some 43) rfl rfl Try.func32 (by kernel_rfl) rfl #[.int .i64 2, .int .i64 1, .int .u32 t517] rfl gl ?_; (with_reducible refine (whole_ToInt.calls k 2 1 t517 t538 t539 t540 t541 t542 t543 _ A9.out).mono ?_); rintro e w27 ⟨rfl, hb⟩; refine ⟨_, rfl, ?_⟩; have n0_ := Aside0.mk (blk_below (g := gb523) (o := .cells #[.bool t518, .bool t519, .bool t520, .bool t521, .bool t522] 41 (0, 0)) (by (with_reducible repeat (first | refine blk_drewN ?_ _ | refine blk_drew ?_ | refine blk_alloc ?_ _)); refine blk_far ?_ NB523_537.out _; (with_reducible repeat (first | refine blk_drewN ?_ _ | refine blk_drew ?_ | refine blk_alloc ?_ _)); refine blk_far ?_ NB523_537.out _; (with_reducible repeat (first | refine blk_drewN ?_ _ | refine blk_drew ?_ | refine blk_alloc ?_ _)); refine blk_far ?_ NB523_537.out _; (with_reducible repeat (first | refine blk_drewN ?_ _ | refine blk_drew ?_ | refine blk_alloc ?_ _)); refine blk_far ?_ NB523_537.out _; (with_reducible repeat (first | refine blk_drewN ?_ _ | refine blk_drew ?_ | refine blk_alloc ?_ _)); refine blk_far ?_ NB523_537.out _; (with_reducible repeat (first | refine blk_drewN ?_ _ | refine blk_drew ?_ | refine blk_alloc ?_ _)); exact BK523.out) hb); have n1_ := Aside0.mk (blk_below (g := gb530) (o := .cells #[.bool t525, .bool t526, .bool t527, .bool t528, .bool true] 41 (0, 0)) (by (with_reducible repeat (first | refine blk_drewN ?_ _ | refine blk_drew ?_ | refine blk_alloc ?_ _)); refine blk_far ?_ NB530_537.out _; (with_reducible repeat (first | refine blk_drewN ?_ _ | refine blk_drew ?_ | refine blk_alloc ?_ _)); refine blk_far ?_ NB530_537.out _; (with_reducible repeat (first | refine blk_drewN ?_ _ | refine blk_drew ?_ | refine blk_alloc ?_ _)); refine blk_far ?_ NB530_537.out _; (with_reducible repeat (first | refine blk_drewN ?_ _ | refine blk_drew ?_ | refine blk_alloc ?_ _)); refine blk_far ?_ NB530_537.out _; (with_reducible repeat (first | refine blk_drewN ?_ _ | refine blk_drew ?_ | refine blk_alloc ?_ _)); refine blk_far ?_ NB530_537.out _; (with_reducible repeat (first | refine blk_drewN ?_ _ | refine blk_drew ?_ | refine blk_alloc ?_ _)); exact BK530.out) hb); have n2_ := Aside0.mk (blk_below (g := gb537) (o := .cells #[.bool t532, .bool t533, .bool t534, .bool t535, .bool t536] 41 (0, 0)) (by (with_reducible repeat (first | refine blk_drewN ?_ _ | refine blk_drew ?_ | refine blk_alloc ?_ _)); refine blk_put (cs := #[.bool t532, .bool t533, .bool t534, .bool t535, .bool false]) ?_ 4 _ rfl; (with_reducible repeat (first | refine blk_drewN ?_ _ | refine blk_drew ?_ | refine blk_alloc ?_ _)); refine blk_put (cs := #[.bool t532, .bool t533, .bool t534, .bool false, .bool false]) ?_ 3 _ rfl; (with_reducible repeat (first | refine blk_drewN ?_ _ | refine blk_drew ?_ | refine blk_alloc ?_ _)); refine blk_put (cs := #[.bool t532, .bool t533, .bool false, .bool false, .bool false]) ?_ 2 _ rfl; (with_reducible repeat (first | refine blk_drewN ?_ _ | refine blk_drew ?_ | refine blk_alloc ?_ _)); refine blk_put (cs := #[.bool t532, .bool false, .bool false, .bool false, .bool false]) ?_ 1 _ rfl; (with_reducible repeat (first | refine blk_drewN ?_ _ | refine blk_drew ?_ | refine blk_alloc ?_ _)); refine blk_put (cs := #[.bool false, .bool false, .bool false, .bool false, .bool false]) ?_ 0 _ rfl; (with_reducible repeat (first | refine blk_drewN ?_ _ | refine blk_drew ?_ | refine blk_alloc ?_ _)); exact BK537.out) hb); have n3_ := Aside0.mk (below_step (bl3 HB.out GE523.out GE530.out GE537.out) hb); clear BK523; clear BK530; clear BK537; clear HB; have BK523 := n0_; have BK530 := n1_; have BK537 := n2_; have HB := n3_; clear n0_ n1_ n2_ n3_; (try clear hb); (try clear hb2); (try clear hk); (try clear hi)) | ((with_reducible refine gate_dst (N := 13) rfl ?_); refine box_event ?hg (N := 13) ?hd (cs := #[.bool false, .bool false, .bool false, .bool false, .bool false]) (t := 41) ?hr ?_; (case hd => rfl); (case hg => rfl); (case hr => first | (go_simp; done) | (go_simp; rfl)); intro gb544 hg w28 hbox hb; have n0_ := Aside0.mk (blk_below (g := gb523) (o := .cells #[.bool t518, .bool t519, .bool t520, .bool t521, .bool t522] 41 (0, 0)) (bv BK523.out) hb); have n1_ := Aside0.mk (blk_below (g := gb530) (o := .cells #[.bool t525, .bool t526, .bool t527, .bool t528, .bool true] 41 (0, 0)) (bv BK530.out) hb); have n2_ := Aside0.mk (blk_below (g := gb537) (o := .cells #[.bool t532, .bool t533, .bool t534, .bool t535, .bool t536] 41 (0, 0)) (bv BK537.out) hb); have n3_ := Aside0.mk (below_step (bl3 HB.out GE523.out GE530.out GE537.out) hb); have n4_ := Aside0.mk (hbox); have n5_ := Aside0.mk ((by rw [hg]; exact (below_size (bl3 HB.out GE523.out GE530.out GE537.out)) : w.heap.size ≤ gb544)); have n6_ := Aside0.mk ((by rw [hg]; exact (below_size (bl3 HB.out GE523.out GE530.out GE537.out)) : w.heap.size ≤ gb544)); have n7_ := Aside0.mk ((by rw [hg]; exact Nat.ne_of_lt (blk_lt (g := gb523) (o := .cells #[.bool t518, .bool t519, .bool t520, .bool t521, .bool t522] 41 (0, 0)) (bv BK523.out)) : gb523 ≠ gb544)); have n8_ := Aside0.mk ((by rw [hg]; exact Nat.ne_of_gt (blk_lt (g := gb523) (o := .cells #[.bool t518, .bool t519, .bool t520, .bool t521, .bool t522] 41 (0, 0)) (bv BK523.out)) : gb544 ≠ gb523)); have n9_ := Aside0.mk ((by rw [hg]; exact Nat.ne_of_lt (blk_lt (g := gb530) (o := .cells #[.bool t525, .bool t526, .bool t527, .bool t528, .bool true] 41 (0, 0)) (bv BK530.out)) : gb530 ≠ gb544)); have n10_ := Aside0.mk ((by rw [hg]; exact Nat.ne_of_gt (blk_lt (g := gb530) (o := .cells #[.bool t525, .bool t526, .bool t527, .bool t528, .bool true] 41 (0, 0)) (bv BK530.out)) : gb544 ≠ gb530)); have n11_ := Aside0.mk ((by rw [hg]; exact Nat.ne_of_lt (blk_lt (g := gb537) (o := .cells #[.bool t532, .bool t533, .bool t534, .bool t535, .bool t536] 41 (0, 0)) (bv BK537.out)) : gb537 ≠ gb544)); have n12_ := Aside0.mk ((by rw [hg]; exact Nat.ne_of_gt (blk_lt (g := gb537) (o := .cells #[.bool t532, .bool t533, .bool t534, .bool t535, .bool t536] 41 (0, 0)) (bv BK537.out)) : gb544 ≠ gb537)); clear BK523; clear BK530; clear BK537; clear HB; have BK523 := n0_; have BK530 := n1_; have BK537 := n2_; have HB := n3_; have BK544 := n4_; have GW544 := n5_; have GE544 := n6_; have NB523_544 := n7_; have NB544_523 := n8_; have NB530_544 := n9_; have NB544_530 := n10_; have NB537_544 := n11_; have NB544_537 := n12_; clear n0_ n1_ n2_ n3_ n4_ n5_ n6_ n7_ n8_ n9_ n10_ n11_ n12_; clear hb hbox hg; have hnb29 := NB544_523.out; have hnc29 := NB523_544.out; have hnb30 := NB544_530.out; have hnc30 := NB530_544.out; have hnb31 := NB544_537.out; have hnc31 := NB537_544.out; obtain ⟨hcz32_0, hcz32_1, hcz32_2, hcz32_3, hcz32_4⟩ := bc5 BK544.out; obtain ⟨hfz32_0, hfz32_1, hfz32_2, hfz32_3, hfz32_4⟩ := bf5 BK544.out) | ((with_reducible refine gate_callee (f := 32) rfl ?_); refine goesL_ (some 48) rfl rfl Try.func32 (by kernel_rfl) rfl #[.int .i64 2, .int .i64 0, .int .u32 t517] rfl gl ?_; (with_reducible refine (whole_ToInt.calls k 2 0 t517 t545 t546 t547 t548 t549 t550 _ A10.out).mono ?_); rintro e w33 ⟨rfl, hb⟩; refine ⟨_, rfl, ?_⟩; have n0_ := Aside0.mk (blk_below (g := gb523) (o := .cells #[.bool t518, .bool t519, .bool t520, .bool t521, .bool t522] 41 (0, 0)) (by (with_reducible repeat (first | refine blk_drewN ?_ _ | refine blk_drew ?_ | refine blk_alloc ?_ _)); refine blk_far ?_ NB523_544.out _; (with_reducible repeat (first | refine blk_drewN ?_ _ | refine blk_drew ?_ | refine blk_alloc ?_ _)); refine blk_far ?_ NB523_544.out _; (with_reducible repeat (first | refine blk_drewN ?_ _ | refine blk_drew ?_ | refine blk_alloc ?_ _)); refine blk_far ?_ NB523_544.out _; (with_reducible repeat (first | refine blk_drewN ?_ _ | refine blk_drew ?_ | refine blk_alloc ?_ _)); refine blk_far ?_ NB523_544.out _; (with_reducible repeat (first | refine blk_drewN ?_ _ | refine blk_drew ?_ | refine blk_alloc ?_ _)); refine blk_far ?_ NB523_544.out _; (with_reducible repeat (first | refine blk_drewN ?_ _ | refine blk_drew ?_ | refine blk_alloc ?_ _)); exact BK523.out) hb); have n1_ := Aside0.mk (blk_below (g := gb530) (o := .cells #[.bool t525, .bool t526, .bool t527, .bool t528, .bool true] 41 (0, 0)) (by (with_reducible repeat (first | refine blk_drewN ?_ _ | refine blk_drew ?_ | refine blk_alloc ?_ _)); refine blk_far ?_ NB530_544.out _; (with_reducible repeat (first | refine blk_drewN ?_ _ | refine blk_drew ?_ | refine blk_alloc ?_ _)); refine blk_far ?_ NB530_544.out _; (with_reducible repeat (first | refine blk_drewN ?_ _ | refine blk_drew ?_ | refine blk_alloc ?_ _)); refine blk_far ?_ NB530_544.out _; (with_reducible repeat (first | refine blk_drewN ?_ _ | refine blk_drew ?_ | refine blk_alloc ?_ _)); refine blk_far ?_ NB530_544.out _; (with_reducible repeat (first | refine blk_drewN ?_ _ | refine blk_drew ?_ | refine blk_alloc ?_ _)); refine blk_far ?_ NB530_544.out _; (with_reducible repeat (first | refine blk_drewN ?_ _ | refine blk_drew ?_ | refine blk_alloc ?_ _)); exact BK530.out) hb); have n2_ := Aside0.mk (blk_below (g := gb537) (o := .cells #[.bool t532, .bool t533, .bool t534, .bool t535, .bool t536] 41 (0, 0)) (by (with_reducible repeat (first | refine blk_drewN ?_ _ | refine blk_drew ?_ | refine blk_alloc ?_ _)); refine blk_far ?_ NB537_544.out _; (with_reducible repeat (first | refine blk_drewN ?_ _ | refine blk_drew ?_ | refine blk_alloc ?_ _)); refine blk_far ?_ NB537_544.out _; (with_reducible repeat (first | refine blk_drewN ?_ _ | refine blk_drew ?_ | refine blk_alloc ?_ _)); refine blk_far ?_ NB537_544.out _; (with_reducible repeat (first | refine blk_drewN ?_ _ | refine blk_drew ?_ | refine blk_alloc ?_ _)); refine blk_far ?_ NB537_544.out _; (with_reducible repeat (first | refine blk_drewN ?_ _ | refine blk_drew ?_ | refine blk_alloc ?_ _)); refine blk_far ?_ NB537_544.out _; (with_reducible repeat (first | refine blk_drewN ?_ _ | refine blk_drew ?_ | refine blk_alloc ?_ _)); exact BK537.out) hb); have n3_ := Aside0.mk (blk_below (g := gb544) (o := .cells #[.bool t539, .bool t540, .bool t541, .bool t542, .bool t543] 41 (0, 0)) (by (with_reducible repeat (first | refine blk_drewN ?_ _ | refine blk_drew ?_ | refine blk_alloc ?_ _)); refine blk_put (cs := #[.bool t539, .bool t540, .bool t541, .bool t542, .bool false]) ?_ 4 _ rfl; (with_reducible repeat (first | refine blk_drewN ?_ _ | refine blk_drew ?_ | refine blk_alloc ?_ _)); refine blk_put (cs := #[.bool t539, .bool t540, .bool t541, .bool false, .bool false]) ?_ 3 _ rfl; (with_reducible repeat (first | refine blk_drewN ?_ _ | refine blk_drew ?_ | refine blk_alloc ?_ _)); refine blk_put (cs := #[.bool t539, .bool t540, .bool false, .bool false, .bool false]) ?_ 2 _ rfl; (with_reducible repeat (first | refine blk_drewN ?_ _ | refine blk_drew ?_ | refine blk_alloc ?_ _)); refine blk_put (cs := #[.bool t539, .bool false, .bool false, .bool false, .bool false]) ?_ 1 _ rfl; (with_reducible repeat (first | refine blk_drewN ?_ _ | refine blk_drew ?_ | refine blk_alloc ?_ _)); refine blk_put (cs := #[.bool false, .bool false, .bool false, .bool false, .bool false]) ?_ 0 _ rfl; (with_reducible repeat (first | refine blk_drewN ?_ _ | refine blk_drew ?_ | refine blk_alloc ?_ _)); exact BK544.out) hb); have n4_ := Aside0.mk (below_step (bl4 HB.out GE523.out GE530.out GE537.out GE544.out) hb); clear BK523; clear BK530; clear BK537; clear BK544; clear HB; have BK523 := n0_; have BK530 := n1_; have BK537 := n2_; have BK544 := n3_; have HB := n4_; clear n0_ n1_ n2_ n3_ n4_; (try clear hb); (try clear hb2); (try clear hk); (try clear hi)) | ((with_reducible refine gate_dst (N := 15) rfl ?_); refine box_event ?hg (N := 15) ?hd (cs := #[.bool false, .bool false, .bool false, .bool false, .bool false]) (t := 41) ?hr ?_; (case hd => rfl); (case hg => rfl); (case hr => first | (go_simp; done) | (go_simp; rfl)); intro gb551 hg w34 hbox hb; have n0_ := Aside0.mk (blk_below (g := gb523) (o := .cells #[.bool t518, .bool t519, .bool t520, .bool t521, .bool t522] 41 (0, 0)) (bv BK523.out) hb); have n1_ := Aside0.mk (blk_below (g := gb530) (o := .cells #[.bool t525, .bool t526, .bool t527, .bool t528, .bool true] 41 (0, 0)) (bv BK530.out) hb); have n2_ := Aside0.mk (blk_below (g := gb537) (o := .cells #[.bool t532, .bool t533, .bool t534, .bool t535, .bool t536] 41 (0, 0)) (bv BK537.out) hb); have n3_ := Aside0.mk (blk_below (g := gb544) (o := .cells #[.bool t539, .bool t540, .bool t541, .bool t542, .bool t543] 41 (0, 0)) (bv BK544.out) hb); have n4_ := Aside0.mk (below_step (bl4 HB.out GE523.out GE530.out GE537.out GE544.out) hb); have n5_ := Aside0.mk (hbox); have n6_ := Aside0.mk ((by rw [hg]; exact (below_size (bl4 HB.out GE523.out GE530.out GE537.out GE544.out)) : w.heap.size ≤ gb551)); have n7_ := Aside0.mk ((by rw [hg]; exact (below_size (bl4 HB.out GE523.out GE530.out GE537.out GE544.out)) : w.heap.size ≤ gb551)); have n8_ := Aside0.mk ((by rw [hg]; exact Nat.ne_of_lt (blk_lt (g := gb523) (o := .cells #[.bool t518, .bool t519, .bool t520, .bool t521, .bool t522] 41 (0, 0)) (bv BK523.out)) : gb523 ≠ gb551)); have n9_ := Aside0.mk ((by rw [hg]; exact Nat.ne_of_gt (blk_lt (g := gb523) (o := .cells #[.bool t518, .bool t519, .bool t520, .bool t521, .bool t522] 41 (0, 0)) (bv BK523.out)) : gb551 ≠ gb523)); have n10_ := Aside0.mk ((by rw [hg]; exact Nat.ne_of_lt (blk_lt (g := gb530) (o := .cells #[.bool t525, .bool t526, .bool t527, .bool t528, .bool true] 41 (0, 0)) (bv BK530.out)) : gb530 ≠ gb551)); have n11_ := Aside0.mk ((by rw [hg]; exact Nat.ne_of_gt (blk_lt (g := gb530) (o := .cells #[.bool t525, .bool t526, .bool t527, .bool t528, .bool true] 41 (0, 0)) (bv BK530.out)) : gb551 ≠ gb530)); have n12_ := Aside0.mk ((by rw [hg]; exact Nat.ne_of_lt (blk_lt (g := gb537) (o := .cells #[.bool t532, .bool t533, .bool t534, .bool t535, .bool t536] 41 (0, 0)) (bv BK537.out)) : gb537 ≠ gb551)); have n13_ := Aside0.mk ((by rw [hg]; exact Nat.ne_of_gt (blk_lt (g := gb537) (o := .cells #[.bool t532, .bool t533, .bool t534, .bool t535, .bool t536] 41 (0, 0)) (bv BK537.out)) : gb551 ≠ gb537)); have n14_ := Aside0.mk ((by rw [hg]; exact Nat.ne_of_lt (blk_lt (g := gb544) (o := .cells #[.bool t539, .bool t540, .bool t541, .bool t542, .bool t543] 41 (0, 0)) (bv BK544.out)) : gb544 ≠ gb551)); have n15_ := Aside0.mk ((by rw [hg]; exact Nat.ne_of_gt (blk_lt (g := gb544) (o := .cells #[.bool t539, .bool t540, .bool t541, .bool t542, .bool t543] 41 (0, 0)) (bv BK544.out)) : gb551 ≠ gb544)); clear BK523; clear BK530; clear BK537; clear BK544; clear HB; have BK523 := n0_; have BK530 := n1_; have BK537 := n2_; have BK544 := n3_; have HB := n4_; have BK551 := n5_; have GW551 := n6_; have GE551 := n7_; have NB523_551 := n8_; have NB551_523 := n9_; have NB530_551 := n10_; have NB551_530 := n11_; have NB537_551 := n12_; have NB551_537 := n13_; have NB544_551 := n14_; have NB551_544 := n15_; clear n0_ n1_ n2_ n3_ n4_ n5_ n6_ n7_ n8_ n9_ n10_ n11_ n12_ n13_ n14_ n15_; clear hb hbox hg; have hnb35 := NB551_523.out; have hnc35 := NB523_551.out; have hnb36 := NB551_530.out; have hnc36 := NB530_551.out; have hnb37 := NB551_537.out; have hnc37 := NB537_551.out; have hnb38 := NB551_544.out; have hnc38 := NB544_551.out; obtain ⟨hcz39_0, hcz39_1, hcz39_2, hcz39_3, hcz39_4⟩ := bc5 BK551.out; obtain ⟨hfz39_0, hfz39_1, hfz39_2, hfz39_3, hfz39_4⟩ := bf5 BK551.out) | ((with_reducible refine gate_callee (f := 32) rfl ?_); refine goesL_ (some 53) rfl rfl Try.func32 (by kernel_rfl) rfl #[.int .i64 2, .int .i64 4, .int .u32 t517] rfl gl ?_; (with_reducible refine (whole_ToInt.calls k 2 4 t517 t552 t553 t554 t555 t556 t557 _ A11.out).mono ?_); rintro e w40 ⟨rfl, hb⟩; refine ⟨_, rfl, ?_⟩; have n0_ := Aside0.mk (blk_below (g := gb523) (o := .cells #[.bool t518, .bool t519, .bool t520, .bool t521, .bool t522] 41 (0, 0)) (by (with_reducible repeat (first | refine blk_drewN ?_ _ | refine blk_drew ?_ | refine blk_alloc ?_ _)); refine blk_far ?_ NB523_551.out _; (with_reducible repeat (first | refine blk_drewN ?_ _ | refine blk_drew ?_ | refine blk_alloc ?_ _)); refine blk_far ?_ NB523_551.out _; (with_reducible repeat (first | refine blk_drewN ?_ _ | refine blk_drew ?_ | refine blk_alloc ?_ _)); refine blk_far ?_ NB523_551.out _; (with_reducible repeat (first | refine blk_drewN ?_ _ | refine blk_drew ?_ | refine blk_alloc ?_ _)); refine blk_far ?_ NB523_551.out _; (with_reducible repeat (first | refine blk_drewN ?_ _ | refine blk_drew ?_ | refine blk_alloc ?_ _)); refine blk_far ?_ NB523_551.out _; (with_reducible repeat (first | refine blk_drewN ?_ _ | refine blk_drew ?_ | refine blk_alloc ?_ _)); exact BK523.out) hb); have n1_ := Aside0.mk (blk_below (g := gb530) (o := .cells #[.bool t525, .bool t526, .bool t527, .bool t528, .bool true] 41 (0, 0)) (by (with_reducible repeat (first | refine blk_drewN ?_ _ | refine blk_drew ?_ | refine blk_alloc ?_ _)); refine blk_far ?_ NB530_551.out _; (with_reducible repeat (first | refine blk_drewN ?_ _ | refine blk_drew ?_ | refine blk_alloc ?_ _)); refine blk_far ?_ NB530_551.out _; (with_reducible repeat (first | refine blk_drewN ?_ _ | refine blk_drew ?_ | refine blk_alloc ?_ _)); refine blk_far ?_ NB530_551.out _; (with_reducible repeat (first | refine blk_drewN ?_ _ | refine blk_drew ?_ | refine blk_alloc ?_ _)); refine blk_far ?_ NB530_551.out _; (with_reducible repeat (first | refine blk_drewN ?_ _ | refine blk_drew ?_ | refine blk_alloc ?_ _)); refine blk_far ?_ NB530_551.out _; (with_reducible repeat (first | refine blk_drewN ?_ _ | refine blk_drew ?_ | refine blk_alloc ?_ _)); exact BK530.out) hb); have n2_ := Aside0.mk (blk_below (g := gb537) (o := .cells #[.bool t532, .bool t533, .bool t534, .bool t535, .bool t536] 41 (0, 0)) (by (with_reducible repeat (first | refine blk_drewN ?_ _ | refine blk_drew ?_ | refine blk_alloc ?_ _)); refine blk_far ?_ NB537_551.out _; (with_reducible repeat (first | refine blk_drewN ?_ _ | refine blk_drew ?_ | refine blk_alloc ?_ _)); refine blk_far ?_ NB537_551.out _; (with_reducible repeat (first | refine blk_drewN ?_ _ | refine blk_drew ?_ | refine blk_alloc ?_ _)); refine blk_far ?_ NB537_551.out _; (with_reducible repeat (first | refine blk_drewN ?_ _ | refine blk_drew ?_ | refine blk_alloc ?_ _)); refine blk_far ?_ NB537_551.out _; (with_reducible repeat (first | refine blk_drewN ?_ _ | refine blk_drew ?_ | refine blk_alloc ?_ _)); refine blk_far ?_ NB537_551.out _; (with_reducible repeat (first | refine blk_drewN ?_ _ | refine blk_drew ?_ | refine blk_alloc ?_ _)); exact BK537.out) hb); have n3_ := Aside0.mk (blk_below (g := gb544) (o := .cells #[.bool t539, .bool t540, .bool t541, .bool t542, .bool t543] 41 (0, 0)) (by (with_reducible repeat (first | refine blk_drewN ?_ _ | refine blk_drew ?_ | refine blk_alloc ?_ _)); refine blk_far ?_ NB544_551.out _; (with_reducible repeat (first | refine blk_drewN ?_ _ | refine blk_drew ?_ | refine blk_alloc ?_ _)); refine blk_far ?_ NB544_551.out _; (with_reducible repeat (first | refine blk_drewN ?_ _ | refine blk_drew ?_ | refine blk_alloc ?_ _)); refine blk_far ?_ NB544_551.out _; (with_reducible repeat (first | refine blk_drewN ?_ _ | refine blk_drew ?_ | refine blk_alloc ?_ _)); refine blk_far ?_ NB544_551.out _; (with_reducible repeat (first | refine blk_drewN ?_ _ | refine blk_drew ?_ | refine blk_alloc ?_ _)); refine blk_far ?_ NB544_551.out _; (with_reducible repeat (first | refine blk_drewN ?_ _ | refine blk_drew ?_ | refine blk_alloc ?_ _)); exact BK544.out) hb); have n4_ := Aside0.mk (blk_below (g := gb551) (o := .cells #[.bool t546, .bool t547, .bool t548, .bool t549, .bool t550] 41 (0, 0)) (by (with_reducible repeat (first | refine blk_drewN ?_ _ | refine blk_drew ?_ | refine blk_alloc ?_ _)); refine blk_put (cs := #[.bool t546, .bool t547, .bool t548, .bool t549, .bool false]) ?_ 4 _ rfl; (with_reducible repeat (first | refine blk_drewN ?_ _ | refine blk_drew ?_ | refine blk_alloc ?_ _)); refine blk_put (cs := #[.bool t546, .bool t547, .bool t548, .bool false, .bool false]) ?_ 3 _ rfl; (with_reducible repeat (first | refine blk_drewN ?_ _ | refine blk_drew ?_ | refine blk_alloc ?_ _)); refine blk_put (cs := #[.bool t546, .bool t547, .bool false, .bool false, .bool false]) ?_ 2 _ rfl; (with_reducible repeat (first | refine blk_drewN ?_ _ | refine blk_drew ?_ | refine blk_alloc ?_ _)); refine blk_put (cs := #[.bool t546, .bool false, .bool false, .bool false, .bool false]) ?_ 1 _ rfl; (with_reducible repeat (first | refine blk_drewN ?_ _ | refine blk_drew ?_ | refine blk_alloc ?_ _)); refine blk_put (cs := #[.bool false, .bool false, .bool false, .bool false, .bool false]) ?_ 0 _ rfl; (with_reducible repeat (first | refine blk_drewN ?_ _ | refine blk_drew ?_ | refine blk_alloc ?_ _)); exact BK551.out) hb); have n5_ := Aside0.mk (below_step (bl5 HB.out GE523.out GE530.out GE537.out GE544.out GE551.out) hb); clear BK523; clear BK530; clear BK537; clear BK544; clear BK551; clear HB; have BK523 := n0_; have BK530 := n1_; have BK537 := n2_; have BK544 := n3_; have BK551 := n4_; have HB := n5_; clear n0_ n1_ n2_ n3_ n4_ n5_; (try clear hb); (try clear hb2); (try clear hk); (try clear hi)) | ((with_reducible refine gate_dst (N := 17) rfl ?_); refine box_event ?hg (N := 17) ?hd (cs := #[.bool false, .bool false, .bool false, .bool false, .bool false]) (t := 41) ?hr ?_; (case hd => rfl); (case hg => rfl); (case hr => first | (go_simp; done) | (go_simp; rfl)); intro gb558 hg w41 hbox hb; have n0_ := Aside0.mk (blk_below (g := gb523) (o := .cells #[.bool t518, .bool t519, .bool t520, .bool t521, .bool t522] 41 (0, 0)) (bv BK523.out) hb); have n1_ := Aside0.mk (blk_below (g := gb530) (o := .cells #[.bool t525, .bool t526, .bool t527, .bool t528, .bool true] 41 (0, 0)) (bv BK530.out) hb); have n2_ := Aside0.mk (blk_below (g := gb537) (o := .cells #[.bool t532, .bool t533, .bool t534, .bool t535, .bool t536] 41 (0, 0)) (bv BK537.out) hb); have n3_ := Aside0.mk (blk_below (g := gb544) (o := .cells #[.bool t539, .bool t540, .bool t541, .bool t542, .bool t543] 41 (0, 0)) (bv BK544.out) hb); have n4_ := Aside0.mk (blk_below (g := gb551) (o := .cells #[.bool t546, .bool t547, .bool t548, .bool t549, .bool t550] 41 (0, 0)) (bv BK551.out) hb); have n5_ := Aside0.mk (below_step (bl5 HB.out GE523.out GE530.out GE537.out GE544.out GE551.out) hb); have n6_ := Aside0.mk (hbox); have n7_ := Aside0.mk ((by rw [hg]; exact (below_size (bl5 HB.out GE523.out GE530.out GE537.out GE544.out GE551.out)) : w.heap.size ≤ gb558)); have n8_ := Aside0.mk ((by rw [hg]; exact (below_size (bl5 HB.out GE523.out GE530.out GE537.out GE544.out GE551.out)) : w.heap.size ≤ gb558)); have n9_ := Aside0.mk ((by rw [hg]; exact Nat.ne_of_lt (blk_lt (g := gb523) (o := .cells #[.bool t518, .bool t519, .bool t520, .bool t521, .bool t522] 41 (0, 0)) (bv BK523.out)) : gb523 ≠ gb558)); have n10_ := Aside0.mk ((by rw [hg]; exact Nat.ne_of_gt (blk_lt (g := gb523) (o := .cells #[.bool t518, .bool t519, .bool t520, .bool t521, .bool t522] 41 (0, 0)) (bv BK523.out)) : gb558 ≠ gb523)); have n11_ := Aside0.mk ((by rw [hg]; exact Nat.ne_of_lt (blk_lt (g := gb530) (o := .cells #[.bool t525, .bool t526, .bool t527, .bool t528, .bool true] 41 (0, 0)) (bv BK530.out)) : gb530 ≠ gb558)); have n12_ := Aside0.mk ((by rw [hg]; exact Nat.ne_of_gt (blk_lt (g := gb530) (o := .cells #[.bool t525, .bool t526, .bool t527, .bool t528, .bool true] 41 (0, 0)) (bv BK530.out)) : gb558 ≠ gb530)); have n13_ := Aside0.mk ((by rw [hg]; exact Nat.ne_of_lt (blk_lt (g := gb537) (o := .cells #[.bool t532, .bool t533, .bool t534, .bool t535, .bool t536] 41 (0, 0)) (bv BK537.out)) : gb537 ≠ gb558)); have n14_ := Aside0.mk ((by rw [hg]; exact Nat.ne_of_gt (blk_lt (g := gb537) (o := .cells #[.bool t532, .bool t533, .bool t534, .bool t535, .bool t536] 41 (0, 0)) (bv BK537.out)) : gb558 ≠ gb537)); have n15_ := Aside0.mk ((by rw [hg]; exact Nat.ne_of_lt (blk_lt (g := gb544) (o := .cells #[.bool t539, .bool t540, .bool t541, .bool t542, .bool t543] 41 (0, 0)) (bv BK544.out)) : gb544 ≠ gb558)); have n16_ := Aside0.mk ((by rw [hg]; exact Nat.ne_of_gt (blk_lt (g := gb544) (o := .cells #[.bool t539, .bool t540, .bool t541, .bool t542, .bool t543] 41 (0, 0)) (bv BK544.out)) : gb558 ≠ gb544)); have n17_ := Aside0.mk ((by rw [hg]; exact Nat.ne_of_lt (blk_lt (g := gb551) (o := .cells #[.bool t546, .bool t547, .bool t548, .bool t549, .bool t550] 41 (0, 0)) (bv BK551.out)) : gb551 ≠ gb558)); have n18_ := Aside0.mk ((by rw [hg]; exact Nat.ne_of_gt (blk_lt (g := gb551) (o := .cells #[.bool t546, .bool t547, .bool t548, .bool t549, .bool t550] 41 (0, 0)) (bv BK551.out)) : gb558 ≠ gb551)); clear BK523; clear BK530; clear BK537; clear BK544; clear BK551; clear HB; have BK523 := n0_; have BK530 := n1_; have BK537 := n2_; have BK544 := n3_; have BK551 := n4_; have HB := n5_; have BK558 := n6_; have GW558 := n7_; have GE558 := n8_; have NB523_558 := n9_; have NB558_523 := n10_; have NB530_558 := n11_; have NB558_530 := n12_; have NB537_558 := n13_; have NB558_537 := n14_; have NB544_558 := n15_; have NB558_544 := n16_; have NB551_558 := n17_; have NB558_551 := n18_; clear n0_ n1_ n2_ n3_ n4_ n5_ n6_ n7_ n8_ n9_ n10_ n11_ n12_ n13_ n14_ n15_ n16_ n17_ n18_; clear hb hbox hg; have hnb42 := NB558_523.out; have hnc42 := NB523_558.out; have hnb43 := NB558_530.out; have hnc43 := NB530_558.out; have hnb44 := NB558_537.out; have hnc44 := NB537_558.out; have hnb45 := NB558_544.out; have hnc45 := NB544_558.out; have hnb46 := NB558_551.out; have hnc46 := NB551_558.out; obtain ⟨hcz47_0, hcz47_1, hcz47_2, hcz47_3, hcz47_4⟩ := bc5 BK558.out; obtain ⟨hfz47_0, hfz47_1, hfz47_2, hfz47_3, hfz47_4⟩ := bf5 BK558.out; obtain ⟨hcz48_0, hcz48_1, hcz48_2, hcz48_3, hcz48_4⟩ := bc5 BK530.out; obtain ⟨hfz48_0, hfz48_1, hfz48_2, hfz48_3, hfz48_4⟩ := bf5 BK530.out))
   (try simp only [Act.put, List.setIfInBounds_toArray, List.set_cons_zero, List.set_cons_succ])
   go_cut [18] (fun v18 wc => ∃ (kq : Nat) (x18_12 : Int), v18 = .int .i32 x18_12 ∧ Aside0 (anneallaw8_WholeSides.j1 kq t524 t531 t538 t545 t552 x18_12 = some r) ∧ Aside0 (kq ≤ k) ∧ Aside0 (wc.heap[gb523]? = some (.cells #[.bool t518, .bool t519, .bool t520, .bool t521, .bool t522] 41 (0, 0))) ∧ Aside0 (wc.heap[gb530]? = some (.cells #[.bool t525, .bool t526, .bool t527, .bool t528, .bool true] 41 (0, 0))) ∧ Aside0 (wc.heap[gb537]? = some (.cells #[.bool t532, .bool t533, .bool t534, .bool t535, .bool t536] 41 (0, 0))) ∧ Aside0 (wc.heap[gb544]? = some (.cells #[.bool t539, .bool t540, .bool t541, .bool t542, .bool t543] 41 (0, 0))) ∧ Aside0 (wc.heap[gb551]? = some (.cells #[.bool t546, .bool t547, .bool t548, .bool t549, .bool t550] 41 (0, 0))) ∧ Aside0 (wc.heap[gb558]? = some (.cells #[.bool t553, .bool t554, .bool t555, .bool t556, .bool t557] 41 (0, 0))) ∧ Aside0 (Below w.heap.size w wc))
   case first =>
    have H := HC13.out
    clear HC13
    by_cases c49 : (t517 / 2147483648) = 1
    ·rw [if_pos c49] at H
     have c49b0 : ((t517 / 2147483648) == 1) = true := beq_iff_eq.mpr c49
     have c49b1 : ((t517 / 2147483648) != 1) = false := bne_eq_false_iff_eq.mpr c49
     clear c49
     (first | rw [c49b0] | (simp only [i64_w, i32_w]; rw [c49b0]) | skip)
     have H' := Aside0.mk H
     clear H
     go_wp2
     go_meet
     case rel => exact ⟨_, (t531), (by first | rfl | (simp; done) | (simp [*]; done) | (congr 1; (try unfold wrap64); omega) | (congr 1; rw [IntKind.wrap_u64]; omega)), H', ⟨by first | omega | exact Nat.le_refl _⟩, ⟨by (with_reducible repeat (first | refine blk_drewN ?_ _ | refine blk_drew ?_ | refine blk_alloc ?_ _)); refine blk_far ?_ NB523_558.out _; (with_reducible repeat (first | refine blk_drewN ?_ _ | refine blk_drew ?_ | refine blk_alloc ?_ _)); refine blk_far ?_ NB523_558.out _; (with_reducible repeat (first | refine blk_drewN ?_ _ | refine blk_drew ?_ | refine blk_alloc ?_ _)); refine blk_far ?_ NB523_558.out _; (with_reducible repeat (first | refine blk_drewN ?_ _ | refine blk_drew ?_ | refine blk_alloc ?_ _)); refine blk_far ?_ NB523_558.out _; (with_reducible repeat (first | refine blk_drewN ?_ _ | refine blk_drew ?_ | refine blk_alloc ?_ _)); refine blk_far ?_ NB523_558.out _; (with_reducible repeat (first | refine blk_drewN ?_ _ | refine blk_drew ?_ | refine blk_alloc ?_ _)); exact BK523.out⟩, ⟨by (with_reducible repeat (first | refine blk_drewN ?_ _ | refine blk_drew ?_ | refine blk_alloc ?_ _)); refine blk_far ?_ NB530_558.out _; (with_reducible repeat (first | refine blk_drewN ?_ _ | refine blk_drew ?_ | refine blk_alloc ?_ _)); refine blk_far ?_ NB530_558.out _; (with_reducible repeat (first | refine blk_drewN ?_ _ | refine blk_drew ?_ | refine blk_alloc ?_ _)); refine blk_far ?_ NB530_558.out _; (with_reducible repeat (first | refine blk_drewN ?_ _ | refine blk_drew ?_ | refine blk_alloc ?_ _)); refine blk_far ?_ NB530_558.out _; (with_reducible repeat (first | refine blk_drewN ?_ _ | refine blk_drew ?_ | refine blk_alloc ?_ _)); refine blk_far ?_ NB530_558.out _; (with_reducible repeat (first | refine blk_drewN ?_ _ | refine blk_drew ?_ | refine blk_alloc ?_ _)); exact BK530.out⟩, ⟨by (with_reducible repeat (first | refine blk_drewN ?_ _ | refine blk_drew ?_ | refine blk_alloc ?_ _)); refine blk_far ?_ NB537_558.out _; (with_reducible repeat (first | refine blk_drewN ?_ _ | refine blk_drew ?_ | refine blk_alloc ?_ _)); refine blk_far ?_ NB537_558.out _; (with_reducible repeat (first | refine blk_drewN ?_ _ | refine blk_drew ?_ | refine blk_alloc ?_ _)); refine blk_far ?_ NB537_558.out _; (with_reducible repeat (first | refine blk_drewN ?_ _ | refine blk_drew ?_ | refine blk_alloc ?_ _)); refine blk_far ?_ NB537_558.out _; (with_reducible repeat (first | refine blk_drewN ?_ _ | refine blk_drew ?_ | refine blk_alloc ?_ _)); refine blk_far ?_ NB537_558.out _; (with_reducible repeat (first | refine blk_drewN ?_ _ | refine blk_drew ?_ | refine blk_alloc ?_ _)); exact BK537.out⟩, ⟨by (with_reducible repeat (first | refine blk_drewN ?_ _ | refine blk_drew ?_ | refine blk_alloc ?_ _)); refine blk_far ?_ NB544_558.out _; (with_reducible repeat (first | refine blk_drewN ?_ _ | refine blk_drew ?_ | refine blk_alloc ?_ _)); refine blk_far ?_ NB544_558.out _; (with_reducible repeat (first | refine blk_drewN ?_ _ | refine blk_drew ?_ | refine blk_alloc ?_ _)); refine blk_far ?_ NB544_558.out _; (with_reducible repeat (first | refine blk_drewN ?_ _ | refine blk_drew ?_ | refine blk_alloc ?_ _)); refine blk_far ?_ NB544_558.out _; (with_reducible repeat (first | refine blk_drewN ?_ _ | refine blk_drew ?_ | refine blk_alloc ?_ _)); refine blk_far ?_ NB544_558.out _; (with_reducible repeat (first | refine blk_drewN ?_ _ | refine blk_drew ?_ | refine blk_alloc ?_ _)); exact BK544.out⟩, ⟨by (with_reducible repeat (first | refine blk_drewN ?_ _ | refine blk_drew ?_ | refine blk_alloc ?_ _)); refine blk_far ?_ NB551_558.out _; (with_reducible repeat (first | refine blk_drewN ?_ _ | refine blk_drew ?_ | refine blk_alloc ?_ _)); refine blk_far ?_ NB551_558.out _; (with_reducible repeat (first | refine blk_drewN ?_ _ | refine blk_drew ?_ | refine blk_alloc ?_ _)); refine blk_far ?_ NB551_558.out _; (with_reducible repeat (first | refine blk_drewN ?_ _ | refine blk_drew ?_ | refine blk_alloc ?_ _)); refine blk_far ?_ NB551_558.out _; (with_reducible repeat (first | refine blk_drewN ?_ _ | refine blk_drew ?_ | refine blk_alloc ?_ _)); refine blk_far ?_ NB551_558.out _; (with_reducible repeat (first | refine blk_drewN ?_ _ | refine blk_drew ?_ | refine blk_alloc ?_ _)); exact BK551.out⟩, ⟨by (with_reducible repeat (first | refine blk_drewN ?_ _ | refine blk_drew ?_ | refine blk_alloc ?_ _)); refine blk_put (cs := #[.bool t553, .bool t554, .bool t555, .bool t556, .bool false]) ?_ 4 _ rfl; (with_reducible repeat (first | refine blk_drewN ?_ _ | refine blk_drew ?_ | refine blk_alloc ?_ _)); refine blk_put (cs := #[.bool t553, .bool t554, .bool t555, .bool false, .bool false]) ?_ 3 _ rfl; (with_reducible repeat (first | refine blk_drewN ?_ _ | refine blk_drew ?_ | refine blk_alloc ?_ _)); refine blk_put (cs := #[.bool t553, .bool t554, .bool false, .bool false, .bool false]) ?_ 2 _ rfl; (with_reducible repeat (first | refine blk_drewN ?_ _ | refine blk_drew ?_ | refine blk_alloc ?_ _)); refine blk_put (cs := #[.bool t553, .bool false, .bool false, .bool false, .bool false]) ?_ 1 _ rfl; (with_reducible repeat (first | refine blk_drewN ?_ _ | refine blk_drew ?_ | refine blk_alloc ?_ _)); refine blk_put (cs := #[.bool false, .bool false, .bool false, .bool false, .bool false]) ?_ 0 _ rfl; (with_reducible repeat (first | refine blk_drewN ?_ _ | refine blk_drew ?_ | refine blk_alloc ?_ _)); exact BK558.out⟩, ⟨bl6 HB.out GE523.out GE530.out GE537.out GE544.out GE551.out GE558.out⟩⟩
    ·rw [if_neg c49] at H
     have c49b0 : ((t517 / 2147483648) == 1) = false := beq_eq_false_iff_ne.mpr c49
     have c49b1 : ((t517 / 2147483648) != 1) = true := bne_iff_ne.mpr c49
     (first | rw [c49b0] | (simp only [i64_w, i32_w]; rw [c49b0]) | skip)
     have H' := Aside0.mk H
     clear H
     go_wp2
     go_meet
     case rel => exact ⟨_, (t524), (by first | rfl | (simp; done) | (simp [*]; done) | (congr 1; (try unfold wrap64); omega) | (congr 1; rw [IntKind.wrap_u64]; omega)), H', ⟨by first | omega | exact Nat.le_refl _⟩, ⟨by (with_reducible repeat (first | refine blk_drewN ?_ _ | refine blk_drew ?_ | refine blk_alloc ?_ _)); refine blk_far ?_ NB523_558.out _; (with_reducible repeat (first | refine blk_drewN ?_ _ | refine blk_drew ?_ | refine blk_alloc ?_ _)); refine blk_far ?_ NB523_558.out _; (with_reducible repeat (first | refine blk_drewN ?_ _ | refine blk_drew ?_ | refine blk_alloc ?_ _)); refine blk_far ?_ NB523_558.out _; (with_reducible repeat (first | refine blk_drewN ?_ _ | refine blk_drew ?_ | refine blk_alloc ?_ _)); refine blk_far ?_ NB523_558.out _; (with_reducible repeat (first | refine blk_drewN ?_ _ | refine blk_drew ?_ | refine blk_alloc ?_ _)); refine blk_far ?_ NB523_558.out _; (with_reducible repeat (first | refine blk_drewN ?_ _ | refine blk_drew ?_ | refine blk_alloc ?_ _)); exact BK523.out⟩, ⟨by (with_reducible repeat (first | refine blk_drewN ?_ _ | refine blk_drew ?_ | refine blk_alloc ?_ _)); refine blk_far ?_ NB530_558.out _; (with_reducible repeat (first | refine blk_drewN ?_ _ | refine blk_drew ?_ | refine blk_alloc ?_ _)); refine blk_far ?_ NB530_558.out _; (with_reducible repeat (first | refine blk_drewN ?_ _ | refine blk_drew ?_ | refine blk_alloc ?_ _)); refine blk_far ?_ NB530_558.out _; (with_reducible repeat (first | refine blk_drewN ?_ _ | refine blk_drew ?_ | refine blk_alloc ?_ _)); refine blk_far ?_ NB530_558.out _; (with_reducible repeat (first | refine blk_drewN ?_ _ | refine blk_drew ?_ | refine blk_alloc ?_ _)); refine blk_far ?_ NB530_558.out _; (with_reducible repeat (first | refine blk_drewN ?_ _ | refine blk_drew ?_ | refine blk_alloc ?_ _)); exact BK530.out⟩, ⟨by (with_reducible repeat (first | refine blk_drewN ?_ _ | refine blk_drew ?_ | refine blk_alloc ?_ _)); refine blk_far ?_ NB537_558.out _; (with_reducible repeat (first | refine blk_drewN ?_ _ | refine blk_drew ?_ | refine blk_alloc ?_ _)); refine blk_far ?_ NB537_558.out _; (with_reducible repeat (first | refine blk_drewN ?_ _ | refine blk_drew ?_ | refine blk_alloc ?_ _)); refine blk_far ?_ NB537_558.out _; (with_reducible repeat (first | refine blk_drewN ?_ _ | refine blk_drew ?_ | refine blk_alloc ?_ _)); refine blk_far ?_ NB537_558.out _; (with_reducible repeat (first | refine blk_drewN ?_ _ | refine blk_drew ?_ | refine blk_alloc ?_ _)); refine blk_far ?_ NB537_558.out _; (with_reducible repeat (first | refine blk_drewN ?_ _ | refine blk_drew ?_ | refine blk_alloc ?_ _)); exact BK537.out⟩, ⟨by (with_reducible repeat (first | refine blk_drewN ?_ _ | refine blk_drew ?_ | refine blk_alloc ?_ _)); refine blk_far ?_ NB544_558.out _; (with_reducible repeat (first | refine blk_drewN ?_ _ | refine blk_drew ?_ | refine blk_alloc ?_ _)); refine blk_far ?_ NB544_558.out _; (with_reducible repeat (first | refine blk_drewN ?_ _ | refine blk_drew ?_ | refine blk_alloc ?_ _)); refine blk_far ?_ NB544_558.out _; (with_reducible repeat (first | refine blk_drewN ?_ _ | refine blk_drew ?_ | refine blk_alloc ?_ _)); refine blk_far ?_ NB544_558.out _; (with_reducible repeat (first | refine blk_drewN ?_ _ | refine blk_drew ?_ | refine blk_alloc ?_ _)); refine blk_far ?_ NB544_558.out _; (with_reducible repeat (first | refine blk_drewN ?_ _ | refine blk_drew ?_ | refine blk_alloc ?_ _)); exact BK544.out⟩, ⟨by (with_reducible repeat (first | refine blk_drewN ?_ _ | refine blk_drew ?_ | refine blk_alloc ?_ _)); refine blk_far ?_ NB551_558.out _; (with_reducible repeat (first | refine blk_drewN ?_ _ | refine blk_drew ?_ | refine blk_alloc ?_ _)); refine blk_far ?_ NB551_558.out _; (with_reducible repeat (first | refine blk_drewN ?_ _ | refine blk_drew ?_ | refine blk_alloc ?_ _)); refine blk_far ?_ NB551_558.out _; (with_reducible repeat (first | refine blk_drewN ?_ _ | refine blk_drew ?_ | refine blk_alloc ?_ _)); refine blk_far ?_ NB551_558.out _; (with_reducible repeat (first | refine blk_drewN ?_ _ | refine blk_drew ?_ | refine blk_alloc ?_ _)); refine blk_far ?_ NB551_558.out _; (with_reducible repeat (first | refine blk_drewN ?_ _ | refine blk_drew ?_ | refine blk_alloc ?_ _)); exact BK551.out⟩, ⟨by (with_reducible repeat (first | refine blk_drewN ?_ _ | refine blk_drew ?_ | refine blk_alloc ?_ _)); refine blk_put (cs := #[.bool t553, .bool t554, .bool t555, .bool t556, .bool false]) ?_ 4 _ rfl; (with_reducible repeat (first | refine blk_drewN ?_ _ | refine blk_drew ?_ | refine blk_alloc ?_ _)); refine blk_put (cs := #[.bool t553, .bool t554, .bool t555, .bool false, .bool false]) ?_ 3 _ rfl; (with_reducible repeat (first | refine blk_drewN ?_ _ | refine blk_drew ?_ | refine blk_alloc ?_ _)); refine blk_put (cs := #[.bool t553, .bool t554, .bool false, .bool false, .bool false]) ?_ 2 _ rfl; (with_reducible repeat (first | refine blk_drewN ?_ _ | refine blk_drew ?_ | refine blk_alloc ?_ _)); refine blk_put (cs := #[.bool t553, .bool false, .bool false, .bool false, .bool false]) ?_ 1 _ rfl; (with_reducible repeat (first | refine blk_drewN ?_ _ | refine blk_drew ?_ | refine blk_alloc ?_ _)); refine blk_put (cs := #[.bool false, .bool false, .bool false, .bool false, .bool false]) ?_ 0 _ rfl; (with_reducible repeat (first | refine blk_drewN ?_ _ | refine blk_drew ?_ | refine blk_alloc ?_ _)); exact BK558.out⟩, ⟨bl6 HB.out GE523.out GE530.out GE537.out GE544.out GE551.out GE558.out⟩⟩
   case rest =>
    clear HC13
    try clear c1
    try clear c2
    try clear p2
    try clear c3
    try clear c4
    try clear p6
    try clear c8
    try clear c12
    try clear c20
    try clear c24
    try clear c25
    try clear c27
    try clear c29
    try clear c30
    try clear c31
    try clear c32
    try clear c35
    try clear c36
    try clear c37
    try clear c38
    try clear c42
    try clear c43
    try clear c44
    try clear c45
    try clear c46
    try clear c49
    try clear c49b0
    try clear c49b1
    try clear hcz17_0
    try clear hcz17_1
    try clear hcz17_2
    try clear hcz17_3
    try clear hcz17_4
    try clear hcz21_0
    try clear hcz21_1
    try clear hcz21_2
    try clear hcz21_3
    try clear hcz21_4
    try clear hcz26_0
    try clear hcz26_1
    try clear hcz26_2
    try clear hcz26_3
    try clear hcz26_4
    try clear hcz32_0
    try clear hcz32_1
    try clear hcz32_2
    try clear hcz32_3
    try clear hcz32_4
    try clear hcz39_0
    try clear hcz39_1
    try clear hcz39_2
    try clear hcz39_3
    try clear hcz39_4
    try clear hcz47_0
    try clear hcz47_1
    try clear hcz47_2
    try clear hcz47_3
    try clear hcz47_4
    try clear hcz48_0
    try clear hcz48_1
    try clear hcz48_2
    try clear hcz48_3
    try clear hcz48_4
    try clear hfz17_0
    try clear hfz17_1
    try clear hfz17_2
    try clear hfz17_3
    try clear hfz17_4
    try clear hfz21_0
    try clear hfz21_1
    try clear hfz21_2
    try clear hfz21_3
    try clear hfz21_4
    try clear hfz26_0
    try clear hfz26_1
    try clear hfz26_2
    try clear hfz26_3
    try clear hfz26_4
    try clear hfz32_0
    try clear hfz32_1
    try clear hfz32_2
    try clear hfz32_3
    try clear hfz32_4
    try clear hfz39_0
    try clear hfz39_1
    try clear hfz39_2
    try clear hfz39_3
    try clear hfz39_4
    try clear hfz47_0
    try clear hfz47_1
    try clear hfz47_2
    try clear hfz47_3
    try clear hfz47_4
    try clear hfz48_0
    try clear hfz48_1
    try clear hfz48_2
    try clear hfz48_3
    try clear hfz48_4
    obtain ⟨kq, x18_12, rfl, HA, HJ12, BK523, BK530, BK537, BK544, BK551, BK558, HB⟩ := hcut
    cases kq with
    |zero => exact absurd HA.out (by simp [anneallaw8_WholeSides.j1])
    |succ kj12 =>
     have H := HA.out
     clear HA
     simp only [anneallaw8_WholeSides.j1] at H
     have HC50 := Aside0.mk H
     clear H
     go_upto_region 15 with (fail)
     go_cut [4] (fun v4 wc => ∃ (kq : Nat) (x4_49 : Bool), v4 = .bool x4_49 ∧ Aside0 (anneallaw8_WholeSides.j2 kq x4_49 = some r) ∧ Aside0 (kq ≤ kj12) ∧ Aside0 (wc.heap[gb523]? = some (.cells #[.bool t518, .bool t519, .bool t520, .bool t521, .bool t522] 41 (0, 0))) ∧ Aside0 (wc.heap[gb530]? = some (.cells #[.bool t525, .bool t526, .bool t527, .bool t528, .bool true] 41 (0, 0))) ∧ Aside0 (wc.heap[gb537]? = some (.cells #[.bool t532, .bool t533, .bool t534, .bool t535, .bool t536] 41 (0, 0))) ∧ Aside0 (wc.heap[gb544]? = some (.cells #[.bool t539, .bool t540, .bool t541, .bool t542, .bool t543] 41 (0, 0))) ∧ Aside0 (wc.heap[gb551]? = some (.cells #[.bool t546, .bool t547, .bool t548, .bool t549, .bool t550] 41 (0, 0))) ∧ Aside0 (wc.heap[gb558]? = some (.cells #[.bool t553, .bool t554, .bool t555, .bool t556, .bool t557] 41 (0, 0))) ∧ Aside0 (Below w.heap.size w wc))
     case first =>
      have H := HC50.out
      clear HC50
      by_cases c51 : t531 = (wrap32 (t524 + 1))
      ·rw [if_pos c51] at H
       have c51b0 : (t531 == (wrap32 (t524 + 1))) = true := beq_iff_eq.mpr c51
       have c51b1 : (t531 != (wrap32 (t524 + 1))) = false := bne_eq_false_iff_eq.mpr c51
       clear c51
       (first | rw [c51b0] | (simp only [i64_w, i32_w]; rw [c51b0]) | skip)
       by_cases c52 : t538 = x18_12
       ·rw [if_pos c52] at H
        have c52b0 : (t538 == x18_12) = true := beq_iff_eq.mpr c52
        have c52b1 : (t538 != x18_12) = false := bne_eq_false_iff_eq.mpr c52
        clear c52
        by_cases c53 : t545 = t524
        ·rw [if_pos c53] at H
         have c53b0 : (t545 == t524) = true := beq_iff_eq.mpr c53
         have c53b1 : (t545 != t524) = false := bne_eq_false_iff_eq.mpr c53
         clear c53
         by_cases c54 : t552 = t545
         ·rw [if_pos c54] at H
          have c54b0 : (t552 == t545) = true := beq_iff_eq.mpr c54
          have c54b1 : (t552 != t545) = false := bne_eq_false_iff_eq.mpr c54
          clear c54
          have H' := Aside0.mk H
          clear H
          go_wp2
          go_meet
          case rel => exact ⟨_, (true), (by first | rfl | (simp; done) | (simp [*]; done) | (congr 1; (try unfold wrap64); omega) | (congr 1; rw [IntKind.wrap_u64]; omega)), H', ⟨by have := HJ12.out; first | omega | exact Nat.le_refl _⟩, ⟨by (with_reducible repeat (first | refine blk_drewN ?_ _ | refine blk_drew ?_ | refine blk_alloc ?_ _)); exact BK523.out⟩, ⟨by (with_reducible repeat (first | refine blk_drewN ?_ _ | refine blk_drew ?_ | refine blk_alloc ?_ _)); exact BK530.out⟩, ⟨by (with_reducible repeat (first | refine blk_drewN ?_ _ | refine blk_drew ?_ | refine blk_alloc ?_ _)); exact BK537.out⟩, ⟨by (with_reducible repeat (first | refine blk_drewN ?_ _ | refine blk_drew ?_ | refine blk_alloc ?_ _)); exact BK544.out⟩, ⟨by (with_reducible repeat (first | refine blk_drewN ?_ _ | refine blk_drew ?_ | refine blk_alloc ?_ _)); exact BK551.out⟩, ⟨by (with_reducible repeat (first | refine blk_drewN ?_ _ | refine blk_drew ?_ | refine blk_alloc ?_ _)); exact BK558.out⟩, ⟨bl6 HB.out GE523.out GE530.out GE537.out GE544.out GE551.out GE558.out⟩⟩
         ·rw [if_neg c54] at H
          have c54b0 : (t552 == t545) = false := beq_eq_false_iff_ne.mpr c54
          have c54b1 : (t552 != t545) = true := bne_iff_ne.mpr c54
          by_cases c55 : (Int.tmod t545 2) = 0
          ·rw [if_pos c55] at H
           have c55b0 : ((Int.tmod t545 2) == 0) = true := beq_iff_eq.mpr c55
           have c55b1 : ((Int.tmod t545 2) != 0) = false := bne_eq_false_iff_eq.mpr c55
           clear c55
           by_cases c56 : t552 = t524
           ·rw [if_pos c56] at H
            have c56b0 : (t552 == t524) = true := beq_iff_eq.mpr c56
            have c56b1 : (t552 != t524) = false := bne_eq_false_iff_eq.mpr c56
            clear c56
            have H' := Aside0.mk H
            clear H
            go_wp2
            go_meet
            case rel => exact ⟨_, (true), (by first | rfl | (simp; done) | (simp [*]; done) | (congr 1; (try unfold wrap64); omega) | (congr 1; rw [IntKind.wrap_u64]; omega)), H', ⟨by have := HJ12.out; first | omega | exact Nat.le_refl _⟩, ⟨by (with_reducible repeat (first | refine blk_drewN ?_ _ | refine blk_drew ?_ | refine blk_alloc ?_ _)); exact BK523.out⟩, ⟨by (with_reducible repeat (first | refine blk_drewN ?_ _ | refine blk_drew ?_ | refine blk_alloc ?_ _)); exact BK530.out⟩, ⟨by (with_reducible repeat (first | refine blk_drewN ?_ _ | refine blk_drew ?_ | refine blk_alloc ?_ _)); exact BK537.out⟩, ⟨by (with_reducible repeat (first | refine blk_drewN ?_ _ | refine blk_drew ?_ | refine blk_alloc ?_ _)); exact BK544.out⟩, ⟨by (with_reducible repeat (first | refine blk_drewN ?_ _ | refine blk_drew ?_ | refine blk_alloc ?_ _)); exact BK551.out⟩, ⟨by (with_reducible repeat (first | refine blk_drewN ?_ _ | refine blk_drew ?_ | refine blk_alloc ?_ _)); exact BK558.out⟩, ⟨bl6 HB.out GE523.out GE530.out GE537.out GE544.out GE551.out GE558.out⟩⟩
           ·rw [if_neg c56] at H
            have c56b0 : (t552 == t524) = false := beq_eq_false_iff_ne.mpr c56
            have c56b1 : (t552 != t524) = true := bne_iff_ne.mpr c56
            have H' := Aside0.mk H
            clear H
            go_wp2
            go_meet
            case rel => exact ⟨_, ((t552 == t531)), (by first | rfl | (simp; done) | (simp [*]; done) | (congr 1; (try unfold wrap64); omega) | (congr 1; rw [IntKind.wrap_u64]; omega)), H', ⟨by have := HJ12.out; first | omega | exact Nat.le_refl _⟩, ⟨by (with_reducible repeat (first | refine blk_drewN ?_ _ | refine blk_drew ?_ | refine blk_alloc ?_ _)); exact BK523.out⟩, ⟨by (with_reducible repeat (first | refine blk_drewN ?_ _ | refine blk_drew ?_ | refine blk_alloc ?_ _)); exact BK530.out⟩, ⟨by (with_reducible repeat (first | refine blk_drewN ?_ _ | refine blk_drew ?_ | refine blk_alloc ?_ _)); exact BK537.out⟩, ⟨by (with_reducible repeat (first | refine blk_drewN ?_ _ | refine blk_drew ?_ | refine blk_alloc ?_ _)); exact BK544.out⟩, ⟨by (with_reducible repeat (first | refine blk_drewN ?_ _ | refine blk_drew ?_ | refine blk_alloc ?_ _)); exact BK551.out⟩, ⟨by (with_reducible repeat (first | refine blk_drewN ?_ _ | refine blk_drew ?_ | refine blk_alloc ?_ _)); exact BK558.out⟩, ⟨bl6 HB.out GE523.out GE530.out GE537.out GE544.out GE551.out GE558.out⟩⟩
          ·rw [if_neg c55] at H
           have c55b0 : ((Int.tmod t545 2) == 0) = false := beq_eq_false_iff_ne.mpr c55
           have c55b1 : ((Int.tmod t545 2) != 0) = true := bne_iff_ne.mpr c55
           have H' := Aside0.mk H
           clear H
           go_wp2
           go_meet
           case rel => exact ⟨_, (false), (by first | rfl | (simp; done) | (simp [*]; done) | (congr 1; (try unfold wrap64); omega) | (congr 1; rw [IntKind.wrap_u64]; omega)), H', ⟨by have := HJ12.out; first | omega | exact Nat.le_refl _⟩, ⟨by (with_reducible repeat (first | refine blk_drewN ?_ _ | refine blk_drew ?_ | refine blk_alloc ?_ _)); exact BK523.out⟩, ⟨by (with_reducible repeat (first | refine blk_drewN ?_ _ | refine blk_drew ?_ | refine blk_alloc ?_ _)); exact BK530.out⟩, ⟨by (with_reducible repeat (first | refine blk_drewN ?_ _ | refine blk_drew ?_ | refine blk_alloc ?_ _)); exact BK537.out⟩, ⟨by (with_reducible repeat (first | refine blk_drewN ?_ _ | refine blk_drew ?_ | refine blk_alloc ?_ _)); exact BK544.out⟩, ⟨by (with_reducible repeat (first | refine blk_drewN ?_ _ | refine blk_drew ?_ | refine blk_alloc ?_ _)); exact BK551.out⟩, ⟨by (with_reducible repeat (first | refine blk_drewN ?_ _ | refine blk_drew ?_ | refine blk_alloc ?_ _)); exact BK558.out⟩, ⟨bl6 HB.out GE523.out GE530.out GE537.out GE544.out GE551.out GE558.out⟩⟩
        ·rw [if_neg c53] at H
         have c53b0 : (t545 == t524) = false := beq_eq_false_iff_ne.mpr c53
         have c53b1 : (t545 != t524) = true := bne_iff_ne.mpr c53
         by_cases c57 : t545 = t531
         ·rw [if_pos c57] at H
          have c57b0 : (t545 == t531) = true := beq_iff_eq.mpr c57
          have c57b1 : (t545 != t531) = false := bne_eq_false_iff_eq.mpr c57
          clear c57
          by_cases c58 : t552 = t545
          ·rw [if_pos c58] at H
           have c58b0 : (t552 == t545) = true := beq_iff_eq.mpr c58
           have c58b1 : (t552 != t545) = false := bne_eq_false_iff_eq.mpr c58
           clear c58
           have H' := Aside0.mk H
           clear H
           go_wp2
           go_meet
           case rel => exact ⟨_, (true), (by first | rfl | (simp; done) | (simp [*]; done) | (congr 1; (try unfold wrap64); omega) | (congr 1; rw [IntKind.wrap_u64]; omega)), H', ⟨by have := HJ12.out; first | omega | exact Nat.le_refl _⟩, ⟨by (with_reducible repeat (first | refine blk_drewN ?_ _ | refine blk_drew ?_ | refine blk_alloc ?_ _)); exact BK523.out⟩, ⟨by (with_reducible repeat (first | refine blk_drewN ?_ _ | refine blk_drew ?_ | refine blk_alloc ?_ _)); exact BK530.out⟩, ⟨by (with_reducible repeat (first | refine blk_drewN ?_ _ | refine blk_drew ?_ | refine blk_alloc ?_ _)); exact BK537.out⟩, ⟨by (with_reducible repeat (first | refine blk_drewN ?_ _ | refine blk_drew ?_ | refine blk_alloc ?_ _)); exact BK544.out⟩, ⟨by (with_reducible repeat (first | refine blk_drewN ?_ _ | refine blk_drew ?_ | refine blk_alloc ?_ _)); exact BK551.out⟩, ⟨by (with_reducible repeat (first | refine blk_drewN ?_ _ | refine blk_drew ?_ | refine blk_alloc ?_ _)); exact BK558.out⟩, ⟨bl6 HB.out GE523.out GE530.out GE537.out GE544.out GE551.out GE558.out⟩⟩
          ·rw [if_neg c58] at H
           have c58b0 : (t552 == t545) = false := beq_eq_false_iff_ne.mpr c58
           have c58b1 : (t552 != t545) = true := bne_iff_ne.mpr c58
           by_cases c59 : (Int.tmod t545 2) = 0
           ·rw [if_pos c59] at H
            have c59b0 : ((Int.tmod t545 2) == 0) = true := beq_iff_eq.mpr c59
            have c59b1 : ((Int.tmod t545 2) != 0) = false := bne_eq_false_iff_eq.mpr c59
            clear c59
            by_cases c60 : t552 = t524
            ·rw [if_pos c60] at H
             have c60b0 : (t552 == t524) = true := beq_iff_eq.mpr c60
             have c60b1 : (t552 != t524) = false := bne_eq_false_iff_eq.mpr c60
             clear c60
             have H' := Aside0.mk H
             clear H
             go_wp2
             go_meet
             case rel => exact ⟨_, (true), (by first | rfl | (simp; done) | (simp [*]; done) | (congr 1; (try unfold wrap64); omega) | (congr 1; rw [IntKind.wrap_u64]; omega)), H', ⟨by have := HJ12.out; first | omega | exact Nat.le_refl _⟩, ⟨by (with_reducible repeat (first | refine blk_drewN ?_ _ | refine blk_drew ?_ | refine blk_alloc ?_ _)); exact BK523.out⟩, ⟨by (with_reducible repeat (first | refine blk_drewN ?_ _ | refine blk_drew ?_ | refine blk_alloc ?_ _)); exact BK530.out⟩, ⟨by (with_reducible repeat (first | refine blk_drewN ?_ _ | refine blk_drew ?_ | refine blk_alloc ?_ _)); exact BK537.out⟩, ⟨by (with_reducible repeat (first | refine blk_drewN ?_ _ | refine blk_drew ?_ | refine blk_alloc ?_ _)); exact BK544.out⟩, ⟨by (with_reducible repeat (first | refine blk_drewN ?_ _ | refine blk_drew ?_ | refine blk_alloc ?_ _)); exact BK551.out⟩, ⟨by (with_reducible repeat (first | refine blk_drewN ?_ _ | refine blk_drew ?_ | refine blk_alloc ?_ _)); exact BK558.out⟩, ⟨bl6 HB.out GE523.out GE530.out GE537.out GE544.out GE551.out GE558.out⟩⟩
            ·rw [if_neg c60] at H
             have c60b0 : (t552 == t524) = false := beq_eq_false_iff_ne.mpr c60
             have c60b1 : (t552 != t524) = true := bne_iff_ne.mpr c60
             have H' := Aside0.mk H
             clear H
             go_wp2
             go_meet
             case rel => exact ⟨_, ((t552 == t531)), (by first | rfl | (simp; done) | (simp [*]; done) | (congr 1; (try unfold wrap64); omega) | (congr 1; rw [IntKind.wrap_u64]; omega)), H', ⟨by have := HJ12.out; first | omega | exact Nat.le_refl _⟩, ⟨by (with_reducible repeat (first | refine blk_drewN ?_ _ | refine blk_drew ?_ | refine blk_alloc ?_ _)); exact BK523.out⟩, ⟨by (with_reducible repeat (first | refine blk_drewN ?_ _ | refine blk_drew ?_ | refine blk_alloc ?_ _)); exact BK530.out⟩, ⟨by (with_reducible repeat (first | refine blk_drewN ?_ _ | refine blk_drew ?_ | refine blk_alloc ?_ _)); exact BK537.out⟩, ⟨by (with_reducible repeat (first | refine blk_drewN ?_ _ | refine blk_drew ?_ | refine blk_alloc ?_ _)); exact BK544.out⟩, ⟨by (with_reducible repeat (first | refine blk_drewN ?_ _ | refine blk_drew ?_ | refine blk_alloc ?_ _)); exact BK551.out⟩, ⟨by (with_reducible repeat (first | refine blk_drewN ?_ _ | refine blk_drew ?_ | refine blk_alloc ?_ _)); exact BK558.out⟩, ⟨bl6 HB.out GE523.out GE530.out GE537.out GE544.out GE551.out GE558.out⟩⟩
           ·rw [if_neg c59] at H
            have c59b0 : ((Int.tmod t545 2) == 0) = false := beq_eq_false_iff_ne.mpr c59
            have c59b1 : ((Int.tmod t545 2) != 0) = true := bne_iff_ne.mpr c59
            have H' := Aside0.mk H
            clear H
            go_wp2
            go_meet
            case rel => exact ⟨_, (false), (by first | rfl | (simp; done) | (simp [*]; done) | (congr 1; (try unfold wrap64); omega) | (congr 1; rw [IntKind.wrap_u64]; omega)), H', ⟨by have := HJ12.out; first | omega | exact Nat.le_refl _⟩, ⟨by (with_reducible repeat (first | refine blk_drewN ?_ _ | refine blk_drew ?_ | refine blk_alloc ?_ _)); exact BK523.out⟩, ⟨by (with_reducible repeat (first | refine blk_drewN ?_ _ | refine blk_drew ?_ | refine blk_alloc ?_ _)); exact BK530.out⟩, ⟨by (with_reducible repeat (first | refine blk_drewN ?_ _ | refine blk_drew ?_ | refine blk_alloc ?_ _)); exact BK537.out⟩, ⟨by (with_reducible repeat (first | refine blk_drewN ?_ _ | refine blk_drew ?_ | refine blk_alloc ?_ _)); exact BK544.out⟩, ⟨by (with_reducible repeat (first | refine blk_drewN ?_ _ | refine blk_drew ?_ | refine blk_alloc ?_ _)); exact BK551.out⟩, ⟨by (with_reducible repeat (first | refine blk_drewN ?_ _ | refine blk_drew ?_ | refine blk_alloc ?_ _)); exact BK558.out⟩, ⟨bl6 HB.out GE523.out GE530.out GE537.out GE544.out GE551.out GE558.out⟩⟩
         ·rw [if_neg c57] at H
          have c57b0 : (t545 == t531) = false := beq_eq_false_iff_ne.mpr c57
          have c57b1 : (t545 != t531) = true := bne_iff_ne.mpr c57
          have H' := Aside0.mk H
          clear H
          go_wp2
          go_meet
          case rel => exact ⟨_, (false), (by first | rfl | (simp; done) | (simp [*]; done) | (congr 1; (try unfold wrap64); omega) | (congr 1; rw [IntKind.wrap_u64]; omega)), H', ⟨by have := HJ12.out; first | omega | exact Nat.le_refl _⟩, ⟨by (with_reducible repeat (first | refine blk_drewN ?_ _ | refine blk_drew ?_ | refine blk_alloc ?_ _)); exact BK523.out⟩, ⟨by (with_reducible repeat (first | refine blk_drewN ?_ _ | refine blk_drew ?_ | refine blk_alloc ?_ _)); exact BK530.out⟩, ⟨by (with_reducible repeat (first | refine blk_drewN ?_ _ | refine blk_drew ?_ | refine blk_alloc ?_ _)); exact BK537.out⟩, ⟨by (with_reducible repeat (first | refine blk_drewN ?_ _ | refine blk_drew ?_ | refine blk_alloc ?_ _)); exact BK544.out⟩, ⟨by (with_reducible repeat (first | refine blk_drewN ?_ _ | refine blk_drew ?_ | refine blk_alloc ?_ _)); exact BK551.out⟩, ⟨by (with_reducible repeat (first | refine blk_drewN ?_ _ | refine blk_drew ?_ | refine blk_alloc ?_ _)); exact BK558.out⟩, ⟨bl6 HB.out GE523.out GE530.out GE537.out GE544.out GE551.out GE558.out⟩⟩
       ·rw [if_neg c52] at H
        have c52b0 : (t538 == x18_12) = false := beq_eq_false_iff_ne.mpr c52
        have c52b1 : (t538 != x18_12) = true := bne_iff_ne.mpr c52
        have H' := Aside0.mk H
        clear H
        go_wp2
        go_meet
        case rel => exact ⟨_, (false), (by first | rfl | (simp; done) | (simp [*]; done) | (congr 1; (try unfold wrap64); omega) | (congr 1; rw [IntKind.wrap_u64]; omega)), H', ⟨by have := HJ12.out; first | omega | exact Nat.le_refl _⟩, ⟨by (with_reducible repeat (first | refine blk_drewN ?_ _ | refine blk_drew ?_ | refine blk_alloc ?_ _)); exact BK523.out⟩, ⟨by (with_reducible repeat (first | refine blk_drewN ?_ _ | refine blk_drew ?_ | refine blk_alloc ?_ _)); exact BK530.out⟩, ⟨by (with_reducible repeat (first | refine blk_drewN ?_ _ | refine blk_drew ?_ | refine blk_alloc ?_ _)); exact BK537.out⟩, ⟨by (with_reducible repeat (first | refine blk_drewN ?_ _ | refine blk_drew ?_ | refine blk_alloc ?_ _)); exact BK544.out⟩, ⟨by (with_reducible repeat (first | refine blk_drewN ?_ _ | refine blk_drew ?_ | refine blk_alloc ?_ _)); exact BK551.out⟩, ⟨by (with_reducible repeat (first | refine blk_drewN ?_ _ | refine blk_drew ?_ | refine blk_alloc ?_ _)); exact BK558.out⟩, ⟨bl6 HB.out GE523.out GE530.out GE537.out GE544.out GE551.out GE558.out⟩⟩
      ·rw [if_neg c51] at H
       have c51b0 : (t531 == (wrap32 (t524 + 1))) = false := beq_eq_false_iff_ne.mpr c51
       have c51b1 : (t531 != (wrap32 (t524 + 1))) = true := bne_iff_ne.mpr c51
       (first | rw [c51b0] | (simp only [i64_w, i32_w]; rw [c51b0]) | skip)
       have H' := Aside0.mk H
       clear H
       go_wp2
       go_meet
       case rel => exact ⟨_, (false), (by first | rfl | (simp; done) | (simp [*]; done) | (congr 1; (try unfold wrap64); omega) | (congr 1; rw [IntKind.wrap_u64]; omega)), H', ⟨by have := HJ12.out; first | omega | exact Nat.le_refl _⟩, ⟨by (with_reducible repeat (first | refine blk_drewN ?_ _ | refine blk_drew ?_ | refine blk_alloc ?_ _)); exact BK523.out⟩, ⟨by (with_reducible repeat (first | refine blk_drewN ?_ _ | refine blk_drew ?_ | refine blk_alloc ?_ _)); exact BK530.out⟩, ⟨by (with_reducible repeat (first | refine blk_drewN ?_ _ | refine blk_drew ?_ | refine blk_alloc ?_ _)); exact BK537.out⟩, ⟨by (with_reducible repeat (first | refine blk_drewN ?_ _ | refine blk_drew ?_ | refine blk_alloc ?_ _)); exact BK544.out⟩, ⟨by (with_reducible repeat (first | refine blk_drewN ?_ _ | refine blk_drew ?_ | refine blk_alloc ?_ _)); exact BK551.out⟩, ⟨by (with_reducible repeat (first | refine blk_drewN ?_ _ | refine blk_drew ?_ | refine blk_alloc ?_ _)); exact BK558.out⟩, ⟨bl6 HB.out GE523.out GE530.out GE537.out GE544.out GE551.out GE558.out⟩⟩
     case rest =>
      clear HC50
      try clear c1
      try clear c2
      try clear p2
      try clear c3
      try clear p3
      try clear c4
      try clear c5
      try clear c6
      try clear p6
      try clear c8
      try clear c12
      try clear c20
      try clear c24
      try clear c25
      try clear c27
      try clear c29
      try clear c30
      try clear c31
      try clear c32
      try clear p32
      try clear c35
      try clear c36
      try clear c37
      try clear c38
      try clear c42
      try clear c43
      try clear c44
      try clear c45
      try clear c46
      try clear c49
      try clear c49b0
      try clear c49b1
      try clear c51
      try clear c51b0
      try clear c51b1
      try clear c52
      try clear c52b0
      try clear c52b1
      try clear c53
      try clear c53b0
      try clear c53b1
      try clear c54
      try clear c54b0
      try clear c54b1
      try clear c55
      try clear c55b0
      try clear c55b1
      try clear c56
      try clear c56b0
      try clear c56b1
      try clear c57
      try clear c57b0
      try clear c57b1
      try clear c58
      try clear c58b0
      try clear c58b1
      try clear c59
      try clear c59b0
      try clear c59b1
      try clear c60
      try clear c60b0
      try clear c60b1
      try clear hcz17_0
      try clear hcz17_1
      try clear hcz17_2
      try clear hcz17_3
      try clear hcz17_4
      try clear hcz21_0
      try clear hcz21_1
      try clear hcz21_2
      try clear hcz21_3
      try clear hcz21_4
      try clear hcz26_0
      try clear hcz26_1
      try clear hcz26_2
      try clear hcz26_3
      try clear hcz26_4
      try clear hcz32_0
      try clear hcz32_1
      try clear hcz32_2
      try clear hcz32_3
      try clear hcz32_4
      try clear hcz39_0
      try clear hcz39_1
      try clear hcz39_2
      try clear hcz39_3
      try clear hcz39_4
      try clear hcz47_0
      try clear hcz47_1
      try clear hcz47_2
      try clear hcz47_3
      try clear hcz47_4
      try clear hcz48_0
      try clear hcz48_1
      try clear hcz48_2
      try clear hcz48_3
      try clear hcz48_4
      try clear hfz17_0
      try clear hfz17_1
      try clear hfz17_2
      try clear hfz17_3
      try clear hfz17_4
      try clear hfz21_0
      try clear hfz21_1
      try clear hfz21_2
      try clear hfz21_3
      try clear hfz21_4
      try clear hfz26_0
      try clear hfz26_1
      try clear hfz26_2
      try clear hfz26_3
      try clear hfz26_4
      try clear hfz32_0
      try clear hfz32_1
      try clear hfz32_2
      try clear hfz32_3
      try clear hfz32_4
      try clear hfz39_0
      try clear hfz39_1
      try clear hfz39_2
      try clear hfz39_3
      try clear hfz39_4
      try clear hfz47_0
      try clear hfz47_1
      try clear hfz47_2
      try clear hfz47_3
      try clear hfz47_4
      try clear hfz48_0
      try clear hfz48_1
      try clear hfz48_2
      try clear hfz48_3
      try clear hfz48_4
      try clear p2
      try clear p6
      obtain ⟨kq, x4_49, rfl, HA, HJ49, BK523, BK530, BK537, BK544, BK551, BK558, HB⟩ := hcut
      cases kq with
      |zero => exact absurd HA.out (by simp [anneallaw8_WholeSides.j2])
      |succ kj49 =>
       have H := HA.out
       clear HA
       simp only [anneallaw8_WholeSides.j2] at H
       obtain rfl := Option.some.inj H
       go_wp2
       go_ret
       exact ⟨by first | rfl | (simp [errW_none, errW_some] <;> rfl) | (simp [*, errW_none, errW_some] <;> rfl), bl6 HB.out GE523.out GE530.out GE537.out GE544.out GE551.out GE558.out⟩
  ·replace c12 := Bool.eq_false_iff.mpr c12
   subst c12
   have H1 : (if t524 = t531 then (if t538 = t524 then (if t545 = t524 then (anneallaw8_WholeSides.j0 k (t552 == t524)) else (anneallaw8_WholeSides.j0 k false)) else (anneallaw8_WholeSides.j0 k false)) else (anneallaw8_WholeSides.j0 k false)) = some r := by rw [if_neg (show ¬ (false = true) by decide)] at H; exact H
   clear H
   have H := H1
   clear H1
   have HC61 := Aside0.mk H
   clear H
   go_enter Try.func8, Try.ntmps8
   go_upto_region 11 with (first | ((with_reducible refine gate_callee (f := 25) rfl ?_); refine goesL_ (some 19) rfl rfl Try.func25 (by kernel_rfl) rfl #[] rfl gl ?_; (with_reducible refine (anneallaw8_known.calls k  true _ A3.out).mono ?_); rintro e w62 ⟨rfl, hb⟩; refine ⟨_, rfl, ?_⟩; have n0_ := Aside0.mk (below_step (bl0 HB.out) hb); clear HB; have HB := n0_; clear n0_; (try clear hb); (try clear hb2); (try clear hk); (try clear hi)) | ((with_reducible refine gate_callee (f := 27) rfl ?_); refine goesL_ (some 22) rfl rfl Try.func27 (by kernel_rfl) rfl #[.int .i64 2, .int .u32 a0] rfl gl ?_; (with_reducible refine (annealseat_Mild.calls 2 a0 t516 _ A5.out).mono ?_); rintro e w' ⟨rfl, ⟨nd, rfl⟩⟩; refine ⟨_, rfl, ?_⟩; (try (rw [drewN_self w62]; generalize hq_ : World.drewN w62 _ = w62; have n0_ : Aside0 (Below w.heap.size w w62) := ⟨by rw [← hq_]; exact (bl0 HB.out)⟩; clear HB hq_; have HB := n0_; clear n0_))) | ((with_reducible refine gate_callee (f := 31) rfl ?_); refine goesL_ (some 28) rfl rfl Try.func31 (by kernel_rfl) rfl #[.int .i64 2, .int .i64 0, .int .u32 t516, .int .i64 (wrap64 (Int.tmod a1 12))] rfl gl ?_; (with_reducible refine (annealref1_Scale.calls k 2 0 t516 (wrap64 (Int.tmod a1 12)) t517 t518 t519 t520 t521 t522 _ A6.out).mono ?_); rintro e w63 ⟨rfl, hb⟩; refine ⟨_, rfl, ?_⟩; have n0_ := Aside0.mk (below_step (bl0 HB.out) hb); clear HB; have HB := n0_; clear n0_; (try clear hb); (try clear hb2); (try clear hk); (try clear hi)) | ((with_reducible refine gate_dst (N := 7) rfl ?_); refine box_event ?hg (N := 7) ?hd (cs := #[.bool false, .bool false, .bool false, .bool false, .bool false]) (t := 41) ?hr ?_; (case hd => rfl); (case hg => rfl); (case hr => first | (go_simp; done) | (go_simp; rfl)); intro gb523 hg w64 hbox hb; have n0_ := Aside0.mk (below_step (bl0 HB.out) hb); have n1_ := Aside0.mk (hbox); have n2_ := Aside0.mk ((by rw [hg]; exact (below_size (bl0 HB.out)) : w.heap.size ≤ gb523)); have n3_ := Aside0.mk ((by rw [hg]; exact (below_size (bl0 HB.out)) : w.heap.size ≤ gb523)); clear HB; have HB := n0_; have BK523 := n1_; have GW523 := n2_; have GE523 := n3_; clear n0_ n1_ n2_ n3_; clear hb hbox hg; obtain ⟨hcz65_0, hcz65_1, hcz65_2, hcz65_3, hcz65_4⟩ := bc5 BK523.out; obtain ⟨hfz65_0, hfz65_1, hfz65_2, hfz65_3, hfz65_4⟩ := bf5 BK523.out) | ((with_reducible refine gate_callee (f := 32) rfl ?_); refine goesL_ (some 33) rfl rfl Try.func32 (by kernel_rfl) rfl #[.int .i64 2, .int .i64 3, .int .u32 t517] rfl gl ?_; (with_reducible refine (whole_ToInt.calls k 2 3 t517 t524 t525 t526 t527 t528 false _ A7.out).mono ?_); rintro e w66 ⟨rfl, hb⟩; refine ⟨_, rfl, ?_⟩; have n0_ := Aside0.mk (blk_below (g := gb523) (o := .cells #[.bool t518, .bool t519, .bool t520, .bool t521, .bool t522] 41 (0, 0)) (by (with_reducible repeat (first | refine blk_drewN ?_ _ | refine blk_drew ?_ | refine blk_alloc ?_ _)); refine blk_put (cs := #[.bool t518, .bool t519, .bool t520, .bool t521, .bool false]) ?_ 4 _ rfl; (with_reducible repeat (first | refine blk_drewN ?_ _ | refine blk_drew ?_ | refine blk_alloc ?_ _)); refine blk_put (cs := #[.bool t518, .bool t519, .bool t520, .bool false, .bool false]) ?_ 3 _ rfl; (with_reducible repeat (first | refine blk_drewN ?_ _ | refine blk_drew ?_ | refine blk_alloc ?_ _)); refine blk_put (cs := #[.bool t518, .bool t519, .bool false, .bool false, .bool false]) ?_ 2 _ rfl; (with_reducible repeat (first | refine blk_drewN ?_ _ | refine blk_drew ?_ | refine blk_alloc ?_ _)); refine blk_put (cs := #[.bool t518, .bool false, .bool false, .bool false, .bool false]) ?_ 1 _ rfl; (with_reducible repeat (first | refine blk_drewN ?_ _ | refine blk_drew ?_ | refine blk_alloc ?_ _)); refine blk_put (cs := #[.bool false, .bool false, .bool false, .bool false, .bool false]) ?_ 0 _ rfl; (with_reducible repeat (first | refine blk_drewN ?_ _ | refine blk_drew ?_ | refine blk_alloc ?_ _)); exact BK523.out) hb); have n1_ := Aside0.mk (below_step (bl1 HB.out GE523.out) hb); clear BK523; clear HB; have BK523 := n0_; have HB := n1_; clear n0_ n1_; (try clear hb); (try clear hb2); (try clear hk); (try clear hi)) | ((with_reducible refine gate_dst (N := 9) rfl ?_); refine box_event ?hg (N := 9) ?hd (cs := #[.bool false, .bool false, .bool false, .bool false, .bool false]) (t := 41) ?hr ?_; (case hd => rfl); (case hg => rfl); (case hr => first | (go_simp; done) | (go_simp; rfl)); intro gb530 hg w67 hbox hb; have n0_ := Aside0.mk (blk_below (g := gb523) (o := .cells #[.bool t518, .bool t519, .bool t520, .bool t521, .bool t522] 41 (0, 0)) (bv BK523.out) hb); have n1_ := Aside0.mk (below_step (bl1 HB.out GE523.out) hb); have n2_ := Aside0.mk (hbox); have n3_ := Aside0.mk ((by rw [hg]; exact (below_size (bl1 HB.out GE523.out)) : w.heap.size ≤ gb530)); have n4_ := Aside0.mk ((by rw [hg]; exact (below_size (bl1 HB.out GE523.out)) : w.heap.size ≤ gb530)); have n5_ := Aside0.mk ((by rw [hg]; exact Nat.ne_of_lt (blk_lt (g := gb523) (o := .cells #[.bool t518, .bool t519, .bool t520, .bool t521, .bool t522] 41 (0, 0)) (bv BK523.out)) : gb523 ≠ gb530)); have n6_ := Aside0.mk ((by rw [hg]; exact Nat.ne_of_gt (blk_lt (g := gb523) (o := .cells #[.bool t518, .bool t519, .bool t520, .bool t521, .bool t522] 41 (0, 0)) (bv BK523.out)) : gb530 ≠ gb523)); clear BK523; clear HB; have BK523 := n0_; have HB := n1_; have BK530 := n2_; have GW530 := n3_; have GE530 := n4_; have NB523_530 := n5_; have NB530_523 := n6_; clear n0_ n1_ n2_ n3_ n4_ n5_ n6_; clear hb hbox hg; have hnb68 := NB530_523.out; have hnc68 := NB523_530.out; obtain ⟨hcz69_0, hcz69_1, hcz69_2, hcz69_3, hcz69_4⟩ := bc5 BK530.out; obtain ⟨hfz69_0, hfz69_1, hfz69_2, hfz69_3, hfz69_4⟩ := bf5 BK530.out) | ((with_reducible refine gate_callee (f := 32) rfl ?_); refine goesL_ (some 38) rfl rfl Try.func32 (by kernel_rfl) rfl #[.int .i64 2, .int .i64 2, .int .u32 t517] rfl gl ?_; (with_reducible refine (whole_ToInt.calls k 2 2 t517 t531 t532 t533 t534 t535 t536 _ A8.out).mono ?_); rintro e w70 ⟨rfl, hb⟩; refine ⟨_, rfl, ?_⟩; have n0_ := Aside0.mk (blk_below (g := gb523) (o := .cells #[.bool t518, .bool t519, .bool t520, .bool t521, .bool t522] 41 (0, 0)) (by (with_reducible repeat (first | refine blk_drewN ?_ _ | refine blk_drew ?_ | refine blk_alloc ?_ _)); refine blk_far ?_ NB523_530.out _; (with_reducible repeat (first | refine blk_drewN ?_ _ | refine blk_drew ?_ | refine blk_alloc ?_ _)); refine blk_far ?_ NB523_530.out _; (with_reducible repeat (first | refine blk_drewN ?_ _ | refine blk_drew ?_ | refine blk_alloc ?_ _)); refine blk_far ?_ NB523_530.out _; (with_reducible repeat (first | refine blk_drewN ?_ _ | refine blk_drew ?_ | refine blk_alloc ?_ _)); refine blk_far ?_ NB523_530.out _; (with_reducible repeat (first | refine blk_drewN ?_ _ | refine blk_drew ?_ | refine blk_alloc ?_ _)); refine blk_far ?_ NB523_530.out _; (with_reducible repeat (first | refine blk_drewN ?_ _ | refine blk_drew ?_ | refine blk_alloc ?_ _)); exact BK523.out) hb); have n1_ := Aside0.mk (blk_below (g := gb530) (o := .cells #[.bool t525, .bool t526, .bool t527, .bool t528, .bool false] 41 (0, 0)) (by (with_reducible repeat (first | refine blk_drewN ?_ _ | refine blk_drew ?_ | refine blk_alloc ?_ _)); refine blk_put (cs := #[.bool t525, .bool t526, .bool t527, .bool t528, .bool false]) ?_ 4 _ rfl; (with_reducible repeat (first | refine blk_drewN ?_ _ | refine blk_drew ?_ | refine blk_alloc ?_ _)); refine blk_put (cs := #[.bool t525, .bool t526, .bool t527, .bool false, .bool false]) ?_ 3 _ rfl; (with_reducible repeat (first | refine blk_drewN ?_ _ | refine blk_drew ?_ | refine blk_alloc ?_ _)); refine blk_put (cs := #[.bool t525, .bool t526, .bool false, .bool false, .bool false]) ?_ 2 _ rfl; (with_reducible repeat (first | refine blk_drewN ?_ _ | refine blk_drew ?_ | refine blk_alloc ?_ _)); refine blk_put (cs := #[.bool t525, .bool false, .bool false, .bool false, .bool false]) ?_ 1 _ rfl; (with_reducible repeat (first | refine blk_drewN ?_ _ | refine blk_drew ?_ | refine blk_alloc ?_ _)); refine blk_put (cs := #[.bool false, .bool false, .bool false, .bool false, .bool false]) ?_ 0 _ rfl; (with_reducible repeat (first | refine blk_drewN ?_ _ | refine blk_drew ?_ | refine blk_alloc ?_ _)); exact BK530.out) hb); have n2_ := Aside0.mk (below_step (bl2 HB.out GE523.out GE530.out) hb); clear BK523; clear BK530; clear HB; have BK523 := n0_; have BK530 := n1_; have HB := n2_; clear n0_ n1_ n2_; (try clear hb); (try clear hb2); (try clear hk); (try clear hi)) | ((with_reducible refine gate_dst (N := 11) rfl ?_); refine box_event ?hg (N := 11) ?hd (cs := #[.bool false, .bool false, .bool false, .bool false, .bool false]) (t := 41) ?hr ?_; (case hd => rfl); (case hg => rfl); (case hr => first | (go_simp; done) | (go_simp; rfl)); intro gb537 hg w71 hbox hb; have n0_ := Aside0.mk (blk_below (g := gb523) (o := .cells #[.bool t518, .bool t519, .bool t520, .bool t521, .bool t522] 41 (0, 0)) (bv BK523.out) hb); have n1_ := Aside0.mk (blk_below (g := gb530) (o := .cells #[.bool t525, .bool t526, .bool t527, .bool t528, .bool false] 41 (0, 0)) (bv BK530.out) hb); have n2_ := Aside0.mk (below_step (bl2 HB.out GE523.out GE530.out) hb); have n3_ := Aside0.mk (hbox); have n4_ := Aside0.mk ((by rw [hg]; exact (below_size (bl2 HB.out GE523.out GE530.out)) : w.heap.size ≤ gb537)); have n5_ := Aside0.mk ((by rw [hg]; exact (below_size (bl2 HB.out GE523.out GE530.out)) : w.heap.size ≤ gb537)); have n6_ := Aside0.mk ((by rw [hg]; exact Nat.ne_of_lt (blk_lt (g := gb523) (o := .cells #[.bool t518, .bool t519, .bool t520, .bool t521, .bool t522] 41 (0, 0)) (bv BK523.out)) : gb523 ≠ gb537)); have n7_ := Aside0.mk ((by rw [hg]; exact Nat.ne_of_gt (blk_lt (g := gb523) (o := .cells #[.bool t518, .bool t519, .bool t520, .bool t521, .bool t522] 41 (0, 0)) (bv BK523.out)) : gb537 ≠ gb523)); have n8_ := Aside0.mk ((by rw [hg]; exact Nat.ne_of_lt (blk_lt (g := gb530) (o := .cells #[.bool t525, .bool t526, .bool t527, .bool t528, .bool false] 41 (0, 0)) (bv BK530.out)) : gb530 ≠ gb537)); have n9_ := Aside0.mk ((by rw [hg]; exact Nat.ne_of_gt (blk_lt (g := gb530) (o := .cells #[.bool t525, .bool t526, .bool t527, .bool t528, .bool false] 41 (0, 0)) (bv BK530.out)) : gb537 ≠ gb530)); clear BK523; clear BK530; clear HB; have BK523 := n0_; have BK530 := n1_; have HB := n2_; have BK537 := n3_; have GW537 := n4_; have GE537 := n5_; have NB523_537 := n6_; have NB537_523 := n7_; have NB530_537 := n8_; have NB537_530 := n9_; clear n0_ n1_ n2_ n3_ n4_ n5_ n6_ n7_ n8_ n9_; clear hb hbox hg; have hnb72 := NB537_523.out; have hnc72 := NB523_537.out; have hnb73 := NB537_530.out; have hnc73 := NB530_537.out; obtain ⟨hcz74_0, hcz74_1, hcz74_2, hcz74_3, hcz74_4⟩ := bc5 BK537.out; obtain ⟨hfz74_0, hfz74_1, hfz74_2, hfz74_3, hfz74_4⟩ := bf5 BK537.out) | ((with_reducible refine gate_callee (f := 32) rfl ?_); refine goesL_ (some 43) rfl rfl Try.func32 (by kernel_rfl) rfl #[.int .i64 2, .int .i64 1, .int .u32 t517] rfl gl ?_; (with_reducible refine (whole_ToInt.calls k 2 1 t517 t538 t539 t540 t541 t542 t543 _ A9.out).mono ?_); rintro e w75 ⟨rfl, hb⟩; refine ⟨_, rfl, ?_⟩; have n0_ := Aside0.mk (blk_below (g := gb523) (o := .cells #[.bool t518, .bool t519, .bool t520, .bool t521, .bool t522] 41 (0, 0)) (by (with_reducible repeat (first | refine blk_drewN ?_ _ | refine blk_drew ?_ | refine blk_alloc ?_ _)); refine blk_far ?_ NB523_537.out _; (with_reducible repeat (first | refine blk_drewN ?_ _ | refine blk_drew ?_ | refine blk_alloc ?_ _)); refine blk_far ?_ NB523_537.out _; (with_reducible repeat (first | refine blk_drewN ?_ _ | refine blk_drew ?_ | refine blk_alloc ?_ _)); refine blk_far ?_ NB523_537.out _; (with_reducible repeat (first | refine blk_drewN ?_ _ | refine blk_drew ?_ | refine blk_alloc ?_ _)); refine blk_far ?_ NB523_537.out _; (with_reducible repeat (first | refine blk_drewN ?_ _ | refine blk_drew ?_ | refine blk_alloc ?_ _)); refine blk_far ?_ NB523_537.out _; (with_reducible repeat (first | refine blk_drewN ?_ _ | refine blk_drew ?_ | refine blk_alloc ?_ _)); exact BK523.out) hb); have n1_ := Aside0.mk (blk_below (g := gb530) (o := .cells #[.bool t525, .bool t526, .bool t527, .bool t528, .bool false] 41 (0, 0)) (by (with_reducible repeat (first | refine blk_drewN ?_ _ | refine blk_drew ?_ | refine blk_alloc ?_ _)); refine blk_far ?_ NB530_537.out _; (with_reducible repeat (first | refine blk_drewN ?_ _ | refine blk_drew ?_ | refine blk_alloc ?_ _)); refine blk_far ?_ NB530_537.out _; (with_reducible repeat (first | refine blk_drewN ?_ _ | refine blk_drew ?_ | refine blk_alloc ?_ _)); refine blk_far ?_ NB530_537.out _; (with_reducible repeat (first | refine blk_drewN ?_ _ | refine blk_drew ?_ | refine blk_alloc ?_ _)); refine blk_far ?_ NB530_537.out _; (with_reducible repeat (first | refine blk_drewN ?_ _ | refine blk_drew ?_ | refine blk_alloc ?_ _)); refine blk_far ?_ NB530_537.out _; (with_reducible repeat (first | refine blk_drewN ?_ _ | refine blk_drew ?_ | refine blk_alloc ?_ _)); exact BK530.out) hb); have n2_ := Aside0.mk (blk_below (g := gb537) (o := .cells #[.bool t532, .bool t533, .bool t534, .bool t535, .bool t536] 41 (0, 0)) (by (with_reducible repeat (first | refine blk_drewN ?_ _ | refine blk_drew ?_ | refine blk_alloc ?_ _)); refine blk_put (cs := #[.bool t532, .bool t533, .bool t534, .bool t535, .bool false]) ?_ 4 _ rfl; (with_reducible repeat (first | refine blk_drewN ?_ _ | refine blk_drew ?_ | refine blk_alloc ?_ _)); refine blk_put (cs := #[.bool t532, .bool t533, .bool t534, .bool false, .bool false]) ?_ 3 _ rfl; (with_reducible repeat (first | refine blk_drewN ?_ _ | refine blk_drew ?_ | refine blk_alloc ?_ _)); refine blk_put (cs := #[.bool t532, .bool t533, .bool false, .bool false, .bool false]) ?_ 2 _ rfl; (with_reducible repeat (first | refine blk_drewN ?_ _ | refine blk_drew ?_ | refine blk_alloc ?_ _)); refine blk_put (cs := #[.bool t532, .bool false, .bool false, .bool false, .bool false]) ?_ 1 _ rfl; (with_reducible repeat (first | refine blk_drewN ?_ _ | refine blk_drew ?_ | refine blk_alloc ?_ _)); refine blk_put (cs := #[.bool false, .bool false, .bool false, .bool false, .bool false]) ?_ 0 _ rfl; (with_reducible repeat (first | refine blk_drewN ?_ _ | refine blk_drew ?_ | refine blk_alloc ?_ _)); exact BK537.out) hb); have n3_ := Aside0.mk (below_step (bl3 HB.out GE523.out GE530.out GE537.out) hb); clear BK523; clear BK530; clear BK537; clear HB; have BK523 := n0_; have BK530 := n1_; have BK537 := n2_; have HB := n3_; clear n0_ n1_ n2_ n3_; (try clear hb); (try clear hb2); (try clear hk); (try clear hi)) | ((with_reducible refine gate_dst (N := 13) rfl ?_); refine box_event ?hg (N := 13) ?hd (cs := #[.bool false, .bool false, .bool false, .bool false, .bool false]) (t := 41) ?hr ?_; (case hd => rfl); (case hg => rfl); (case hr => first | (go_simp; done) | (go_simp; rfl)); intro gb544 hg w76 hbox hb; have n0_ := Aside0.mk (blk_below (g := gb523) (o := .cells #[.bool t518, .bool t519, .bool t520, .bool t521, .bool t522] 41 (0, 0)) (bv BK523.out) hb); have n1_ := Aside0.mk (blk_below (g := gb530) (o := .cells #[.bool t525, .bool t526, .bool t527, .bool t528, .bool false] 41 (0, 0)) (bv BK530.out) hb); have n2_ := Aside0.mk (blk_below (g := gb537) (o := .cells #[.bool t532, .bool t533, .bool t534, .bool t535, .bool t536] 41 (0, 0)) (bv BK537.out) hb); have n3_ := Aside0.mk (below_step (bl3 HB.out GE523.out GE530.out GE537.out) hb); have n4_ := Aside0.mk (hbox); have n5_ := Aside0.mk ((by rw [hg]; exact (below_size (bl3 HB.out GE523.out GE530.out GE537.out)) : w.heap.size ≤ gb544)); have n6_ := Aside0.mk ((by rw [hg]; exact (below_size (bl3 HB.out GE523.out GE530.out GE537.out)) : w.heap.size ≤ gb544)); have n7_ := Aside0.mk ((by rw [hg]; exact Nat.ne_of_lt (blk_lt (g := gb523) (o := .cells #[.bool t518, .bool t519, .bool t520, .bool t521, .bool t522] 41 (0, 0)) (bv BK523.out)) : gb523 ≠ gb544)); have n8_ := Aside0.mk ((by rw [hg]; exact Nat.ne_of_gt (blk_lt (g := gb523) (o := .cells #[.bool t518, .bool t519, .bool t520, .bool t521, .bool t522] 41 (0, 0)) (bv BK523.out)) : gb544 ≠ gb523)); have n9_ := Aside0.mk ((by rw [hg]; exact Nat.ne_of_lt (blk_lt (g := gb530) (o := .cells #[.bool t525, .bool t526, .bool t527, .bool t528, .bool false] 41 (0, 0)) (bv BK530.out)) : gb530 ≠ gb544)); have n10_ := Aside0.mk ((by rw [hg]; exact Nat.ne_of_gt (blk_lt (g := gb530) (o := .cells #[.bool t525, .bool t526, .bool t527, .bool t528, .bool false] 41 (0, 0)) (bv BK530.out)) : gb544 ≠ gb530)); have n11_ := Aside0.mk ((by rw [hg]; exact Nat.ne_of_lt (blk_lt (g := gb537) (o := .cells #[.bool t532, .bool t533, .bool t534, .bool t535, .bool t536] 41 (0, 0)) (bv BK537.out)) : gb537 ≠ gb544)); have n12_ := Aside0.mk ((by rw [hg]; exact Nat.ne_of_gt (blk_lt (g := gb537) (o := .cells #[.bool t532, .bool t533, .bool t534, .bool t535, .bool t536] 41 (0, 0)) (bv BK537.out)) : gb544 ≠ gb537)); clear BK523; clear BK530; clear BK537; clear HB; have BK523 := n0_; have BK530 := n1_; have BK537 := n2_; have HB := n3_; have BK544 := n4_; have GW544 := n5_; have GE544 := n6_; have NB523_544 := n7_; have NB544_523 := n8_; have NB530_544 := n9_; have NB544_530 := n10_; have NB537_544 := n11_; have NB544_537 := n12_; clear n0_ n1_ n2_ n3_ n4_ n5_ n6_ n7_ n8_ n9_ n10_ n11_ n12_; clear hb hbox hg; have hnb77 := NB544_523.out; have hnc77 := NB523_544.out; have hnb78 := NB544_530.out; have hnc78 := NB530_544.out; have hnb79 := NB544_537.out; have hnc79 := NB537_544.out; obtain ⟨hcz80_0, hcz80_1, hcz80_2, hcz80_3, hcz80_4⟩ := bc5 BK544.out; obtain ⟨hfz80_0, hfz80_1, hfz80_2, hfz80_3, hfz80_4⟩ := bf5 BK544.out) | ((with_reducible refine gate_callee (f := 32) rfl ?_); refine goesL_ (some 48) rfl rfl Try.func32 (by kernel_rfl) rfl #[.int .i64 2, .int .i64 0, .int .u32 t517] rfl gl ?_; (with_reducible refine (whole_ToInt.calls k 2 0 t517 t545 t546 t547 t548 t549 t550 _ A10.out).mono ?_); rintro e w81 ⟨rfl, hb⟩; refine ⟨_, rfl, ?_⟩; have n0_ := Aside0.mk (blk_below (g := gb523) (o := .cells #[.bool t518, .bool t519, .bool t520, .bool t521, .bool t522] 41 (0, 0)) (by (with_reducible repeat (first | refine blk_drewN ?_ _ | refine blk_drew ?_ | refine blk_alloc ?_ _)); refine blk_far ?_ NB523_544.out _; (with_reducible repeat (first | refine blk_drewN ?_ _ | refine blk_drew ?_ | refine blk_alloc ?_ _)); refine blk_far ?_ NB523_544.out _; (with_reducible repeat (first | refine blk_drewN ?_ _ | refine blk_drew ?_ | refine blk_alloc ?_ _)); refine blk_far ?_ NB523_544.out _; (with_reducible repeat (first | refine blk_drewN ?_ _ | refine blk_drew ?_ | refine blk_alloc ?_ _)); refine blk_far ?_ NB523_544.out _; (with_reducible repeat (first | refine blk_drewN ?_ _ | refine blk_drew ?_ | refine blk_alloc ?_ _)); refine blk_far ?_ NB523_544.out _; (with_reducible repeat (first | refine blk_drewN ?_ _ | refine blk_drew ?_ | refine blk_alloc ?_ _)); exact BK523.out) hb); have n1_ := Aside0.mk (blk_below (g := gb530) (o := .cells #[.bool t525, .bool t526, .bool t527, .bool t528, .bool false] 41 (0, 0)) (by (with_reducible repeat (first | refine blk_drewN ?_ _ | refine blk_drew ?_ | refine blk_alloc ?_ _)); refine blk_far ?_ NB530_544.out _; (with_reducible repeat (first | refine blk_drewN ?_ _ | refine blk_drew ?_ | refine blk_alloc ?_ _)); refine blk_far ?_ NB530_544.out _; (with_reducible repeat (first | refine blk_drewN ?_ _ | refine blk_drew ?_ | refine blk_alloc ?_ _)); refine blk_far ?_ NB530_544.out _; (with_reducible repeat (first | refine blk_drewN ?_ _ | refine blk_drew ?_ | refine blk_alloc ?_ _)); refine blk_far ?_ NB530_544.out _; (with_reducible repeat (first | refine blk_drewN ?_ _ | refine blk_drew ?_ | refine blk_alloc ?_ _)); refine blk_far ?_ NB530_544.out _; (with_reducible repeat (first | refine blk_drewN ?_ _ | refine blk_drew ?_ | refine blk_alloc ?_ _)); exact BK530.out) hb); have n2_ := Aside0.mk (blk_below (g := gb537) (o := .cells #[.bool t532, .bool t533, .bool t534, .bool t535, .bool t536] 41 (0, 0)) (by (with_reducible repeat (first | refine blk_drewN ?_ _ | refine blk_drew ?_ | refine blk_alloc ?_ _)); refine blk_far ?_ NB537_544.out _; (with_reducible repeat (first | refine blk_drewN ?_ _ | refine blk_drew ?_ | refine blk_alloc ?_ _)); refine blk_far ?_ NB537_544.out _; (with_reducible repeat (first | refine blk_drewN ?_ _ | refine blk_drew ?_ | refine blk_alloc ?_ _)); refine blk_far ?_ NB537_544.out _; (with_reducible repeat (first | refine blk_drewN ?_ _ | refine blk_drew ?_ | refine blk_alloc ?_ _)); refine blk_far ?_ NB537_544.out _; (with_reducible repeat (first | refine blk_drewN ?_ _ | refine blk_drew ?_ | refine blk_alloc ?_ _)); refine blk_far ?_ NB537_544.out _; (with_reducible repeat (first | refine blk_drewN ?_ _ | refine blk_drew ?_ | refine blk_alloc ?_ _)); exact BK537.out) hb); have n3_ := Aside0.mk (blk_below (g := gb544) (o := .cells #[.bool t539, .bool t540, .bool t541, .bool t542, .bool t543] 41 (0, 0)) (by (with_reducible repeat (first | refine blk_drewN ?_ _ | refine blk_drew ?_ | refine blk_alloc ?_ _)); refine blk_put (cs := #[.bool t539, .bool t540, .bool t541, .bool t542, .bool false]) ?_ 4 _ rfl; (with_reducible repeat (first | refine blk_drewN ?_ _ | refine blk_drew ?_ | refine blk_alloc ?_ _)); refine blk_put (cs := #[.bool t539, .bool t540, .bool t541, .bool false, .bool false]) ?_ 3 _ rfl; (with_reducible repeat (first | refine blk_drewN ?_ _ | refine blk_drew ?_ | refine blk_alloc ?_ _)); refine blk_put (cs := #[.bool t539, .bool t540, .bool false, .bool false, .bool false]) ?_ 2 _ rfl; (with_reducible repeat (first | refine blk_drewN ?_ _ | refine blk_drew ?_ | refine blk_alloc ?_ _)); refine blk_put (cs := #[.bool t539, .bool false, .bool false, .bool false, .bool false]) ?_ 1 _ rfl; (with_reducible repeat (first | refine blk_drewN ?_ _ | refine blk_drew ?_ | refine blk_alloc ?_ _)); refine blk_put (cs := #[.bool false, .bool false, .bool false, .bool false, .bool false]) ?_ 0 _ rfl; (with_reducible repeat (first | refine blk_drewN ?_ _ | refine blk_drew ?_ | refine blk_alloc ?_ _)); exact BK544.out) hb); have n4_ := Aside0.mk (below_step (bl4 HB.out GE523.out GE530.out GE537.out GE544.out) hb); clear BK523; clear BK530; clear BK537; clear BK544; clear HB; have BK523 := n0_; have BK530 := n1_; have BK537 := n2_; have BK544 := n3_; have HB := n4_; clear n0_ n1_ n2_ n3_ n4_; (try clear hb); (try clear hb2); (try clear hk); (try clear hi)) | ((with_reducible refine gate_dst (N := 15) rfl ?_); refine box_event ?hg (N := 15) ?hd (cs := #[.bool false, .bool false, .bool false, .bool false, .bool false]) (t := 41) ?hr ?_; (case hd => rfl); (case hg => rfl); (case hr => first | (go_simp; done) | (go_simp; rfl)); intro gb551 hg w82 hbox hb; have n0_ := Aside0.mk (blk_below (g := gb523) (o := .cells #[.bool t518, .bool t519, .bool t520, .bool t521, .bool t522] 41 (0, 0)) (bv BK523.out) hb); have n1_ := Aside0.mk (blk_below (g := gb530) (o := .cells #[.bool t525, .bool t526, .bool t527, .bool t528, .bool false] 41 (0, 0)) (bv BK530.out) hb); have n2_ := Aside0.mk (blk_below (g := gb537) (o := .cells #[.bool t532, .bool t533, .bool t534, .bool t535, .bool t536] 41 (0, 0)) (bv BK537.out) hb); have n3_ := Aside0.mk (blk_below (g := gb544) (o := .cells #[.bool t539, .bool t540, .bool t541, .bool t542, .bool t543] 41 (0, 0)) (bv BK544.out) hb); have n4_ := Aside0.mk (below_step (bl4 HB.out GE523.out GE530.out GE537.out GE544.out) hb); have n5_ := Aside0.mk (hbox); have n6_ := Aside0.mk ((by rw [hg]; exact (below_size (bl4 HB.out GE523.out GE530.out GE537.out GE544.out)) : w.heap.size ≤ gb551)); have n7_ := Aside0.mk ((by rw [hg]; exact (below_size (bl4 HB.out GE523.out GE530.out GE537.out GE544.out)) : w.heap.size ≤ gb551)); have n8_ := Aside0.mk ((by rw [hg]; exact Nat.ne_of_lt (blk_lt (g := gb523) (o := .cells #[.bool t518, .bool t519, .bool t520, .bool t521, .bool t522] 41 (0, 0)) (bv BK523.out)) : gb523 ≠ gb551)); have n9_ := Aside0.mk ((by rw [hg]; exact Nat.ne_of_gt (blk_lt (g := gb523) (o := .cells #[.bool t518, .bool t519, .bool t520, .bool t521, .bool t522] 41 (0, 0)) (bv BK523.out)) : gb551 ≠ gb523)); have n10_ := Aside0.mk ((by rw [hg]; exact Nat.ne_of_lt (blk_lt (g := gb530) (o := .cells #[.bool t525, .bool t526, .bool t527, .bool t528, .bool false] 41 (0, 0)) (bv BK530.out)) : gb530 ≠ gb551)); have n11_ := Aside0.mk ((by rw [hg]; exact Nat.ne_of_gt (blk_lt (g := gb530) (o := .cells #[.bool t525, .bool t526, .bool t527, .bool t528, .bool false] 41 (0, 0)) (bv BK530.out)) : gb551 ≠ gb530)); have n12_ := Aside0.mk ((by rw [hg]; exact Nat.ne_of_lt (blk_lt (g := gb537) (o := .cells #[.bool t532, .bool t533, .bool t534, .bool t535, .bool t536] 41 (0, 0)) (bv BK537.out)) : gb537 ≠ gb551)); have n13_ := Aside0.mk ((by rw [hg]; exact Nat.ne_of_gt (blk_lt (g := gb537) (o := .cells #[.bool t532, .bool t533, .bool t534, .bool t535, .bool t536] 41 (0, 0)) (bv BK537.out)) : gb551 ≠ gb537)); have n14_ := Aside0.mk ((by rw [hg]; exact Nat.ne_of_lt (blk_lt (g := gb544) (o := .cells #[.bool t539, .bool t540, .bool t541, .bool t542, .bool t543] 41 (0, 0)) (bv BK544.out)) : gb544 ≠ gb551)); have n15_ := Aside0.mk ((by rw [hg]; exact Nat.ne_of_gt (blk_lt (g := gb544) (o := .cells #[.bool t539, .bool t540, .bool t541, .bool t542, .bool t543] 41 (0, 0)) (bv BK544.out)) : gb551 ≠ gb544)); clear BK523; clear BK530; clear BK537; clear BK544; clear HB; have BK523 := n0_; have BK530 := n1_; have BK537 := n2_; have BK544 := n3_; have HB := n4_; have BK551 := n5_; have GW551 := n6_; have GE551 := n7_; have NB523_551 := n8_; have NB551_523 := n9_; have NB530_551 := n10_; have NB551_530 := n11_; have NB537_551 := n12_; have NB551_537 := n13_; have NB544_551 := n14_; have NB551_544 := n15_; clear n0_ n1_ n2_ n3_ n4_ n5_ n6_ n7_ n8_ n9_ n10_ n11_ n12_ n13_ n14_ n15_; clear hb hbox hg; have hnb83 := NB551_523.out; have hnc83 := NB523_551.out; have hnb84 := NB551_530.out; have hnc84 := NB530_551.out; have hnb85 := NB551_537.out; have hnc85 := NB537_551.out; have hnb86 := NB551_544.out; have hnc86 := NB544_551.out; obtain ⟨hcz87_0, hcz87_1, hcz87_2, hcz87_3, hcz87_4⟩ := bc5 BK551.out; obtain ⟨hfz87_0, hfz87_1, hfz87_2, hfz87_3, hfz87_4⟩ := bf5 BK551.out) | ((with_reducible refine gate_callee (f := 32) rfl ?_); refine goesL_ (some 53) rfl rfl Try.func32 (by kernel_rfl) rfl #[.int .i64 2, .int .i64 4, .int .u32 t517] rfl gl ?_; (with_reducible refine (whole_ToInt.calls k 2 4 t517 t552 t553 t554 t555 t556 t557 _ A11.out).mono ?_); rintro e w88 ⟨rfl, hb⟩; refine ⟨_, rfl, ?_⟩; have n0_ := Aside0.mk (blk_below (g := gb523) (o := .cells #[.bool t518, .bool t519, .bool t520, .bool t521, .bool t522] 41 (0, 0)) (by (with_reducible repeat (first | refine blk_drewN ?_ _ | refine blk_drew ?_ | refine blk_alloc ?_ _)); refine blk_far ?_ NB523_551.out _; (with_reducible repeat (first | refine blk_drewN ?_ _ | refine blk_drew ?_ | refine blk_alloc ?_ _)); refine blk_far ?_ NB523_551.out _; (with_reducible repeat (first | refine blk_drewN ?_ _ | refine blk_drew ?_ | refine blk_alloc ?_ _)); refine blk_far ?_ NB523_551.out _; (with_reducible repeat (first | refine blk_drewN ?_ _ | refine blk_drew ?_ | refine blk_alloc ?_ _)); refine blk_far ?_ NB523_551.out _; (with_reducible repeat (first | refine blk_drewN ?_ _ | refine blk_drew ?_ | refine blk_alloc ?_ _)); refine blk_far ?_ NB523_551.out _; (with_reducible repeat (first | refine blk_drewN ?_ _ | refine blk_drew ?_ | refine blk_alloc ?_ _)); exact BK523.out) hb); have n1_ := Aside0.mk (blk_below (g := gb530) (o := .cells #[.bool t525, .bool t526, .bool t527, .bool t528, .bool false] 41 (0, 0)) (by (with_reducible repeat (first | refine blk_drewN ?_ _ | refine blk_drew ?_ | refine blk_alloc ?_ _)); refine blk_far ?_ NB530_551.out _; (with_reducible repeat (first | refine blk_drewN ?_ _ | refine blk_drew ?_ | refine blk_alloc ?_ _)); refine blk_far ?_ NB530_551.out _; (with_reducible repeat (first | refine blk_drewN ?_ _ | refine blk_drew ?_ | refine blk_alloc ?_ _)); refine blk_far ?_ NB530_551.out _; (with_reducible repeat (first | refine blk_drewN ?_ _ | refine blk_drew ?_ | refine blk_alloc ?_ _)); refine blk_far ?_ NB530_551.out _; (with_reducible repeat (first | refine blk_drewN ?_ _ | refine blk_drew ?_ | refine blk_alloc ?_ _)); refine blk_far ?_ NB530_551.out _; (with_reducible repeat (first | refine blk_drewN ?_ _ | refine blk_drew ?_ | refine blk_alloc ?_ _)); exact BK530.out) hb); have n2_ := Aside0.mk (blk_below (g := gb537) (o := .cells #[.bool t532, .bool t533, .bool t534, .bool t535, .bool t536] 41 (0, 0)) (by (with_reducible repeat (first | refine blk_drewN ?_ _ | refine blk_drew ?_ | refine blk_alloc ?_ _)); refine blk_far ?_ NB537_551.out _; (with_reducible repeat (first | refine blk_drewN ?_ _ | refine blk_drew ?_ | refine blk_alloc ?_ _)); refine blk_far ?_ NB537_551.out _; (with_reducible repeat (first | refine blk_drewN ?_ _ | refine blk_drew ?_ | refine blk_alloc ?_ _)); refine blk_far ?_ NB537_551.out _; (with_reducible repeat (first | refine blk_drewN ?_ _ | refine blk_drew ?_ | refine blk_alloc ?_ _)); refine blk_far ?_ NB537_551.out _; (with_reducible repeat (first | refine blk_drewN ?_ _ | refine blk_drew ?_ | refine blk_alloc ?_ _)); refine blk_far ?_ NB537_551.out _; (with_reducible repeat (first | refine blk_drewN ?_ _ | refine blk_drew ?_ | refine blk_alloc ?_ _)); exact BK537.out) hb); have n3_ := Aside0.mk (blk_below (g := gb544) (o := .cells #[.bool t539, .bool t540, .bool t541, .bool t542, .bool t543] 41 (0, 0)) (by (with_reducible repeat (first | refine blk_drewN ?_ _ | refine blk_drew ?_ | refine blk_alloc ?_ _)); refine blk_far ?_ NB544_551.out _; (with_reducible repeat (first | refine blk_drewN ?_ _ | refine blk_drew ?_ | refine blk_alloc ?_ _)); refine blk_far ?_ NB544_551.out _; (with_reducible repeat (first | refine blk_drewN ?_ _ | refine blk_drew ?_ | refine blk_alloc ?_ _)); refine blk_far ?_ NB544_551.out _; (with_reducible repeat (first | refine blk_drewN ?_ _ | refine blk_drew ?_ | refine blk_alloc ?_ _)); refine blk_far ?_ NB544_551.out _; (with_reducible repeat (first | refine blk_drewN ?_ _ | refine blk_drew ?_ | refine blk_alloc ?_ _)); refine blk_far ?_ NB544_551.out _; (with_reducible repeat (first | refine blk_drewN ?_ _ | refine blk_drew ?_ | refine blk_alloc ?_ _)); exact BK544.out) hb); have n4_ := Aside0.mk (blk_below (g := gb551) (o := .cells #[.bool t546, .bool t547, .bool t548, .bool t549, .bool t550] 41 (0, 0)) (by (with_reducible repeat (first | refine blk_drewN ?_ _ | refine blk_drew ?_ | refine blk_alloc ?_ _)); refine blk_put (cs := #[.bool t546, .bool t547, .bool t548, .bool t549, .bool false]) ?_ 4 _ rfl; (with_reducible repeat (first | refine blk_drewN ?_ _ | refine blk_drew ?_ | refine blk_alloc ?_ _)); refine blk_put (cs := #[.bool t546, .bool t547, .bool t548, .bool false, .bool false]) ?_ 3 _ rfl; (with_reducible repeat (first | refine blk_drewN ?_ _ | refine blk_drew ?_ | refine blk_alloc ?_ _)); refine blk_put (cs := #[.bool t546, .bool t547, .bool false, .bool false, .bool false]) ?_ 2 _ rfl; (with_reducible repeat (first | refine blk_drewN ?_ _ | refine blk_drew ?_ | refine blk_alloc ?_ _)); refine blk_put (cs := #[.bool t546, .bool false, .bool false, .bool false, .bool false]) ?_ 1 _ rfl; (with_reducible repeat (first | refine blk_drewN ?_ _ | refine blk_drew ?_ | refine blk_alloc ?_ _)); refine blk_put (cs := #[.bool false, .bool false, .bool false, .bool false, .bool false]) ?_ 0 _ rfl; (with_reducible repeat (first | refine blk_drewN ?_ _ | refine blk_drew ?_ | refine blk_alloc ?_ _)); exact BK551.out) hb); have n5_ := Aside0.mk (below_step (bl5 HB.out GE523.out GE530.out GE537.out GE544.out GE551.out) hb); clear BK523; clear BK530; clear BK537; clear BK544; clear BK551; clear HB; have BK523 := n0_; have BK530 := n1_; have BK537 := n2_; have BK544 := n3_; have BK551 := n4_; have HB := n5_; clear n0_ n1_ n2_ n3_ n4_ n5_; (try clear hb); (try clear hb2); (try clear hk); (try clear hi)) | ((with_reducible refine gate_dst (N := 17) rfl ?_); refine box_event ?hg (N := 17) ?hd (cs := #[.bool false, .bool false, .bool false, .bool false, .bool false]) (t := 41) ?hr ?_; (case hd => rfl); (case hg => rfl); (case hr => first | (go_simp; done) | (go_simp; rfl)); intro gb558 hg w89 hbox hb; have n0_ := Aside0.mk (blk_below (g := gb523) (o := .cells #[.bool t518, .bool t519, .bool t520, .bool t521, .bool t522] 41 (0, 0)) (bv BK523.out) hb); have n1_ := Aside0.mk (blk_below (g := gb530) (o := .cells #[.bool t525, .bool t526, .bool t527, .bool t528, .bool false] 41 (0, 0)) (bv BK530.out) hb); have n2_ := Aside0.mk (blk_below (g := gb537) (o := .cells #[.bool t532, .bool t533, .bool t534, .bool t535, .bool t536] 41 (0, 0)) (bv BK537.out) hb); have n3_ := Aside0.mk (blk_below (g := gb544) (o := .cells #[.bool t539, .bool t540, .bool t541, .bool t542, .bool t543] 41 (0, 0)) (bv BK544.out) hb); have n4_ := Aside0.mk (blk_below (g := gb551) (o := .cells #[.bool t546, .bool t547, .bool t548, .bool t549, .bool t550] 41 (0, 0)) (bv BK551.out) hb); have n5_ := Aside0.mk (below_step (bl5 HB.out GE523.out GE530.out GE537.out GE544.out GE551.out) hb); have n6_ := Aside0.mk (hbox); have n7_ := Aside0.mk ((by rw [hg]; exact (below_size (bl5 HB.out GE523.out GE530.out GE537.out GE544.out GE551.out)) : w.heap.size ≤ gb558)); have n8_ := Aside0.mk ((by rw [hg]; exact (below_size (bl5 HB.out GE523.out GE530.out GE537.out GE544.out GE551.out)) : w.heap.size ≤ gb558)); have n9_ := Aside0.mk ((by rw [hg]; exact Nat.ne_of_lt (blk_lt (g := gb523) (o := .cells #[.bool t518, .bool t519, .bool t520, .bool t521, .bool t522] 41 (0, 0)) (bv BK523.out)) : gb523 ≠ gb558)); have n10_ := Aside0.mk ((by rw [hg]; exact Nat.ne_of_gt (blk_lt (g := gb523) (o := .cells #[.bool t518, .bool t519, .bool t520, .bool t521, .bool t522] 41 (0, 0)) (bv BK523.out)) : gb558 ≠ gb523)); have n11_ := Aside0.mk ((by rw [hg]; exact Nat.ne_of_lt (blk_lt (g := gb530) (o := .cells #[.bool t525, .bool t526, .bool t527, .bool t528, .bool false] 41 (0, 0)) (bv BK530.out)) : gb530 ≠ gb558)); have n12_ := Aside0.mk ((by rw [hg]; exact Nat.ne_of_gt (blk_lt (g := gb530) (o := .cells #[.bool t525, .bool t526, .bool t527, .bool t528, .bool false] 41 (0, 0)) (bv BK530.out)) : gb558 ≠ gb530)); have n13_ := Aside0.mk ((by rw [hg]; exact Nat.ne_of_lt (blk_lt (g := gb537) (o := .cells #[.bool t532, .bool t533, .bool t534, .bool t535, .bool t536] 41 (0, 0)) (bv BK537.out)) : gb537 ≠ gb558)); have n14_ := Aside0.mk ((by rw [hg]; exact Nat.ne_of_gt (blk_lt (g := gb537) (o := .cells #[.bool t532, .bool t533, .bool t534, .bool t535, .bool t536] 41 (0, 0)) (bv BK537.out)) : gb558 ≠ gb537)); have n15_ := Aside0.mk ((by rw [hg]; exact Nat.ne_of_lt (blk_lt (g := gb544) (o := .cells #[.bool t539, .bool t540, .bool t541, .bool t542, .bool t543] 41 (0, 0)) (bv BK544.out)) : gb544 ≠ gb558)); have n16_ := Aside0.mk ((by rw [hg]; exact Nat.ne_of_gt (blk_lt (g := gb544) (o := .cells #[.bool t539, .bool t540, .bool t541, .bool t542, .bool t543] 41 (0, 0)) (bv BK544.out)) : gb558 ≠ gb544)); have n17_ := Aside0.mk ((by rw [hg]; exact Nat.ne_of_lt (blk_lt (g := gb551) (o := .cells #[.bool t546, .bool t547, .bool t548, .bool t549, .bool t550] 41 (0, 0)) (bv BK551.out)) : gb551 ≠ gb558)); have n18_ := Aside0.mk ((by rw [hg]; exact Nat.ne_of_gt (blk_lt (g := gb551) (o := .cells #[.bool t546, .bool t547, .bool t548, .bool t549, .bool t550] 41 (0, 0)) (bv BK551.out)) : gb558 ≠ gb551)); clear BK523; clear BK530; clear BK537; clear BK544; clear BK551; clear HB; have BK523 := n0_; have BK530 := n1_; have BK537 := n2_; have BK544 := n3_; have BK551 := n4_; have HB := n5_; have BK558 := n6_; have GW558 := n7_; have GE558 := n8_; have NB523_558 := n9_; have NB558_523 := n10_; have NB530_558 := n11_; have NB558_530 := n12_; have NB537_558 := n13_; have NB558_537 := n14_; have NB544_558 := n15_; have NB558_544 := n16_; have NB551_558 := n17_; have NB558_551 := n18_; clear n0_ n1_ n2_ n3_ n4_ n5_ n6_ n7_ n8_ n9_ n10_ n11_ n12_ n13_ n14_ n15_ n16_ n17_ n18_; clear hb hbox hg; have hnb90 := NB558_523.out; have hnc90 := NB523_558.out; have hnb91 := NB558_530.out; have hnc91 := NB530_558.out; have hnb92 := NB558_537.out; have hnc92 := NB537_558.out; have hnb93 := NB558_544.out; have hnc93 := NB544_558.out; have hnb94 := NB558_551.out; have hnc94 := NB551_558.out; obtain ⟨hcz95_0, hcz95_1, hcz95_2, hcz95_3, hcz95_4⟩ := bc5 BK558.out; obtain ⟨hfz95_0, hfz95_1, hfz95_2, hfz95_3, hfz95_4⟩ := bf5 BK558.out; obtain ⟨hcz96_0, hcz96_1, hcz96_2, hcz96_3, hcz96_4⟩ := bc5 BK530.out; obtain ⟨hfz96_0, hfz96_1, hfz96_2, hfz96_3, hfz96_4⟩ := bf5 BK530.out))
   (try simp only [Act.put, List.setIfInBounds_toArray, List.set_cons_zero, List.set_cons_succ])
   go_cut [4] (fun v4 wc => ∃ (kq : Nat) (x4_60 : Bool), v4 = .bool x4_60 ∧ Aside0 (anneallaw8_WholeSides.j0 kq x4_60 = some r) ∧ Aside0 (kq ≤ k) ∧ Aside0 (wc.heap[gb523]? = some (.cells #[.bool t518, .bool t519, .bool t520, .bool t521, .bool t522] 41 (0, 0))) ∧ Aside0 (wc.heap[gb530]? = some (.cells #[.bool t525, .bool t526, .bool t527, .bool t528, .bool false] 41 (0, 0))) ∧ Aside0 (wc.heap[gb537]? = some (.cells #[.bool t532, .bool t533, .bool t534, .bool t535, .bool t536] 41 (0, 0))) ∧ Aside0 (wc.heap[gb544]? = some (.cells #[.bool t539, .bool t540, .bool t541, .bool t542, .bool t543] 41 (0, 0))) ∧ Aside0 (wc.heap[gb551]? = some (.cells #[.bool t546, .bool t547, .bool t548, .bool t549, .bool t550] 41 (0, 0))) ∧ Aside0 (wc.heap[gb558]? = some (.cells #[.bool t553, .bool t554, .bool t555, .bool t556, .bool t557] 41 (0, 0))) ∧ Aside0 (Below w.heap.size w wc))
   case first =>
    have H := HC61.out
    clear HC61
    by_cases c97 : t524 = t531
    ·rw [if_pos c97] at H
     have c97b0 : (t524 == t531) = true := beq_iff_eq.mpr c97
     have c97b1 : (t524 != t531) = false := bne_eq_false_iff_eq.mpr c97
     clear c97
     (first | rw [c97b0] | (simp only [i64_w, i32_w]; rw [c97b0]) | skip)
     by_cases c98 : t538 = t524
     ·rw [if_pos c98] at H
      have c98b0 : (t538 == t524) = true := beq_iff_eq.mpr c98
      have c98b1 : (t538 != t524) = false := bne_eq_false_iff_eq.mpr c98
      clear c98
      by_cases c99 : t545 = t524
      ·rw [if_pos c99] at H
       have c99b0 : (t545 == t524) = true := beq_iff_eq.mpr c99
       have c99b1 : (t545 != t524) = false := bne_eq_false_iff_eq.mpr c99
       clear c99
       have H' := Aside0.mk H
       clear H
       go_wp2
       go_meet
       case rel => exact ⟨_, ((t552 == t524)), (by first | rfl | (simp; done) | (simp [*]; done) | (congr 1; (try unfold wrap64); omega) | (congr 1; rw [IntKind.wrap_u64]; omega)), H', ⟨by first | omega | exact Nat.le_refl _⟩, ⟨by (with_reducible repeat (first | refine blk_drewN ?_ _ | refine blk_drew ?_ | refine blk_alloc ?_ _)); refine blk_far ?_ NB523_558.out _; (with_reducible repeat (first | refine blk_drewN ?_ _ | refine blk_drew ?_ | refine blk_alloc ?_ _)); refine blk_far ?_ NB523_558.out _; (with_reducible repeat (first | refine blk_drewN ?_ _ | refine blk_drew ?_ | refine blk_alloc ?_ _)); refine blk_far ?_ NB523_558.out _; (with_reducible repeat (first | refine blk_drewN ?_ _ | refine blk_drew ?_ | refine blk_alloc ?_ _)); refine blk_far ?_ NB523_558.out _; (with_reducible repeat (first | refine blk_drewN ?_ _ | refine blk_drew ?_ | refine blk_alloc ?_ _)); refine blk_far ?_ NB523_558.out _; (with_reducible repeat (first | refine blk_drewN ?_ _ | refine blk_drew ?_ | refine blk_alloc ?_ _)); exact BK523.out⟩, ⟨by (with_reducible repeat (first | refine blk_drewN ?_ _ | refine blk_drew ?_ | refine blk_alloc ?_ _)); refine blk_far ?_ NB530_558.out _; (with_reducible repeat (first | refine blk_drewN ?_ _ | refine blk_drew ?_ | refine blk_alloc ?_ _)); refine blk_far ?_ NB530_558.out _; (with_reducible repeat (first | refine blk_drewN ?_ _ | refine blk_drew ?_ | refine blk_alloc ?_ _)); refine blk_far ?_ NB530_558.out _; (with_reducible repeat (first | refine blk_drewN ?_ _ | refine blk_drew ?_ | refine blk_alloc ?_ _)); refine blk_far ?_ NB530_558.out _; (with_reducible repeat (first | refine blk_drewN ?_ _ | refine blk_drew ?_ | refine blk_alloc ?_ _)); refine blk_far ?_ NB530_558.out _; (with_reducible repeat (first | refine blk_drewN ?_ _ | refine blk_drew ?_ | refine blk_alloc ?_ _)); exact BK530.out⟩, ⟨by (with_reducible repeat (first | refine blk_drewN ?_ _ | refine blk_drew ?_ | refine blk_alloc ?_ _)); refine blk_far ?_ NB537_558.out _; (with_reducible repeat (first | refine blk_drewN ?_ _ | refine blk_drew ?_ | refine blk_alloc ?_ _)); refine blk_far ?_ NB537_558.out _; (with_reducible repeat (first | refine blk_drewN ?_ _ | refine blk_drew ?_ | refine blk_alloc ?_ _)); refine blk_far ?_ NB537_558.out _; (with_reducible repeat (first | refine blk_drewN ?_ _ | refine blk_drew ?_ | refine blk_alloc ?_ _)); refine blk_far ?_ NB537_558.out _; (with_reducible repeat (first | refine blk_drewN ?_ _ | refine blk_drew ?_ | refine blk_alloc ?_ _)); refine blk_far ?_ NB537_558.out _; (with_reducible repeat (first | refine blk_drewN ?_ _ | refine blk_drew ?_ | refine blk_alloc ?_ _)); exact BK537.out⟩, ⟨by (with_reducible repeat (first | refine blk_drewN ?_ _ | refine blk_drew ?_ | refine blk_alloc ?_ _)); refine blk_far ?_ NB544_558.out _; (with_reducible repeat (first | refine blk_drewN ?_ _ | refine blk_drew ?_ | refine blk_alloc ?_ _)); refine blk_far ?_ NB544_558.out _; (with_reducible repeat (first | refine blk_drewN ?_ _ | refine blk_drew ?_ | refine blk_alloc ?_ _)); refine blk_far ?_ NB544_558.out _; (with_reducible repeat (first | refine blk_drewN ?_ _ | refine blk_drew ?_ | refine blk_alloc ?_ _)); refine blk_far ?_ NB544_558.out _; (with_reducible repeat (first | refine blk_drewN ?_ _ | refine blk_drew ?_ | refine blk_alloc ?_ _)); refine blk_far ?_ NB544_558.out _; (with_reducible repeat (first | refine blk_drewN ?_ _ | refine blk_drew ?_ | refine blk_alloc ?_ _)); exact BK544.out⟩, ⟨by (with_reducible repeat (first | refine blk_drewN ?_ _ | refine blk_drew ?_ | refine blk_alloc ?_ _)); refine blk_far ?_ NB551_558.out _; (with_reducible repeat (first | refine blk_drewN ?_ _ | refine blk_drew ?_ | refine blk_alloc ?_ _)); refine blk_far ?_ NB551_558.out _; (with_reducible repeat (first | refine blk_drewN ?_ _ | refine blk_drew ?_ | refine blk_alloc ?_ _)); refine blk_far ?_ NB551_558.out _; (with_reducible repeat (first | refine blk_drewN ?_ _ | refine blk_drew ?_ | refine blk_alloc ?_ _)); refine blk_far ?_ NB551_558.out _; (with_reducible repeat (first | refine blk_drewN ?_ _ | refine blk_drew ?_ | refine blk_alloc ?_ _)); refine blk_far ?_ NB551_558.out _; (with_reducible repeat (first | refine blk_drewN ?_ _ | refine blk_drew ?_ | refine blk_alloc ?_ _)); exact BK551.out⟩, ⟨by (with_reducible repeat (first | refine blk_drewN ?_ _ | refine blk_drew ?_ | refine blk_alloc ?_ _)); refine blk_put (cs := #[.bool t553, .bool t554, .bool t555, .bool t556, .bool false]) ?_ 4 _ rfl; (with_reducible repeat (first | refine blk_drewN ?_ _ | refine blk_drew ?_ | refine blk_alloc ?_ _)); refine blk_put (cs := #[.bool t553, .bool t554, .bool t555, .bool false, .bool false]) ?_ 3 _ rfl; (with_reducible repeat (first | refine blk_drewN ?_ _ | refine blk_drew ?_ | refine blk_alloc ?_ _)); refine blk_put (cs := #[.bool t553, .bool t554, .bool false, .bool false, .bool false]) ?_ 2 _ rfl; (with_reducible repeat (first | refine blk_drewN ?_ _ | refine blk_drew ?_ | refine blk_alloc ?_ _)); refine blk_put (cs := #[.bool t553, .bool false, .bool false, .bool false, .bool false]) ?_ 1 _ rfl; (with_reducible repeat (first | refine blk_drewN ?_ _ | refine blk_drew ?_ | refine blk_alloc ?_ _)); refine blk_put (cs := #[.bool false, .bool false, .bool false, .bool false, .bool false]) ?_ 0 _ rfl; (with_reducible repeat (first | refine blk_drewN ?_ _ | refine blk_drew ?_ | refine blk_alloc ?_ _)); exact BK558.out⟩, ⟨bl6 HB.out GE523.out GE530.out GE537.out GE544.out GE551.out GE558.out⟩⟩
      ·rw [if_neg c99] at H
       have c99b0 : (t545 == t524) = false := beq_eq_false_iff_ne.mpr c99
       have c99b1 : (t545 != t524) = true := bne_iff_ne.mpr c99
       have H' := Aside0.mk H
       clear H
       go_wp2
       go_meet
       case rel => exact ⟨_, (false), (by first | rfl | (simp; done) | (simp [*]; done) | (congr 1; (try unfold wrap64); omega) | (congr 1; rw [IntKind.wrap_u64]; omega)), H', ⟨by first | omega | exact Nat.le_refl _⟩, ⟨by (with_reducible repeat (first | refine blk_drewN ?_ _ | refine blk_drew ?_ | refine blk_alloc ?_ _)); refine blk_far ?_ NB523_558.out _; (with_reducible repeat (first | refine blk_drewN ?_ _ | refine blk_drew ?_ | refine blk_alloc ?_ _)); refine blk_far ?_ NB523_558.out _; (with_reducible repeat (first | refine blk_drewN ?_ _ | refine blk_drew ?_ | refine blk_alloc ?_ _)); refine blk_far ?_ NB523_558.out _; (with_reducible repeat (first | refine blk_drewN ?_ _ | refine blk_drew ?_ | refine blk_alloc ?_ _)); refine blk_far ?_ NB523_558.out _; (with_reducible repeat (first | refine blk_drewN ?_ _ | refine blk_drew ?_ | refine blk_alloc ?_ _)); refine blk_far ?_ NB523_558.out _; (with_reducible repeat (first | refine blk_drewN ?_ _ | refine blk_drew ?_ | refine blk_alloc ?_ _)); exact BK523.out⟩, ⟨by (with_reducible repeat (first | refine blk_drewN ?_ _ | refine blk_drew ?_ | refine blk_alloc ?_ _)); refine blk_far ?_ NB530_558.out _; (with_reducible repeat (first | refine blk_drewN ?_ _ | refine blk_drew ?_ | refine blk_alloc ?_ _)); refine blk_far ?_ NB530_558.out _; (with_reducible repeat (first | refine blk_drewN ?_ _ | refine blk_drew ?_ | refine blk_alloc ?_ _)); refine blk_far ?_ NB530_558.out _; (with_reducible repeat (first | refine blk_drewN ?_ _ | refine blk_drew ?_ | refine blk_alloc ?_ _)); refine blk_far ?_ NB530_558.out _; (with_reducible repeat (first | refine blk_drewN ?_ _ | refine blk_drew ?_ | refine blk_alloc ?_ _)); refine blk_far ?_ NB530_558.out _; (with_reducible repeat (first | refine blk_drewN ?_ _ | refine blk_drew ?_ | refine blk_alloc ?_ _)); exact BK530.out⟩, ⟨by (with_reducible repeat (first | refine blk_drewN ?_ _ | refine blk_drew ?_ | refine blk_alloc ?_ _)); refine blk_far ?_ NB537_558.out _; (with_reducible repeat (first | refine blk_drewN ?_ _ | refine blk_drew ?_ | refine blk_alloc ?_ _)); refine blk_far ?_ NB537_558.out _; (with_reducible repeat (first | refine blk_drewN ?_ _ | refine blk_drew ?_ | refine blk_alloc ?_ _)); refine blk_far ?_ NB537_558.out _; (with_reducible repeat (first | refine blk_drewN ?_ _ | refine blk_drew ?_ | refine blk_alloc ?_ _)); refine blk_far ?_ NB537_558.out _; (with_reducible repeat (first | refine blk_drewN ?_ _ | refine blk_drew ?_ | refine blk_alloc ?_ _)); refine blk_far ?_ NB537_558.out _; (with_reducible repeat (first | refine blk_drewN ?_ _ | refine blk_drew ?_ | refine blk_alloc ?_ _)); exact BK537.out⟩, ⟨by (with_reducible repeat (first | refine blk_drewN ?_ _ | refine blk_drew ?_ | refine blk_alloc ?_ _)); refine blk_far ?_ NB544_558.out _; (with_reducible repeat (first | refine blk_drewN ?_ _ | refine blk_drew ?_ | refine blk_alloc ?_ _)); refine blk_far ?_ NB544_558.out _; (with_reducible repeat (first | refine blk_drewN ?_ _ | refine blk_drew ?_ | refine blk_alloc ?_ _)); refine blk_far ?_ NB544_558.out _; (with_reducible repeat (first | refine blk_drewN ?_ _ | refine blk_drew ?_ | refine blk_alloc ?_ _)); refine blk_far ?_ NB544_558.out _; (with_reducible repeat (first | refine blk_drewN ?_ _ | refine blk_drew ?_ | refine blk_alloc ?_ _)); refine blk_far ?_ NB544_558.out _; (with_reducible repeat (first | refine blk_drewN ?_ _ | refine blk_drew ?_ | refine blk_alloc ?_ _)); exact BK544.out⟩, ⟨by (with_reducible repeat (first | refine blk_drewN ?_ _ | refine blk_drew ?_ | refine blk_alloc ?_ _)); refine blk_far ?_ NB551_558.out _; (with_reducible repeat (first | refine blk_drewN ?_ _ | refine blk_drew ?_ | refine blk_alloc ?_ _)); refine blk_far ?_ NB551_558.out _; (with_reducible repeat (first | refine blk_drewN ?_ _ | refine blk_drew ?_ | refine blk_alloc ?_ _)); refine blk_far ?_ NB551_558.out _; (with_reducible repeat (first | refine blk_drewN ?_ _ | refine blk_drew ?_ | refine blk_alloc ?_ _)); refine blk_far ?_ NB551_558.out _; (with_reducible repeat (first | refine blk_drewN ?_ _ | refine blk_drew ?_ | refine blk_alloc ?_ _)); refine blk_far ?_ NB551_558.out _; (with_reducible repeat (first | refine blk_drewN ?_ _ | refine blk_drew ?_ | refine blk_alloc ?_ _)); exact BK551.out⟩, ⟨by (with_reducible repeat (first | refine blk_drewN ?_ _ | refine blk_drew ?_ | refine blk_alloc ?_ _)); refine blk_put (cs := #[.bool t553, .bool t554, .bool t555, .bool t556, .bool false]) ?_ 4 _ rfl; (with_reducible repeat (first | refine blk_drewN ?_ _ | refine blk_drew ?_ | refine blk_alloc ?_ _)); refine blk_put (cs := #[.bool t553, .bool t554, .bool t555, .bool false, .bool false]) ?_ 3 _ rfl; (with_reducible repeat (first | refine blk_drewN ?_ _ | refine blk_drew ?_ | refine blk_alloc ?_ _)); refine blk_put (cs := #[.bool t553, .bool t554, .bool false, .bool false, .bool false]) ?_ 2 _ rfl; (with_reducible repeat (first | refine blk_drewN ?_ _ | refine blk_drew ?_ | refine blk_alloc ?_ _)); refine blk_put (cs := #[.bool t553, .bool false, .bool false, .bool false, .bool false]) ?_ 1 _ rfl; (with_reducible repeat (first | refine blk_drewN ?_ _ | refine blk_drew ?_ | refine blk_alloc ?_ _)); refine blk_put (cs := #[.bool false, .bool false, .bool false, .bool false, .bool false]) ?_ 0 _ rfl; (with_reducible repeat (first | refine blk_drewN ?_ _ | refine blk_drew ?_ | refine blk_alloc ?_ _)); exact BK558.out⟩, ⟨bl6 HB.out GE523.out GE530.out GE537.out GE544.out GE551.out GE558.out⟩⟩
     ·rw [if_neg c98] at H
      have c98b0 : (t538 == t524) = false := beq_eq_false_iff_ne.mpr c98
      have c98b1 : (t538 != t524) = true := bne_iff_ne.mpr c98
      have H' := Aside0.mk H
      clear H
      go_wp2
      go_meet
      case rel => exact ⟨_, (false), (by first | rfl | (simp; done) | (simp [*]; done) | (congr 1; (try unfold wrap64); omega) | (congr 1; rw [IntKind.wrap_u64]; omega)), H', ⟨by first | omega | exact Nat.le_refl _⟩, ⟨by (with_reducible repeat (first | refine blk_drewN ?_ _ | refine blk_drew ?_ | refine blk_alloc ?_ _)); refine blk_far ?_ NB523_558.out _; (with_reducible repeat (first | refine blk_drewN ?_ _ | refine blk_drew ?_ | refine blk_alloc ?_ _)); refine blk_far ?_ NB523_558.out _; (with_reducible repeat (first | refine blk_drewN ?_ _ | refine blk_drew ?_ | refine blk_alloc ?_ _)); refine blk_far ?_ NB523_558.out _; (with_reducible repeat (first | refine blk_drewN ?_ _ | refine blk_drew ?_ | refine blk_alloc ?_ _)); refine blk_far ?_ NB523_558.out _; (with_reducible repeat (first | refine blk_drewN ?_ _ | refine blk_drew ?_ | refine blk_alloc ?_ _)); refine blk_far ?_ NB523_558.out _; (with_reducible repeat (first | refine blk_drewN ?_ _ | refine blk_drew ?_ | refine blk_alloc ?_ _)); exact BK523.out⟩, ⟨by (with_reducible repeat (first | refine blk_drewN ?_ _ | refine blk_drew ?_ | refine blk_alloc ?_ _)); refine blk_far ?_ NB530_558.out _; (with_reducible repeat (first | refine blk_drewN ?_ _ | refine blk_drew ?_ | refine blk_alloc ?_ _)); refine blk_far ?_ NB530_558.out _; (with_reducible repeat (first | refine blk_drewN ?_ _ | refine blk_drew ?_ | refine blk_alloc ?_ _)); refine blk_far ?_ NB530_558.out _; (with_reducible repeat (first | refine blk_drewN ?_ _ | refine blk_drew ?_ | refine blk_alloc ?_ _)); refine blk_far ?_ NB530_558.out _; (with_reducible repeat (first | refine blk_drewN ?_ _ | refine blk_drew ?_ | refine blk_alloc ?_ _)); refine blk_far ?_ NB530_558.out _; (with_reducible repeat (first | refine blk_drewN ?_ _ | refine blk_drew ?_ | refine blk_alloc ?_ _)); exact BK530.out⟩, ⟨by (with_reducible repeat (first | refine blk_drewN ?_ _ | refine blk_drew ?_ | refine blk_alloc ?_ _)); refine blk_far ?_ NB537_558.out _; (with_reducible repeat (first | refine blk_drewN ?_ _ | refine blk_drew ?_ | refine blk_alloc ?_ _)); refine blk_far ?_ NB537_558.out _; (with_reducible repeat (first | refine blk_drewN ?_ _ | refine blk_drew ?_ | refine blk_alloc ?_ _)); refine blk_far ?_ NB537_558.out _; (with_reducible repeat (first | refine blk_drewN ?_ _ | refine blk_drew ?_ | refine blk_alloc ?_ _)); refine blk_far ?_ NB537_558.out _; (with_reducible repeat (first | refine blk_drewN ?_ _ | refine blk_drew ?_ | refine blk_alloc ?_ _)); refine blk_far ?_ NB537_558.out _; (with_reducible repeat (first | refine blk_drewN ?_ _ | refine blk_drew ?_ | refine blk_alloc ?_ _)); exact BK537.out⟩, ⟨by (with_reducible repeat (first | refine blk_drewN ?_ _ | refine blk_drew ?_ | refine blk_alloc ?_ _)); refine blk_far ?_ NB544_558.out _; (with_reducible repeat (first | refine blk_drewN ?_ _ | refine blk_drew ?_ | refine blk_alloc ?_ _)); refine blk_far ?_ NB544_558.out _; (with_reducible repeat (first | refine blk_drewN ?_ _ | refine blk_drew ?_ | refine blk_alloc ?_ _)); refine blk_far ?_ NB544_558.out _; (with_reducible repeat (first | refine blk_drewN ?_ _ | refine blk_drew ?_ | refine blk_alloc ?_ _)); refine blk_far ?_ NB544_558.out _; (with_reducible repeat (first | refine blk_drewN ?_ _ | refine blk_drew ?_ | refine blk_alloc ?_ _)); refine blk_far ?_ NB544_558.out _; (with_reducible repeat (first | refine blk_drewN ?_ _ | refine blk_drew ?_ | refine blk_alloc ?_ _)); exact BK544.out⟩, ⟨by (with_reducible repeat (first | refine blk_drewN ?_ _ | refine blk_drew ?_ | refine blk_alloc ?_ _)); refine blk_far ?_ NB551_558.out _; (with_reducible repeat (first | refine blk_drewN ?_ _ | refine blk_drew ?_ | refine blk_alloc ?_ _)); refine blk_far ?_ NB551_558.out _; (with_reducible repeat (first | refine blk_drewN ?_ _ | refine blk_drew ?_ | refine blk_alloc ?_ _)); refine blk_far ?_ NB551_558.out _; (with_reducible repeat (first | refine blk_drewN ?_ _ | refine blk_drew ?_ | refine blk_alloc ?_ _)); refine blk_far ?_ NB551_558.out _; (with_reducible repeat (first | refine blk_drewN ?_ _ | refine blk_drew ?_ | refine blk_alloc ?_ _)); refine blk_far ?_ NB551_558.out _; (with_reducible repeat (first | refine blk_drewN ?_ _ | refine blk_drew ?_ | refine blk_alloc ?_ _)); exact BK551.out⟩, ⟨by (with_reducible repeat (first | refine blk_drewN ?_ _ | refine blk_drew ?_ | refine blk_alloc ?_ _)); refine blk_put (cs := #[.bool t553, .bool t554, .bool t555, .bool t556, .bool false]) ?_ 4 _ rfl; (with_reducible repeat (first | refine blk_drewN ?_ _ | refine blk_drew ?_ | refine blk_alloc ?_ _)); refine blk_put (cs := #[.bool t553, .bool t554, .bool t555, .bool false, .bool false]) ?_ 3 _ rfl; (with_reducible repeat (first | refine blk_drewN ?_ _ | refine blk_drew ?_ | refine blk_alloc ?_ _)); refine blk_put (cs := #[.bool t553, .bool t554, .bool false, .bool false, .bool false]) ?_ 2 _ rfl; (with_reducible repeat (first | refine blk_drewN ?_ _ | refine blk_drew ?_ | refine blk_alloc ?_ _)); refine blk_put (cs := #[.bool t553, .bool false, .bool false, .bool false, .bool false]) ?_ 1 _ rfl; (with_reducible repeat (first | refine blk_drewN ?_ _ | refine blk_drew ?_ | refine blk_alloc ?_ _)); refine blk_put (cs := #[.bool false, .bool false, .bool false, .bool false, .bool false]) ?_ 0 _ rfl; (with_reducible repeat (first | refine blk_drewN ?_ _ | refine blk_drew ?_ | refine blk_alloc ?_ _)); exact BK558.out⟩, ⟨bl6 HB.out GE523.out GE530.out GE537.out GE544.out GE551.out GE558.out⟩⟩
    ·rw [if_neg c97] at H
     have c97b0 : (t524 == t531) = false := beq_eq_false_iff_ne.mpr c97
     have c97b1 : (t524 != t531) = true := bne_iff_ne.mpr c97
     (first | rw [c97b0] | (simp only [i64_w, i32_w]; rw [c97b0]) | skip)
     have H' := Aside0.mk H
     clear H
     go_wp2
     go_meet
     case rel => exact ⟨_, (false), (by first | rfl | (simp; done) | (simp [*]; done) | (congr 1; (try unfold wrap64); omega) | (congr 1; rw [IntKind.wrap_u64]; omega)), H', ⟨by first | omega | exact Nat.le_refl _⟩, ⟨by (with_reducible repeat (first | refine blk_drewN ?_ _ | refine blk_drew ?_ | refine blk_alloc ?_ _)); refine blk_far ?_ NB523_558.out _; (with_reducible repeat (first | refine blk_drewN ?_ _ | refine blk_drew ?_ | refine blk_alloc ?_ _)); refine blk_far ?_ NB523_558.out _; (with_reducible repeat (first | refine blk_drewN ?_ _ | refine blk_drew ?_ | refine blk_alloc ?_ _)); refine blk_far ?_ NB523_558.out _; (with_reducible repeat (first | refine blk_drewN ?_ _ | refine blk_drew ?_ | refine blk_alloc ?_ _)); refine blk_far ?_ NB523_558.out _; (with_reducible repeat (first | refine blk_drewN ?_ _ | refine blk_drew ?_ | refine blk_alloc ?_ _)); refine blk_far ?_ NB523_558.out _; (with_reducible repeat (first | refine blk_drewN ?_ _ | refine blk_drew ?_ | refine blk_alloc ?_ _)); exact BK523.out⟩, ⟨by (with_reducible repeat (first | refine blk_drewN ?_ _ | refine blk_drew ?_ | refine blk_alloc ?_ _)); refine blk_far ?_ NB530_558.out _; (with_reducible repeat (first | refine blk_drewN ?_ _ | refine blk_drew ?_ | refine blk_alloc ?_ _)); refine blk_far ?_ NB530_558.out _; (with_reducible repeat (first | refine blk_drewN ?_ _ | refine blk_drew ?_ | refine blk_alloc ?_ _)); refine blk_far ?_ NB530_558.out _; (with_reducible repeat (first | refine blk_drewN ?_ _ | refine blk_drew ?_ | refine blk_alloc ?_ _)); refine blk_far ?_ NB530_558.out _; (with_reducible repeat (first | refine blk_drewN ?_ _ | refine blk_drew ?_ | refine blk_alloc ?_ _)); refine blk_far ?_ NB530_558.out _; (with_reducible repeat (first | refine blk_drewN ?_ _ | refine blk_drew ?_ | refine blk_alloc ?_ _)); exact BK530.out⟩, ⟨by (with_reducible repeat (first | refine blk_drewN ?_ _ | refine blk_drew ?_ | refine blk_alloc ?_ _)); refine blk_far ?_ NB537_558.out _; (with_reducible repeat (first | refine blk_drewN ?_ _ | refine blk_drew ?_ | refine blk_alloc ?_ _)); refine blk_far ?_ NB537_558.out _; (with_reducible repeat (first | refine blk_drewN ?_ _ | refine blk_drew ?_ | refine blk_alloc ?_ _)); refine blk_far ?_ NB537_558.out _; (with_reducible repeat (first | refine blk_drewN ?_ _ | refine blk_drew ?_ | refine blk_alloc ?_ _)); refine blk_far ?_ NB537_558.out _; (with_reducible repeat (first | refine blk_drewN ?_ _ | refine blk_drew ?_ | refine blk_alloc ?_ _)); refine blk_far ?_ NB537_558.out _; (with_reducible repeat (first | refine blk_drewN ?_ _ | refine blk_drew ?_ | refine blk_alloc ?_ _)); exact BK537.out⟩, ⟨by (with_reducible repeat (first | refine blk_drewN ?_ _ | refine blk_drew ?_ | refine blk_alloc ?_ _)); refine blk_far ?_ NB544_558.out _; (with_reducible repeat (first | refine blk_drewN ?_ _ | refine blk_drew ?_ | refine blk_alloc ?_ _)); refine blk_far ?_ NB544_558.out _; (with_reducible repeat (first | refine blk_drewN ?_ _ | refine blk_drew ?_ | refine blk_alloc ?_ _)); refine blk_far ?_ NB544_558.out _; (with_reducible repeat (first | refine blk_drewN ?_ _ | refine blk_drew ?_ | refine blk_alloc ?_ _)); refine blk_far ?_ NB544_558.out _; (with_reducible repeat (first | refine blk_drewN ?_ _ | refine blk_drew ?_ | refine blk_alloc ?_ _)); refine blk_far ?_ NB544_558.out _; (with_reducible repeat (first | refine blk_drewN ?_ _ | refine blk_drew ?_ | refine blk_alloc ?_ _)); exact BK544.out⟩, ⟨by (with_reducible repeat (first | refine blk_drewN ?_ _ | refine blk_drew ?_ | refine blk_alloc ?_ _)); refine blk_far ?_ NB551_558.out _; (with_reducible repeat (first | refine blk_drewN ?_ _ | refine blk_drew ?_ | refine blk_alloc ?_ _)); refine blk_far ?_ NB551_558.out _; (with_reducible repeat (first | refine blk_drewN ?_ _ | refine blk_drew ?_ | refine blk_alloc ?_ _)); refine blk_far ?_ NB551_558.out _; (with_reducible repeat (first | refine blk_drewN ?_ _ | refine blk_drew ?_ | refine blk_alloc ?_ _)); refine blk_far ?_ NB551_558.out _; (with_reducible repeat (first | refine blk_drewN ?_ _ | refine blk_drew ?_ | refine blk_alloc ?_ _)); refine blk_far ?_ NB551_558.out _; (with_reducible repeat (first | refine blk_drewN ?_ _ | refine blk_drew ?_ | refine blk_alloc ?_ _)); exact BK551.out⟩, ⟨by (with_reducible repeat (first | refine blk_drewN ?_ _ | refine blk_drew ?_ | refine blk_alloc ?_ _)); refine blk_put (cs := #[.bool t553, .bool t554, .bool t555, .bool t556, .bool false]) ?_ 4 _ rfl; (with_reducible repeat (first | refine blk_drewN ?_ _ | refine blk_drew ?_ | refine blk_alloc ?_ _)); refine blk_put (cs := #[.bool t553, .bool t554, .bool t555, .bool false, .bool false]) ?_ 3 _ rfl; (with_reducible repeat (first | refine blk_drewN ?_ _ | refine blk_drew ?_ | refine blk_alloc ?_ _)); refine blk_put (cs := #[.bool t553, .bool t554, .bool false, .bool false, .bool false]) ?_ 2 _ rfl; (with_reducible repeat (first | refine blk_drewN ?_ _ | refine blk_drew ?_ | refine blk_alloc ?_ _)); refine blk_put (cs := #[.bool t553, .bool false, .bool false, .bool false, .bool false]) ?_ 1 _ rfl; (with_reducible repeat (first | refine blk_drewN ?_ _ | refine blk_drew ?_ | refine blk_alloc ?_ _)); refine blk_put (cs := #[.bool false, .bool false, .bool false, .bool false, .bool false]) ?_ 0 _ rfl; (with_reducible repeat (first | refine blk_drewN ?_ _ | refine blk_drew ?_ | refine blk_alloc ?_ _)); exact BK558.out⟩, ⟨bl6 HB.out GE523.out GE530.out GE537.out GE544.out GE551.out GE558.out⟩⟩
   case rest =>
    clear HC61
    try clear c1
    try clear c2
    try clear p2
    try clear c3
    try clear p3
    try clear c4
    try clear c5
    try clear c6
    try clear p6
    try clear c7
    try clear c8
    try clear c9
    try clear c12
    try clear c20
    try clear c24
    try clear c25
    try clear c27
    try clear c29
    try clear c30
    try clear c31
    try clear c32
    try clear p32
    try clear c35
    try clear c36
    try clear c37
    try clear c38
    try clear c42
    try clear c43
    try clear c44
    try clear c45
    try clear c46
    try clear c49
    try clear c49b0
    try clear c49b1
    try clear c51
    try clear c51b0
    try clear c51b1
    try clear c52
    try clear c52b0
    try clear c52b1
    try clear c53
    try clear c53b0
    try clear c53b1
    try clear c54
    try clear c54b0
    try clear c54b1
    try clear c55
    try clear c55b0
    try clear c55b1
    try clear c56
    try clear c56b0
    try clear c56b1
    try clear c57
    try clear c57b0
    try clear c57b1
    try clear c58
    try clear c58b0
    try clear c58b1
    try clear c59
    try clear c59b0
    try clear c59b1
    try clear c60
    try clear c60b0
    try clear c60b1
    try clear p64
    try clear c68
    try clear c72
    try clear c73
    try clear c77
    try clear c78
    try clear c79
    try clear c83
    try clear c84
    try clear c85
    try clear c86
    try clear c90
    try clear c91
    try clear c92
    try clear c93
    try clear c94
    try clear c97
    try clear c97b0
    try clear c97b1
    try clear c98
    try clear c98b0
    try clear c98b1
    try clear c99
    try clear c99b0
    try clear c99b1
    try clear hcz17_0
    try clear hcz17_1
    try clear hcz17_2
    try clear hcz17_3
    try clear hcz17_4
    try clear hcz21_0
    try clear hcz21_1
    try clear hcz21_2
    try clear hcz21_3
    try clear hcz21_4
    try clear hcz26_0
    try clear hcz26_1
    try clear hcz26_2
    try clear hcz26_3
    try clear hcz26_4
    try clear hcz32_0
    try clear hcz32_1
    try clear hcz32_2
    try clear hcz32_3
    try clear hcz32_4
    try clear hcz39_0
    try clear hcz39_1
    try clear hcz39_2
    try clear hcz39_3
    try clear hcz39_4
    try clear hcz47_0
    try clear hcz47_1
    try clear hcz47_2
    try clear hcz47_3
    try clear hcz47_4
    try clear hcz48_0
    try clear hcz48_1
    try clear hcz48_2
    try clear hcz48_3
    try clear hcz48_4
    try clear hcz65_0
    try clear hcz65_1
    try clear hcz65_2
    try clear hcz65_3
    try clear hcz65_4
    try clear hcz69_0
    try clear hcz69_1
    try clear hcz69_2
    try clear hcz69_3
    try clear hcz69_4
    try clear hcz74_0
    try clear hcz74_1
    try clear hcz74_2
    try clear hcz74_3
    try clear hcz74_4
    try clear hcz80_0
    try clear hcz80_1
    try clear hcz80_2
    try clear hcz80_3
    try clear hcz80_4
    try clear hcz87_0
    try clear hcz87_1
    try clear hcz87_2
    try clear hcz87_3
    try clear hcz87_4
    try clear hcz95_0
    try clear hcz95_1
    try clear hcz95_2
    try clear hcz95_3
    try clear hcz95_4
    try clear hcz96_0
    try clear hcz96_1
    try clear hcz96_2
    try clear hcz96_3
    try clear hcz96_4
    try clear hfz17_0
    try clear hfz17_1
    try clear hfz17_2
    try clear hfz17_3
    try clear hfz17_4
    try clear hfz21_0
    try clear hfz21_1
    try clear hfz21_2
    try clear hfz21_3
    try clear hfz21_4
    try clear hfz26_0
    try clear hfz26_1
    try clear hfz26_2
    try clear hfz26_3
    try clear hfz26_4
    try clear hfz32_0
    try clear hfz32_1
    try clear hfz32_2
    try clear hfz32_3
    try clear hfz32_4
    try clear hfz39_0
    try clear hfz39_1
    try clear hfz39_2
    try clear hfz39_3
    try clear hfz39_4
    try clear hfz47_0
    try clear hfz47_1
    try clear hfz47_2
    try clear hfz47_3
    try clear hfz47_4
    try clear hfz48_0
    try clear hfz48_1
    try clear hfz48_2
    try clear hfz48_3
    try clear hfz48_4
    try clear hfz65_0
    try clear hfz65_1
    try clear hfz65_2
    try clear hfz65_3
    try clear hfz65_4
    try clear hfz69_0
    try clear hfz69_1
    try clear hfz69_2
    try clear hfz69_3
    try clear hfz69_4
    try clear hfz74_0
    try clear hfz74_1
    try clear hfz74_2
    try clear hfz74_3
    try clear hfz74_4
    try clear hfz80_0
    try clear hfz80_1
    try clear hfz80_2
    try clear hfz80_3
    try clear hfz80_4
    try clear hfz87_0
    try clear hfz87_1
    try clear hfz87_2
    try clear hfz87_3
    try clear hfz87_4
    try clear hfz95_0
    try clear hfz95_1
    try clear hfz95_2
    try clear hfz95_3
    try clear hfz95_4
    try clear hfz96_0
    try clear hfz96_1
    try clear hfz96_2
    try clear hfz96_3
    try clear hfz96_4
    try clear p2
    try clear p3
    try clear p32
    try clear p6
    obtain ⟨kq, x4_60, rfl, HA, HJ60, BK523, BK530, BK537, BK544, BK551, BK558, HB⟩ := hcut
    cases kq with
    |zero => exact absurd HA.out (by simp [anneallaw8_WholeSides.j0])
    |succ kj60 =>
     have H := HA.out
     clear HA
     simp only [anneallaw8_WholeSides.j0] at H
     obtain rfl := Option.some.inj H
     go_wp2
     go_ret
     exact ⟨by first | rfl | (simp [errW_none, errW_some] <;> rfl) | (simp [*, errW_none, errW_some] <;> rfl), bl6 HB.out GE523.out GE530.out GE537.out GE544.out GE551.out GE558.out⟩
 ·replace c4 := Bool.eq_false_iff.mpr c4
  subst c4
  have H1 : (some false) = some r := by rw [if_neg (show ¬ (false = true) by decide)] at H; exact H
  clear H
  have H := H1
  clear H1
  obtain rfl := Option.some.inj H
  go_enter Try.func8, Try.ntmps8
  go_wp2_with (first | ((with_reducible refine gate_callee (f := 25) rfl ?_); refine goesL_ (some 19) rfl rfl Try.func25 (by kernel_rfl) rfl #[] rfl gl ?_; (with_reducible refine (anneallaw8_known.calls k  false _ A3.out).mono ?_); rintro e w100 ⟨rfl, hb⟩; refine ⟨_, rfl, ?_⟩; have n0_ := Aside0.mk (below_step (bl0 HB.out) hb); clear HB; have HB := n0_; clear n0_; (try clear hb); (try clear hb2); (try clear hk); (try clear hi)))
  go_ret
  exact ⟨by first | rfl | (simp [errW_none, errW_some] <;> rfl) | (simp [*, errW_none, errW_some] <;> rfl), bl0 HB.out⟩

/-- THE ONE PURE STATEMENT of anneallaw8_WholeSides: yours. -/
def anneallaw8_WholeSides.Pure : Prop := ∀ (a0 : Int) (a1 : Int), (Lit.int .u32 a0).wf = true → (Lit.int .u8 a1).wf = true → ∃ k, anneallaw8_WholeSides.f k a0 a1 = some true
theorem anneallaw8_WholeSides.walk (P : anneallaw8_WholeSides.Pure) (a0 : Int) (a1 : Int) (w : World) (w0 : (Lit.int .u32 a0).wf = true) (w1 : (Lit.int .u8 a1).wf = true) :
  Calls Try.prog 8 #[.int .u32 a0, .int .u8 a1] w fun e w' => e = .returned (.bool true) ∧ Below w.heap.size w w' := by
 obtain ⟨k, h⟩ := P a0 a1 w0 w1
 refine (anneallaw8_WholeSides.calls k a0 a1 true w h).mono ?_
 rintro e w' ⟨rfl, hd⟩
 exact ⟨rfl, hd⟩

end Go.Proofs.Ytngkpekmgahjiaa.P
