import Derived.Test.YtlkjoibpfhjhcaaQpoM1
import Derived.Test.YtlkjoibpfhjhcaaQpoM4
import Derived.Test.YtlkjoibpfhjhcaaQpoM5
import Derived.Test.YtlkjoibpfhjhcaaQpoM6
import Derived.Test.YtlkjoibpfhjhcaaQpoPx23
import Derived.Test.YtlkjoibpfhjhcaaQpoZ
import Derived.Test.YtlkjoibpfhjhcaaQpoPx16
import Derived.Test.YtlkjoibpfhjhcaaQpoPx27
-- Printed by a program of this session's out of Lean's print of the translation; Lean checks it.
namespace Go.Proofs.Ytlkjoibpfhjhcaa.P
open Go.RowKit Go.Proofs.YtlkjoibpfhjhcaaW.PrintWords Go.Proofs.YtlkjoibpfhjhcaaW.PrintLast Go.Proofs.YtlkjoibpfhjhcaaW.PrintMore
attribute [local go_sem] max2_int min2_int max_two min_two max_three min_three max_four min_four   -- for this text's walks alone
set_option linter.unusedVariables false
set_option linter.unusedSimpArgs false

/-! ### annealref1_Scale: function 18 -/
/-! ### annealref1_neg: function 46 -/
/-! ### annealref1_Key: function 20 -/
/-! ### annealref1_zero: function 51 -/
/-! ### annealref1_Compare: function 45 -/
end Go.Proofs.Ytlkjoibpfhjhcaa.P

-- Printed by a program of this session's out of Lean's print of the translation; Lean checks it.
namespace Go.Proofs.Ytlkjoibpfhjhcaa.P
open Go.RowKit Go.Proofs.YtlkjoibpfhjhcaaW.PrintWords Go.Proofs.YtlkjoibpfhjhcaaW.PrintLast Go.Proofs.YtlkjoibpfhjhcaaW.PrintMore
attribute [local go_sem] max2_int min2_int max_two min_two max_three min_three max_four min_four   -- for this text's walks alone
set_option linter.unusedVariables false
set_option linter.unusedSimpArgs false

/-! ### annealref1_Mul: function 24 -/
end Go.Proofs.Ytlkjoibpfhjhcaa.P

-- Printed by a program of this session's out of Lean's print of the translation; Lean checks it.
namespace Go.Proofs.Ytlkjoibpfhjhcaa.P
open Go.RowKit Go.Proofs.YtlkjoibpfhjhcaaW.PrintWords Go.Proofs.YtlkjoibpfhjhcaaW.PrintLast Go.Proofs.YtlkjoibpfhjhcaaW.PrintMore
attribute [local go_sem] max2_int min2_int max_two min_two max_three min_three max_four min_four   -- for this text's walks alone
set_option linter.unusedVariables false
set_option linter.unusedSimpArgs false

attribute [local go_sem high] eqA27
/-! ### anneallaw5_ProdTells: function 6 -/
/-! ### annealref1_FromInt: function 25 -/
def annealref1_FromInt.f (k : Nat) (a0 : Int) (a1 : Int) (a2 : Int) : Option (Int × Bool × Bool × Bool × Bool × Bool) := if a2 < 0 then ((annealref1_Pack.f k a0 a1 true 0 (IntKind.u64.wrap (-(IntKind.u64.wrap (a2)))) false).bind fun bt704 => (some (bt704.1, bt704.2.1, bt704.2.2.1, bt704.2.2.2.1, bt704.2.2.2.2.1, bt704.2.2.2.2.2))) else ((annealref1_Pack.f k a0 a1 false 0 (IntKind.u64.wrap (a2)) false).bind fun bt710 => (some (bt710.1, bt710.2.1, bt710.2.2.1, bt710.2.2.2.1, bt710.2.2.2.2.1, bt710.2.2.2.2.2)))
set_option maxHeartbeats 8000000 in
set_option maxRecDepth 100000 in
theorem annealref1_FromInt.calls (k : Nat) (a0 : Int) (a1 : Int) (a2 : Int) (r1 : Int) (r2 : Bool) (r3 : Bool) (r4 : Bool) (r5 : Bool) (r6 : Bool) (w : World) (h : annealref1_FromInt.f k a0 a1 a2 = some (r1, r2, r3, r4, r5, r6)) :
  Calls Try.prog 25 #[.int .i64 a0, .int .i64 a1, .int .i64 a2] w fun e w' => e = .returned (.tuple #[.int .u32 r1, .agg #[.bool r2, .bool r3, .bool r4, .bool r5, .bool r6]]) ∧ Below w.heap.size w w' := by
 have hu27 := Try.underlying27
 have HB := Aside0.mk (Below.refl w.heap.size w)
 have H : (if a2 < 0 then ((annealref1_Pack.f k a0 a1 true 0 (IntKind.u64.wrap (-(IntKind.u64.wrap (a2)))) false).bind fun bt704 => (some (bt704.1, bt704.2.1, bt704.2.2.1, bt704.2.2.2.1, bt704.2.2.2.2.1, bt704.2.2.2.2.2))) else ((annealref1_Pack.f k a0 a1 false 0 (IntKind.u64.wrap (a2)) false).bind fun bt710 => (some (bt710.1, bt710.2.1, bt710.2.2.1, bt710.2.2.2.1, bt710.2.2.2.2.1, bt710.2.2.2.2.2)))) = some (r1, r2, r3, r4, r5, r6) := h
 clear h
 by_cases c4 : a2 < 0
 ·rw [if_pos c4] at H
  have c4b0 : decide (a2 < 0) = true := decide_eq_true c4
  clear c4
  replace H := Option.bind_eq_some_iff.mp H
  obtain ⟨⟨t704, t705, t706, t707, t708, t709⟩, A50, H⟩ := H
  replace H : (some (t704, t705, t706, t707, t708, t709)) = some (r1, r2, r3, r4, r5, r6) := H
  have A5 := Aside0.mk A50
  clear A50
  simp only [Option.some.injEq, Prod.mk.injEq] at H
  obtain ⟨rfl, rfl, rfl, rfl, rfl, rfl⟩ := H
  go_enter Try.func25, Try.ntmps25
  go_wp2_with (first | ((with_reducible refine gate_dst (N := 7) rfl ?_); refine box_event ?hg (N := 7) ?hd (cs := F5) (t := 27) ?hr ?_; (case hd => rfl); (case hg => rfl); (case hr => first | (go_simp; done) | (go_simp; rfl)); intro gb703 hg w6 hbox hb; have n0_ := Aside0.mk (below_step (bl0 HB.out) hb); have n1_ := Aside0.mk (hbox); have n2_ := Aside0.mk ((by rw [hg]; exact (below_size (bl0 HB.out)) : w.heap.size ≤ gb703)); have n3_ := n2_; clear HB; have HB := n0_; have BK703 := n1_; have GW703 := n2_; have GE703 := n3_; clear n0_ n1_ n2_ n3_; clear hb hbox hg) | ((with_reducible refine gate_callee (f := 44) rfl ?_); refine goesL_ (some 15) rfl rfl Try.func44 (by kernel_rfl) rfl #[.int .i64 a0, .int .i64 a1, .bool true, .int .i64 0, .int .u64 (IntKind.u64.wrap (-(IntKind.u64.wrap (a2)))), .bool false] rfl gl ?_; (with_reducible refine (annealref1_Pack.calls k a0 a1 true 0 (IntKind.u64.wrap (-(IntKind.u64.wrap (a2)))) false t704 t705 t706 t707 t708 t709 _ A5.out).mono ?_); rintro e w7 ⟨rfl, hb⟩; refine ⟨_, rfl, ?_⟩; have n0_ := Aside0.mk (blk_below (g := gb703) (o := .cells #[.bool false, .bool false, .bool false, .bool false, .bool false] 27 (0, 0)) (bv BK703.out) hb); have n1_ := Aside0.mk (below_step (bl1 HB.out GE703.out) hb); clear BK703; clear HB; have BK703 := n0_; have HB := n1_; clear n0_ n1_; obtain ⟨hcz8_0, hcz8_1, hcz8_2, hcz8_3, hcz8_4⟩ := bc5 BK703.out; obtain ⟨hfz8_0, hfz8_1, hfz8_2, hfz8_3, hfz8_4⟩ := bf5 BK703.out))
  refine bodyPost_ret (results_tc rfl _ _ gb703 27 #[.bool t705, .bool t706, .bool t707, .bool t708, .bool t709] (0, 0) _ rfl (by (with_reducible repeat first | apply bd | apply be | apply ba); refine blk_put (cs := #[.bool t705, .bool t706, .bool t707, .bool t708, .bool false]) ?_ 4 _ rfl; (with_reducible repeat first | apply bd | apply be | apply ba); refine blk_put (cs := #[.bool t705, .bool t706, .bool t707, .bool false, .bool false]) ?_ 3 _ rfl; (with_reducible repeat first | apply bd | apply be | apply ba); refine blk_put (cs := #[.bool t705, .bool t706, .bool false, .bool false, .bool false]) ?_ 2 _ rfl; (with_reducible repeat first | apply bd | apply be | apply ba); refine blk_put (cs := #[.bool t705, .bool false, .bool false, .bool false, .bool false]) ?_ 1 _ rfl; (with_reducible repeat first | apply bd | apply be | apply ba); refine blk_put (cs := F5) ?_ 0 _ rfl; (with_reducible repeat first | apply bd | apply be | apply ba); exact BK703.out) Try.underlying27 rfl (by kernel_rfl)) rfl ?_
  exact ⟨by first | rfl | (simp [errW_none, errW_some] <;> rfl) | (simp [*, errW_none, errW_some] <;> rfl), bl1 HB.out GE703.out⟩
 ·rw [if_neg c4] at H
  have c4b0 : decide (a2 < 0) = false := decide_eq_false c4
  clear c4
  replace H := Option.bind_eq_some_iff.mp H
  obtain ⟨⟨t710, t711, t712, t713, t714, t715⟩, A90, H⟩ := H
  replace H : (some (t710, t711, t712, t713, t714, t715)) = some (r1, r2, r3, r4, r5, r6) := H
  have A9 := Aside0.mk A90
  clear A90
  simp only [Option.some.injEq, Prod.mk.injEq] at H
  obtain ⟨rfl, rfl, rfl, rfl, rfl, rfl⟩ := H
  go_enter Try.func25, Try.ntmps25
  go_wp2_with (first | ((with_reducible refine gate_dst (N := 7) rfl ?_); refine box_event ?hg (N := 7) ?hd (cs := F5) (t := 27) ?hr ?_; (case hd => rfl); (case hg => rfl); (case hr => first | (go_simp; done) | (go_simp; rfl)); intro gb703 hg w10 hbox hb; have n0_ := Aside0.mk (below_step (bl0 HB.out) hb); have n1_ := Aside0.mk (hbox); have n2_ := Aside0.mk ((by rw [hg]; exact (below_size (bl0 HB.out)) : w.heap.size ≤ gb703)); have n3_ := n2_; clear HB; have HB := n0_; have BK703 := n1_; have GW703 := n2_; have GE703 := n3_; clear n0_ n1_ n2_ n3_; clear hb hbox hg) | ((with_reducible refine gate_callee (f := 44) rfl ?_); refine goesL_ (some 22) rfl rfl Try.func44 (by kernel_rfl) rfl #[.int .i64 a0, .int .i64 a1, .bool false, .int .i64 0, .int .u64 (IntKind.u64.wrap (a2)), .bool false] rfl gl ?_; (with_reducible refine (annealref1_Pack.calls k a0 a1 false 0 (IntKind.u64.wrap (a2)) false t710 t711 t712 t713 t714 t715 _ A9.out).mono ?_); rintro e w11 ⟨rfl, hb⟩; refine ⟨_, rfl, ?_⟩; have n0_ := Aside0.mk (blk_below (g := gb703) (o := .cells #[.bool false, .bool false, .bool false, .bool false, .bool false] 27 (0, 0)) (bv BK703.out) hb); have n1_ := Aside0.mk (below_step (bl1 HB.out GE703.out) hb); clear BK703; clear HB; have BK703 := n0_; have HB := n1_; clear n0_ n1_; obtain ⟨hcz12_0, hcz12_1, hcz12_2, hcz12_3, hcz12_4⟩ := bc5 BK703.out; obtain ⟨hfz12_0, hfz12_1, hfz12_2, hfz12_3, hfz12_4⟩ := bf5 BK703.out))
  refine bodyPost_ret (results_tc rfl _ _ gb703 27 #[.bool t711, .bool t712, .bool t713, .bool t714, .bool t715] (0, 0) _ rfl (by (with_reducible repeat first | apply bd | apply be | apply ba); refine blk_put (cs := #[.bool t711, .bool t712, .bool t713, .bool t714, .bool false]) ?_ 4 _ rfl; (with_reducible repeat first | apply bd | apply be | apply ba); refine blk_put (cs := #[.bool t711, .bool t712, .bool t713, .bool false, .bool false]) ?_ 3 _ rfl; (with_reducible repeat first | apply bd | apply be | apply ba); refine blk_put (cs := #[.bool t711, .bool t712, .bool false, .bool false, .bool false]) ?_ 2 _ rfl; (with_reducible repeat first | apply bd | apply be | apply ba); refine blk_put (cs := #[.bool t711, .bool false, .bool false, .bool false, .bool false]) ?_ 1 _ rfl; (with_reducible repeat first | apply bd | apply be | apply ba); refine blk_put (cs := F5) ?_ 0 _ rfl; (with_reducible repeat first | apply bd | apply be | apply ba); exact BK703.out) Try.underlying27 rfl (by kernel_rfl)) rfl ?_
  exact ⟨by first | rfl | (simp [errW_none, errW_some] <;> rfl) | (simp [*, errW_none, errW_some] <;> rfl), bl1 HB.out GE703.out⟩

end Go.Proofs.Ytlkjoibpfhjhcaa.P
