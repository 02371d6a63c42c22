import Derived.Test.YtngkpekmgahjiaaQfeM2
import Derived.Test.YtngkpekmgahjiaaQfePx17
-- Printed by a program of this session's out of Lean's print of the translation; Lean checks it.
namespace Go.Proofs.Ytngkpekmgahjiaa.P
open Go.RowKit Go.Proofs.YtngkpekmgahjiaaW.PrintWords Go.Proofs.YtngkpekmgahjiaaW.PrintLast Go.Proofs.YtngkpekmgahjiaaW.PrintMore
attribute [local go_sem] max2_int min2_int max_two min_two max_three min_three max_four min_four   -- for this text's walks alone
set_option linter.unusedVariables false
set_option linter.unusedSimpArgs false

/-! ### annealref10_Uniform: function 23 -/
def annealref10_Uniform.f (k : Nat) (a0 : Int) : Option (Int) := (annealref1_Pack.f k 2 0 false (-24) (IntKind.u64.wrap (a0 / 256)) false).bind fun bt250 => (some bt250.1)
set_option maxHeartbeats 8000000 in
set_option maxRecDepth 100000 in
theorem annealref10_Uniform.calls (k : Nat) (a0 : Int) (r : Int) (w : World) (h : annealref10_Uniform.f k a0 = some r) :
    Calls Try.prog 23 #[.int .u32 a0] w fun e w' => e = .returned (.int .u32 r) ∧ Below w.heap.size w w' := by
  have hu41 := Try.underlying41
  have HB := Aside0.mk (Below.refl w.heap.size w)
  have H : ((annealref1_Pack.f k 2 0 false (-24) (IntKind.u64.wrap (a0 / 256)) false).bind fun bt250 => (some bt250.1)) = some r := h
  clear h
  replace H := Option.bind_eq_some_iff.mp H
  obtain ⟨⟨t250, t251, t252, t253, t254, t255⟩, A20, H⟩ := H
  replace H : (some t250) = some r := H
  have A2 := Aside0.mk A20
  clear A20
  obtain rfl := Option.some.inj H
  go_enter Try.func23, Try.ntmps23
  go_wp2_with (first | ((with_reducible refine gate_callee (f := 52) rfl ?_); refine goesL_ (some 9) rfl rfl Try.func52 (by kernel_rfl) rfl #[.int .i64 2, .int .i64 0, .bool false, .int .i64 (-24), .int .u64 (IntKind.u64.wrap (a0 / 256)), .bool false] rfl (by (try simp only [List.map_toArray, List.map_cons, List.map_nil]); first | done | rfl | (simp only [List.length_drop, List.length_take]; rfl)) ?_; (with_reducible refine (annealref1_Pack.calls k 2 0 false (-24) (IntKind.u64.wrap (a0 / 256)) false t250 t251 t252 t253 t254 t255 _ A2.out).mono ?_); rintro e w3 ⟨rfl, hb⟩; refine ⟨_, rfl, ?_⟩; have n0_ := Aside0.mk (below_step (by repeat (first | (with_reducible first | exact HB.out | apply below_alloc | apply pw_below_drewN | apply below_drew1) | exact HB.out)) hb); clear HB; have HB := n0_; clear n0_; (try clear hb); (try clear hb2); (try clear hk); (try clear hi)) | ((with_reducible refine gate_dst (N := 4) rfl ?_); refine box_event ?hg (N := 4) ?hd (cs := #[.bool false, .bool false, .bool false, .bool false, .bool false]) (t := 41) ?hr ?_; (case hd => rfl); (case hg => rfl); (case hr => first | (go_simp; done) | (go_simp; rfl)); intro gb256 hg w4 hbox hb; have n0_ := Aside0.mk (below_step (by repeat (first | (with_reducible first | exact HB.out | apply below_alloc | apply pw_below_drewN | apply below_drew1) | exact HB.out)) hb); have n1_ := Aside0.mk (hbox); have n2_ := Aside0.mk ((by rw [hg]; exact (below_size (by repeat (first | (with_reducible first | exact HB.out | apply below_alloc | apply pw_below_drewN | apply below_drew1) | exact HB.out))) : w.heap.size ≤ gb256)); have n3_ := Aside0.mk ((by rw [hg]; exact (below_size (by repeat (first | (with_reducible first | exact HB.out | apply below_alloc | apply pw_below_drewN | apply below_drew1) | exact HB.out))) : w.heap.size ≤ gb256)); clear HB; have HB := n0_; have BK256 := n1_; have GW256 := n2_; have GE256 := n3_; clear n0_ n1_ n2_ n3_; clear hb hbox hg; have hcz5_0 : w4.cell? ⟨gb256, 0, none⟩ = some (.bool false) := (blk_cell BK256.out 0).trans rfl; have hcz5_1 : w4.cell? ⟨gb256, 1, none⟩ = some (.bool false) := (blk_cell BK256.out 1).trans rfl; have hcz5_2 : w4.cell? ⟨gb256, 2, none⟩ = some (.bool false) := (blk_cell BK256.out 2).trans rfl; have hcz5_3 : w4.cell? ⟨gb256, 3, none⟩ = some (.bool false) := (blk_cell BK256.out 3).trans rfl; have hcz5_4 : w4.cell? ⟨gb256, 4, none⟩ = some (.bool false) := (blk_cell BK256.out 4).trans rfl; have hfz5_0 := blk_frozen BK256.out 0; have hfz5_1 := blk_frozen BK256.out 1; have hfz5_2 := blk_frozen BK256.out 2; have hfz5_3 := blk_frozen BK256.out 3; have hfz5_4 := blk_frozen BK256.out 4))
  go_ret
  exact ⟨by first | rfl | (simp [errW_none, errW_some] <;> rfl) | (simp [*, errW_none, errW_some] <;> rfl), by repeat (first | (with_reducible first | exact HB.out | apply below_alloc | apply pw_below_drewN | apply below_drew1 | refine below_set ?_ GE256.out) | exact HB.out)⟩

end Go.Proofs.Ytngkpekmgahjiaa.P
