-- Printed by a program of this session's out of Lean's print of the translation; Lean checks it.
import Derived.Test.YtngkpekmgahjiaaPx0
import Derived.Test.YtngkpekmgahjiaaPx3
import Derived.Test.YtngkpekmgahjiaaPx12
namespace Go.Proofs.Ytngkpekmgahjiaa.P
open Go.RowKit Go.Proofs.YtngkpekmgahjiaaW.PrintWords Go.Proofs.YtngkpekmgahjiaaW.PrintLast Go.Proofs.YtngkpekmgahjiaaW.PrintMore
attribute [local go_sem] max2_int min2_int max_two min_two max_three min_three max_four min_four   -- for this text's walks alone
set_option linter.unusedVariables false
set_option linter.unusedSimpArgs false

/-! ### annealref10_Word: function 18 -/
def annealref10_Word.f (k : Nat) (a0 : Int) (a1 : Int) (a2 : Int) : Option (Int) := (annealref10_Block.f k ((a0) % 4294967296) ((a0 / 4294967296) % 4294967296) ((IntKind.u64.wrap (Int.tdiv a2 4)) % 4294967296) (((IntKind.u64.wrap (Int.tdiv a2 4)) / 4294967296) % 4294967296) a1 0).bind fun bt202 => (if (Int.tmod a2 4) = 0 then (some bt202.1) else (if (Int.tmod a2 4) = 1 then (some bt202.2.1) else (if (Int.tmod a2 4) = 2 then (some bt202.2.2.1) else (if (Int.tmod a2 4) = 3 then (some bt202.2.2.2) else (none)))))
theorem annealref10_Word.mono : ∀ a0 a1 a2 k, LeO (annealref10_Word.f k a0 a1 a2) (annealref10_Word.f (k + 1) a0 a1 a2) := by
  intro a0 a1 a2 k
  unfold annealref10_Word.f
  repeat' first
      | (with_reducible exact annealref10_Block.mono _ _ _ _ _ _ _)
      | (with_reducible exact LeO.refl _)
      | (with_reducible exact LeO.none _)
      | (with_reducible refine LeO.ite ?_ ?_)
      | (with_reducible refine LeO.bind ?_ (fun _ => ?_))
      | exact annealref10_Block.mono _ _ _ _ _ _ _
      | exact LeO.none _
      | refine LeO.ite ?_ ?_
      | refine LeO.bind ?_ (fun _ => ?_)
set_option maxHeartbeats 8000000 in
set_option maxRecDepth 100000 in
theorem annealref10_Word.calls (k : Nat) (a0 : Int) (a1 : Int) (a2 : Int) (r : Int) (w : World) (h : annealref10_Word.f k a0 a1 a2 = some r) :
    Calls Try.prog 18 #[.int .u64 a0, .int .u32 a1, .int .u64 a2] w fun e w' => e = .returned (.int .u32 r) ∧ Below w.heap.size w w' := by
  have hu23 := Try.underlying23
  have hu24 := Try.underlying24
  have HB := Aside0.mk (Below.refl w.heap.size w)
  have H : ((annealref10_Block.f k ((a0) % 4294967296) ((a0 / 4294967296) % 4294967296) ((IntKind.u64.wrap (Int.tdiv a2 4)) % 4294967296) (((IntKind.u64.wrap (Int.tdiv a2 4)) / 4294967296) % 4294967296) a1 0).bind fun bt202 => (if (Int.tmod a2 4) = 0 then (some bt202.1) else (if (Int.tmod a2 4) = 1 then (some bt202.2.1) else (if (Int.tmod a2 4) = 2 then (some bt202.2.2.1) else (if (Int.tmod a2 4) = 3 then (some bt202.2.2.2) else (none)))))) = some r := h
  clear h
  replace H := Option.bind_eq_some_iff.mp H
  obtain ⟨⟨t202, t203, t204, t205⟩, A40, H⟩ := H
  replace H : (if (Int.tmod a2 4) = 0 then (some t202) else (if (Int.tmod a2 4) = 1 then (some t203) else (if (Int.tmod a2 4) = 2 then (some t204) else (if (Int.tmod a2 4) = 3 then (some t205) else (none))))) = some r := H
  have A4 := Aside0.mk A40
  clear A40
  by_cases c5 : (Int.tmod a2 4) = 0
  · rw [if_pos c5] at H
    have c5ix0 : (0 ≤ (Int.tmod a2 4)) = True := eq_true (by rw [c5]; decide)
    have c5ix1 : ((Int.tmod a2 4) < 4) = True := eq_true (by rw [c5]; decide)
    have c5ix2 : ((Int.tmod a2 4)).toNat = 0 := by rw [c5]; rfl
    have c5b0 : ((Int.tmod a2 4) == 0) = true := beq_iff_eq.mpr c5
    have c5b1 : ((Int.tmod a2 4) != 0) = false := bne_eq_false_iff_eq.mpr c5
    clear c5
    obtain rfl := Option.some.inj H
    go_enter Try.func18, Try.ntmps18
    go_wp2_with (first | ((with_reducible refine gate_callee (f := 21) rfl ?_); refine goesL_ (some 24) rfl rfl Try.func21 (by kernel_rfl) rfl #[.agg #[.int .u32 ((a0) % 4294967296), .int .u32 ((a0 / 4294967296) % 4294967296)], .agg #[.int .u32 ((IntKind.u64.wrap (Int.tdiv a2 4)) % 4294967296), .int .u32 (((IntKind.u64.wrap (Int.tdiv a2 4)) / 4294967296) % 4294967296), .int .u32 a1, .int .u32 0]] rfl (by (try simp only [List.map_toArray, List.map_cons, List.map_nil]); first | done | rfl | (simp only [List.length_drop, List.length_take]; rfl)) ?_; (with_reducible refine (annealref10_Block.calls k ((a0) % 4294967296) ((a0 / 4294967296) % 4294967296) ((IntKind.u64.wrap (Int.tdiv a2 4)) % 4294967296) (((IntKind.u64.wrap (Int.tdiv a2 4)) / 4294967296) % 4294967296) a1 0 t202 t203 t204 t205 _ A4.out).mono ?_); rintro e w6 ⟨rfl, hb⟩; refine ⟨_, rfl, ?_⟩; have n0_ := Aside0.mk (below_step (by repeat (first | (with_reducible first | exact HB.out | apply below_alloc | apply pw_below_drewN | apply below_drew1) | exact HB.out)) hb); clear HB; have HB := n0_; clear n0_; (try clear hb); (try clear hb2); (try clear hk); (try clear hi)) | ((with_reducible refine gate_dst (N := 8) rfl ?_); refine box_event ?hg (N := 8) ?hd (cs := #[.int .u32 0, .int .u32 0, .int .u32 0, .int .u32 0]) (t := 24) ?hr ?_; (case hd => rfl); (case hg => rfl); (case hr => first | (go_simp; done) | (go_simp; rfl)); intro gb206 hg w7 hbox hb; have n0_ := Aside0.mk (below_step (by repeat (first | (with_reducible first | exact HB.out | apply below_alloc | apply pw_below_drewN | apply below_drew1) | exact HB.out)) hb); have n1_ := Aside0.mk (hbox); have n2_ := Aside0.mk ((by rw [hg]; exact (below_size (by repeat (first | (with_reducible first | exact HB.out | apply below_alloc | apply pw_below_drewN | apply below_drew1) | exact HB.out))) : w.heap.size ≤ gb206)); have n3_ := Aside0.mk ((by rw [hg]; exact (below_size (by repeat (first | (with_reducible first | exact HB.out | apply below_alloc | apply pw_below_drewN | apply below_drew1) | exact HB.out))) : w.heap.size ≤ gb206)); clear HB; have HB := n0_; have BK206 := n1_; have GW206 := n2_; have GE206 := n3_; clear n0_ n1_ n2_ n3_; clear hb hbox hg; have hcz8_0 : w7.cell? ⟨gb206, 0, none⟩ = some (.int .u32 0) := (blk_cell BK206.out 0).trans rfl; have hcz8_1 : w7.cell? ⟨gb206, 1, none⟩ = some (.int .u32 0) := (blk_cell BK206.out 1).trans rfl; have hcz8_2 : w7.cell? ⟨gb206, 2, none⟩ = some (.int .u32 0) := (blk_cell BK206.out 2).trans rfl; have hcz8_3 : w7.cell? ⟨gb206, 3, none⟩ = some (.int .u32 0) := (blk_cell BK206.out 3).trans rfl; have hfz8_0 := blk_frozen BK206.out 0; have hfz8_1 := blk_frozen BK206.out 1; have hfz8_2 := blk_frozen BK206.out 2; have hfz8_3 := blk_frozen BK206.out 3))
    go_ret
    exact ⟨by first | rfl | (simp [errW_none, errW_some] <;> rfl) | (simp [*, errW_none, errW_some] <;> rfl), by repeat (first | (with_reducible first | exact HB.out | apply below_alloc | apply pw_below_drewN | apply below_drew1 | refine below_set ?_ GE206.out) | exact HB.out)⟩
  · rw [if_neg c5] at H
    have c5b0 : ((Int.tmod a2 4) == 0) = false := beq_eq_false_iff_ne.mpr c5
    have c5b1 : ((Int.tmod a2 4) != 0) = true := bne_iff_ne.mpr c5
    by_cases c9 : (Int.tmod a2 4) = 1
    · rw [if_pos c9] at H
      have c9ix0 : (0 ≤ (Int.tmod a2 4)) = True := eq_true (by rw [c9]; decide)
      have c9ix1 : ((Int.tmod a2 4) < 4) = True := eq_true (by rw [c9]; decide)
      have c9ix2 : ((Int.tmod a2 4)).toNat = 1 := by rw [c9]; rfl
      have c9b0 : ((Int.tmod a2 4) == 1) = true := beq_iff_eq.mpr c9
      have c9b1 : ((Int.tmod a2 4) != 1) = false := bne_eq_false_iff_eq.mpr c9
      clear c9
      obtain rfl := Option.some.inj H
      go_enter Try.func18, Try.ntmps18
      go_wp2_with (first | ((with_reducible refine gate_callee (f := 21) rfl ?_); refine goesL_ (some 24) rfl rfl Try.func21 (by kernel_rfl) rfl #[.agg #[.int .u32 ((a0) % 4294967296), .int .u32 ((a0 / 4294967296) % 4294967296)], .agg #[.int .u32 ((IntKind.u64.wrap (Int.tdiv a2 4)) % 4294967296), .int .u32 (((IntKind.u64.wrap (Int.tdiv a2 4)) / 4294967296) % 4294967296), .int .u32 a1, .int .u32 0]] rfl (by (try simp only [List.map_toArray, List.map_cons, List.map_nil]); first | done | rfl | (simp only [List.length_drop, List.length_take]; rfl)) ?_; (with_reducible refine (annealref10_Block.calls k ((a0) % 4294967296) ((a0 / 4294967296) % 4294967296) ((IntKind.u64.wrap (Int.tdiv a2 4)) % 4294967296) (((IntKind.u64.wrap (Int.tdiv a2 4)) / 4294967296) % 4294967296) a1 0 t202 t203 t204 t205 _ A4.out).mono ?_); rintro e w10 ⟨rfl, hb⟩; refine ⟨_, rfl, ?_⟩; have n0_ := Aside0.mk (below_step (by repeat (first | (with_reducible first | exact HB.out | apply below_alloc | apply pw_below_drewN | apply below_drew1) | exact HB.out)) hb); clear HB; have HB := n0_; clear n0_; (try clear hb); (try clear hb2); (try clear hk); (try clear hi)) | ((with_reducible refine gate_dst (N := 8) rfl ?_); refine box_event ?hg (N := 8) ?hd (cs := #[.int .u32 0, .int .u32 0, .int .u32 0, .int .u32 0]) (t := 24) ?hr ?_; (case hd => rfl); (case hg => rfl); (case hr => first | (go_simp; done) | (go_simp; rfl)); intro gb206 hg w11 hbox hb; have n0_ := Aside0.mk (below_step (by repeat (first | (with_reducible first | exact HB.out | apply below_alloc | apply pw_below_drewN | apply below_drew1) | exact HB.out)) hb); have n1_ := Aside0.mk (hbox); have n2_ := Aside0.mk ((by rw [hg]; exact (below_size (by repeat (first | (with_reducible first | exact HB.out | apply below_alloc | apply pw_below_drewN | apply below_drew1) | exact HB.out))) : w.heap.size ≤ gb206)); have n3_ := Aside0.mk ((by rw [hg]; exact (below_size (by repeat (first | (with_reducible first | exact HB.out | apply below_alloc | apply pw_below_drewN | apply below_drew1) | exact HB.out))) : w.heap.size ≤ gb206)); clear HB; have HB := n0_; have BK206 := n1_; have GW206 := n2_; have GE206 := n3_; clear n0_ n1_ n2_ n3_; clear hb hbox hg; have hcz12_0 : w11.cell? ⟨gb206, 0, none⟩ = some (.int .u32 0) := (blk_cell BK206.out 0).trans rfl; have hcz12_1 : w11.cell? ⟨gb206, 1, none⟩ = some (.int .u32 0) := (blk_cell BK206.out 1).trans rfl; have hcz12_2 : w11.cell? ⟨gb206, 2, none⟩ = some (.int .u32 0) := (blk_cell BK206.out 2).trans rfl; have hcz12_3 : w11.cell? ⟨gb206, 3, none⟩ = some (.int .u32 0) := (blk_cell BK206.out 3).trans rfl; have hfz12_0 := blk_frozen BK206.out 0; have hfz12_1 := blk_frozen BK206.out 1; have hfz12_2 := blk_frozen BK206.out 2; have hfz12_3 := blk_frozen BK206.out 3))
      go_ret
      exact ⟨by first | rfl | (simp [errW_none, errW_some] <;> rfl) | (simp [*, errW_none, errW_some] <;> rfl), by repeat (first | (with_reducible first | exact HB.out | apply below_alloc | apply pw_below_drewN | apply below_drew1 | refine below_set ?_ GE206.out) | exact HB.out)⟩
    · rw [if_neg c9] at H
      have c9b0 : ((Int.tmod a2 4) == 1) = false := beq_eq_false_iff_ne.mpr c9
      have c9b1 : ((Int.tmod a2 4) != 1) = true := bne_iff_ne.mpr c9
      by_cases c13 : (Int.tmod a2 4) = 2
      · rw [if_pos c13] at H
        have c13ix0 : (0 ≤ (Int.tmod a2 4)) = True := eq_true (by rw [c13]; decide)
        have c13ix1 : ((Int.tmod a2 4) < 4) = True := eq_true (by rw [c13]; decide)
        have c13ix2 : ((Int.tmod a2 4)).toNat = 2 := by rw [c13]; rfl
        have c13b0 : ((Int.tmod a2 4) == 2) = true := beq_iff_eq.mpr c13
        have c13b1 : ((Int.tmod a2 4) != 2) = false := bne_eq_false_iff_eq.mpr c13
        clear c13
        obtain rfl := Option.some.inj H
        go_enter Try.func18, Try.ntmps18
        go_wp2_with (first | ((with_reducible refine gate_callee (f := 21) rfl ?_); refine goesL_ (some 24) rfl rfl Try.func21 (by kernel_rfl) rfl #[.agg #[.int .u32 ((a0) % 4294967296), .int .u32 ((a0 / 4294967296) % 4294967296)], .agg #[.int .u32 ((IntKind.u64.wrap (Int.tdiv a2 4)) % 4294967296), .int .u32 (((IntKind.u64.wrap (Int.tdiv a2 4)) / 4294967296) % 4294967296), .int .u32 a1, .int .u32 0]] rfl (by (try simp only [List.map_toArray, List.map_cons, List.map_nil]); first | done | rfl | (simp only [List.length_drop, List.length_take]; rfl)) ?_; (with_reducible refine (annealref10_Block.calls k ((a0) % 4294967296) ((a0 / 4294967296) % 4294967296) ((IntKind.u64.wrap (Int.tdiv a2 4)) % 4294967296) (((IntKind.u64.wrap (Int.tdiv a2 4)) / 4294967296) % 4294967296) a1 0 t202 t203 t204 t205 _ A4.out).mono ?_); rintro e w14 ⟨rfl, hb⟩; refine ⟨_, rfl, ?_⟩; have n0_ := Aside0.mk (below_step (by repeat (first | (with_reducible first | exact HB.out | apply below_alloc | apply pw_below_drewN | apply below_drew1) | exact HB.out)) hb); clear HB; have HB := n0_; clear n0_; (try clear hb); (try clear hb2); (try clear hk); (try clear hi)) | ((with_reducible refine gate_dst (N := 8) rfl ?_); refine box_event ?hg (N := 8) ?hd (cs := #[.int .u32 0, .int .u32 0, .int .u32 0, .int .u32 0]) (t := 24) ?hr ?_; (case hd => rfl); (case hg => rfl); (case hr => first | (go_simp; done) | (go_simp; rfl)); intro gb206 hg w15 hbox hb; have n0_ := Aside0.mk (below_step (by repeat (first | (with_reducible first | exact HB.out | apply below_alloc | apply pw_below_drewN | apply below_drew1) | exact HB.out)) hb); have n1_ := Aside0.mk (hbox); have n2_ := Aside0.mk ((by rw [hg]; exact (below_size (by repeat (first | (with_reducible first | exact HB.out | apply below_alloc | apply pw_below_drewN | apply below_drew1) | exact HB.out))) : w.heap.size ≤ gb206)); have n3_ := Aside0.mk ((by rw [hg]; exact (below_size (by repeat (first | (with_reducible first | exact HB.out | apply below_alloc | apply pw_below_drewN | apply below_drew1) | exact HB.out))) : w.heap.size ≤ gb206)); clear HB; have HB := n0_; have BK206 := n1_; have GW206 := n2_; have GE206 := n3_; clear n0_ n1_ n2_ n3_; clear hb hbox hg; have hcz16_0 : w15.cell? ⟨gb206, 0, none⟩ = some (.int .u32 0) := (blk_cell BK206.out 0).trans rfl; have hcz16_1 : w15.cell? ⟨gb206, 1, none⟩ = some (.int .u32 0) := (blk_cell BK206.out 1).trans rfl; have hcz16_2 : w15.cell? ⟨gb206, 2, none⟩ = some (.int .u32 0) := (blk_cell BK206.out 2).trans rfl; have hcz16_3 : w15.cell? ⟨gb206, 3, none⟩ = some (.int .u32 0) := (blk_cell BK206.out 3).trans rfl; have hfz16_0 := blk_frozen BK206.out 0; have hfz16_1 := blk_frozen BK206.out 1; have hfz16_2 := blk_frozen BK206.out 2; have hfz16_3 := blk_frozen BK206.out 3))
        go_ret
        exact ⟨by first | rfl | (simp [errW_none, errW_some] <;> rfl) | (simp [*, errW_none, errW_some] <;> rfl), by repeat (first | (with_reducible first | exact HB.out | apply below_alloc | apply pw_below_drewN | apply below_drew1 | refine below_set ?_ GE206.out) | exact HB.out)⟩
      · rw [if_neg c13] at H
        have c13b0 : ((Int.tmod a2 4) == 2) = false := beq_eq_false_iff_ne.mpr c13
        have c13b1 : ((Int.tmod a2 4) != 2) = true := bne_iff_ne.mpr c13
        by_cases c17 : (Int.tmod a2 4) = 3
        · rw [if_pos c17] at H
          have c17ix0 : (0 ≤ (Int.tmod a2 4)) = True := eq_true (by rw [c17]; decide)
          have c17ix1 : ((Int.tmod a2 4) < 4) = True := eq_true (by rw [c17]; decide)
          have c17ix2 : ((Int.tmod a2 4)).toNat = 3 := by rw [c17]; rfl
          have c17b0 : ((Int.tmod a2 4) == 3) = true := beq_iff_eq.mpr c17
          have c17b1 : ((Int.tmod a2 4) != 3) = false := bne_eq_false_iff_eq.mpr c17
          clear c17
          obtain rfl := Option.some.inj H
          go_enter Try.func18, Try.ntmps18
          go_wp2_with (first | ((with_reducible refine gate_callee (f := 21) rfl ?_); refine goesL_ (some 24) rfl rfl Try.func21 (by kernel_rfl) rfl #[.agg #[.int .u32 ((a0) % 4294967296), .int .u32 ((a0 / 4294967296) % 4294967296)], .agg #[.int .u32 ((IntKind.u64.wrap (Int.tdiv a2 4)) % 4294967296), .int .u32 (((IntKind.u64.wrap (Int.tdiv a2 4)) / 4294967296) % 4294967296), .int .u32 a1, .int .u32 0]] rfl (by (try simp only [List.map_toArray, List.map_cons, List.map_nil]); first | done | rfl | (simp only [List.length_drop, List.length_take]; rfl)) ?_; (with_reducible refine (annealref10_Block.calls k ((a0) % 4294967296) ((a0 / 4294967296) % 4294967296) ((IntKind.u64.wrap (Int.tdiv a2 4)) % 4294967296) (((IntKind.u64.wrap (Int.tdiv a2 4)) / 4294967296) % 4294967296) a1 0 t202 t203 t204 t205 _ A4.out).mono ?_); rintro e w18 ⟨rfl, hb⟩; refine ⟨_, rfl, ?_⟩; have n0_ := Aside0.mk (below_step (by repeat (first | (with_reducible first | exact HB.out | apply below_alloc | apply pw_below_drewN | apply below_drew1) | exact HB.out)) hb); clear HB; have HB := n0_; clear n0_; (try clear hb); (try clear hb2); (try clear hk); (try clear hi)) | ((with_reducible refine gate_dst (N := 8) rfl ?_); refine box_event ?hg (N := 8) ?hd (cs := #[.int .u32 0, .int .u32 0, .int .u32 0, .int .u32 0]) (t := 24) ?hr ?_; (case hd => rfl); (case hg => rfl); (case hr => first | (go_simp; done) | (go_simp; rfl)); intro gb206 hg w19 hbox hb; have n0_ := Aside0.mk (below_step (by repeat (first | (with_reducible first | exact HB.out | apply below_alloc | apply pw_below_drewN | apply below_drew1) | exact HB.out)) hb); have n1_ := Aside0.mk (hbox); have n2_ := Aside0.mk ((by rw [hg]; exact (below_size (by repeat (first | (with_reducible first | exact HB.out | apply below_alloc | apply pw_below_drewN | apply below_drew1) | exact HB.out))) : w.heap.size ≤ gb206)); have n3_ := Aside0.mk ((by rw [hg]; exact (below_size (by repeat (first | (with_reducible first | exact HB.out | apply below_alloc | apply pw_below_drewN | apply below_drew1) | exact HB.out))) : w.heap.size ≤ gb206)); clear HB; have HB := n0_; have BK206 := n1_; have GW206 := n2_; have GE206 := n3_; clear n0_ n1_ n2_ n3_; clear hb hbox hg; have hcz20_0 : w19.cell? ⟨gb206, 0, none⟩ = some (.int .u32 0) := (blk_cell BK206.out 0).trans rfl; have hcz20_1 : w19.cell? ⟨gb206, 1, none⟩ = some (.int .u32 0) := (blk_cell BK206.out 1).trans rfl; have hcz20_2 : w19.cell? ⟨gb206, 2, none⟩ = some (.int .u32 0) := (blk_cell BK206.out 2).trans rfl; have hcz20_3 : w19.cell? ⟨gb206, 3, none⟩ = some (.int .u32 0) := (blk_cell BK206.out 3).trans rfl; have hfz20_0 := blk_frozen BK206.out 0; have hfz20_1 := blk_frozen BK206.out 1; have hfz20_2 := blk_frozen BK206.out 2; have hfz20_3 := blk_frozen BK206.out 3))
          go_ret
          exact ⟨by first | rfl | (simp [errW_none, errW_some] <;> rfl) | (simp [*, errW_none, errW_some] <;> rfl), by repeat (first | (with_reducible first | exact HB.out | apply below_alloc | apply pw_below_drewN | apply below_drew1 | refine below_set ?_ GE206.out) | exact HB.out)⟩
        · rw [if_neg c17] at H
          exact absurd H (by simp)

/-! ### philox_Below: function 19 -/
def philox_Below.f (k : Nat) (a0 : Int) (a1 : Int) (a2 : Int) (a3 : Int) : Option (Int) := (philox_Word.f k a0 a1 a2).bind fun t207 => (some (((IntKind.u64.wrap ((IntKind.u64.wrap (t207)) * (IntKind.u64.wrap (a3)))) / 4294967296) % 4294967296))
theorem philox_Below.mono : ∀ a0 a1 a2 a3 k, LeO (philox_Below.f k a0 a1 a2 a3) (philox_Below.f (k + 1) a0 a1 a2 a3) := by
  intro a0 a1 a2 a3 k
  unfold philox_Below.f
  repeat' first
      | (with_reducible exact philox_Word.mono _ _ _ _)
      | (with_reducible exact LeO.refl _)
      | (with_reducible exact LeO.none _)
      | (with_reducible refine LeO.ite ?_ ?_)
      | (with_reducible refine LeO.bind ?_ (fun _ => ?_))
      | exact philox_Word.mono _ _ _ _
      | exact LeO.none _
      | refine LeO.ite ?_ ?_
      | refine LeO.bind ?_ (fun _ => ?_)
set_option maxHeartbeats 8000000 in
set_option maxRecDepth 100000 in
theorem philox_Below.calls (k : Nat) (a0 : Int) (a1 : Int) (a2 : Int) (a3 : Int) (r : Int) (w : World) (h : philox_Below.f k a0 a1 a2 a3 = some r) :
    Calls Try.prog 19 #[.int .u64 a0, .int .u32 a1, .int .u64 a2, .int .u32 a3] w fun e w' => e = .returned (.int .u32 r) ∧ Below w.heap.size w w' := by
  have HB := Aside0.mk (Below.refl w.heap.size w)
  have H : ((philox_Word.f k a0 a1 a2).bind fun t207 => (some (((IntKind.u64.wrap ((IntKind.u64.wrap (t207)) * (IntKind.u64.wrap (a3)))) / 4294967296) % 4294967296))) = some r := h
  clear h
  replace H := Option.bind_eq_some_iff.mp H
  obtain ⟨t207, A50, H⟩ := H
  replace H : (some (((IntKind.u64.wrap ((IntKind.u64.wrap (t207)) * (IntKind.u64.wrap (a3)))) / 4294967296) % 4294967296)) = some r := H
  have A5 := Aside0.mk A50
  clear A50
  obtain rfl := Option.some.inj H
  go_enter Try.func19, Try.ntmps19
  go_wp2_with (first | ((with_reducible refine gate_callee (f := 17) rfl ?_); refine goesL_ (some 12) rfl rfl Try.func17 (by kernel_rfl) rfl #[.int .u64 a0, .int .u32 a1, .int .u64 a2] rfl (by (try simp only [List.map_toArray, List.map_cons, List.map_nil]); first | done | rfl | (simp only [List.length_drop, List.length_take]; rfl)) ?_; (with_reducible refine (philox_Word.calls k a0 a1 a2 t207 _ A5.out).mono ?_); rintro e w6 ⟨rfl, hb⟩; refine ⟨_, rfl, ?_⟩; have n0_ := Aside0.mk (below_step (by repeat (first | (with_reducible first | exact HB.out | apply below_alloc | apply pw_below_drewN | apply below_drew1) | exact HB.out)) hb); clear HB; have HB := n0_; clear n0_; (try clear hb); (try clear hb2); (try clear hk); (try clear hi)))
  go_ret
  exact ⟨by first | rfl | (simp [errW_none, errW_some] <;> rfl) | (simp [*, errW_none, errW_some] <;> rfl), by repeat (first | (with_reducible first | exact HB.out | apply below_alloc | apply pw_below_drewN | apply below_drew1) | exact HB.out)⟩

/-! ### annealref10_Below: function 20 -/
def annealref10_Below.f (k : Nat) (a0 : Int) (a1 : Int) (a2 : Int) (a3 : Int) : Option (Int) := (annealref10_Word.f k a0 a1 a2).bind fun t208 => (some (((IntKind.u64.wrap ((IntKind.u64.wrap (t208)) * (IntKind.u64.wrap (a3)))) / 4294967296) % 4294967296))
theorem annealref10_Below.mono : ∀ a0 a1 a2 a3 k, LeO (annealref10_Below.f k a0 a1 a2 a3) (annealref10_Below.f (k + 1) a0 a1 a2 a3) := by
  intro a0 a1 a2 a3 k
  unfold annealref10_Below.f
  repeat' first
      | (with_reducible exact annealref10_Word.mono _ _ _ _)
      | (with_reducible exact LeO.refl _)
      | (with_reducible exact LeO.none _)
      | (with_reducible refine LeO.ite ?_ ?_)
      | (with_reducible refine LeO.bind ?_ (fun _ => ?_))
      | exact annealref10_Word.mono _ _ _ _
      | exact LeO.none _
      | refine LeO.ite ?_ ?_
      | refine LeO.bind ?_ (fun _ => ?_)
set_option maxHeartbeats 8000000 in
set_option maxRecDepth 100000 in
theorem annealref10_Below.calls (k : Nat) (a0 : Int) (a1 : Int) (a2 : Int) (a3 : Int) (r : Int) (w : World) (h : annealref10_Below.f k a0 a1 a2 a3 = some r) :
    Calls Try.prog 20 #[.int .u64 a0, .int .u32 a1, .int .u64 a2, .int .u32 a3] w fun e w' => e = .returned (.int .u32 r) ∧ Below w.heap.size w w' := by
  have HB := Aside0.mk (Below.refl w.heap.size w)
  have H : ((annealref10_Word.f k a0 a1 a2).bind fun t208 => (some (((IntKind.u64.wrap ((IntKind.u64.wrap (t208)) * (IntKind.u64.wrap (a3)))) / 4294967296) % 4294967296))) = some r := h
  clear h
  replace H := Option.bind_eq_some_iff.mp H
  obtain ⟨t208, A50, H⟩ := H
  replace H : (some (((IntKind.u64.wrap ((IntKind.u64.wrap (t208)) * (IntKind.u64.wrap (a3)))) / 4294967296) % 4294967296)) = some r := H
  have A5 := Aside0.mk A50
  clear A50
  obtain rfl := Option.some.inj H
  go_enter Try.func20, Try.ntmps20
  go_wp2_with (first | ((with_reducible refine gate_callee (f := 18) rfl ?_); refine goesL_ (some 12) rfl rfl Try.func18 (by kernel_rfl) rfl #[.int .u64 a0, .int .u32 a1, .int .u64 a2] rfl (by (try simp only [List.map_toArray, List.map_cons, List.map_nil]); first | done | rfl | (simp only [List.length_drop, List.length_take]; rfl)) ?_; (with_reducible refine (annealref10_Word.calls k a0 a1 a2 t208 _ A5.out).mono ?_); rintro e w6 ⟨rfl, hb⟩; refine ⟨_, rfl, ?_⟩; have n0_ := Aside0.mk (below_step (by repeat (first | (with_reducible first | exact HB.out | apply below_alloc | apply pw_below_drewN | apply below_drew1) | exact HB.out)) hb); clear HB; have HB := n0_; clear n0_; (try clear hb); (try clear hb2); (try clear hk); (try clear hi)))
  go_ret
  exact ⟨by first | rfl | (simp [errW_none, errW_some] <;> rfl) | (simp [*, errW_none, errW_some] <;> rfl), by repeat (first | (with_reducible first | exact HB.out | apply below_alloc | apply pw_below_drewN | apply below_drew1) | exact HB.out)⟩

/-! ### annealref1_Widths: function 49 -/
def annealref1_Widths.f (a0 : Int) : Option (Int × Int) := if a0 = 0 then (some (5, 10)) else (if a0 = 1 then (some (8, 7)) else (some (8, 23)))
set_option maxHeartbeats 8000000 in
set_option maxRecDepth 100000 in
theorem annealref1_Widths.calls (a0 : Int) (r1 : Int) (r2 : Int) (w : World) (h : annealref1_Widths.f a0 = some (r1, r2)) :
    Calls Try.prog 49 #[.int .i64 a0] w fun e w' => e = .returned (.tuple #[.int .i64 r1, .int .i64 r2]) ∧ Drawn0 w w' := by
  have H : (if a0 = 0 then (some (5, 10)) else (if a0 = 1 then (some (8, 7)) else (some (8, 23)))) = some (r1, r2) := h
  clear h
  by_cases c2 : a0 = 0
  · rw [if_pos c2] at H
    have c2b0 : (a0 == 0) = true := beq_iff_eq.mpr c2
    have c2b1 : (a0 != 0) = false := bne_eq_false_iff_eq.mpr c2
    clear c2
    simp only [Option.some.injEq, Prod.mk.injEq] at H
    obtain ⟨rfl, rfl⟩ := H
    go_enter Try.func49, Try.ntmps49
    go_wp2
    go_ret2
    exact ⟨by first | rfl | (simp; done) | (simp [*]; done) | (congr 1; (try unfold wrap64); omega), by repeat (first | exact Drawn0.refl _ | apply Drawn0.step)⟩
  · rw [if_neg c2] at H
    have c2b0 : (a0 == 0) = false := beq_eq_false_iff_ne.mpr c2
    have c2b1 : (a0 != 0) = true := bne_iff_ne.mpr c2
    by_cases c3 : a0 = 1
    · rw [if_pos c3] at H
      have c3b0 : (a0 == 1) = true := beq_iff_eq.mpr c3
      have c3b1 : (a0 != 1) = false := bne_eq_false_iff_eq.mpr c3
      clear c3
      simp only [Option.some.injEq, Prod.mk.injEq] at H
      obtain ⟨rfl, rfl⟩ := H
      go_enter Try.func49, Try.ntmps49
      go_wp2
      go_ret2
      exact ⟨by first | rfl | (simp; done) | (simp [*]; done) | (congr 1; (try unfold wrap64); omega), by repeat (first | exact Drawn0.refl _ | apply Drawn0.step)⟩
    · rw [if_neg c3] at H
      have c3b0 : (a0 == 1) = false := beq_eq_false_iff_ne.mpr c3
      have c3b1 : (a0 != 1) = true := bne_iff_ne.mpr c3
      simp only [Option.some.injEq, Prod.mk.injEq] at H
      obtain ⟨rfl, rfl⟩ := H
      go_enter Try.func49, Try.ntmps49
      go_wp2
      go_ret2
      exact ⟨by first | rfl | (simp; done) | (simp [*]; done) | (congr 1; (try unfold wrap64); omega), by repeat (first | exact Drawn0.refl _ | apply Drawn0.step)⟩

/-! ### annealref1_sign: function 56 -/
def annealref1_sign.f (a0 : Int) (a1 : Bool) : Option (Int) := (annealref1_Widths.f a0).bind fun bt209 => (if a1 = true then (if 0 ≤ (wrap64 (bt209.1 + bt209.2)) then (some (shl .u32 1 (wrap64 (bt209.1 + bt209.2)))) else (none)) else (some 0))
set_option maxHeartbeats 8000000 in
set_option maxRecDepth 100000 in
theorem annealref1_sign.calls (a0 : Int) (a1 : Bool) (r : Int) (w : World) (h : annealref1_sign.f a0 a1 = some r) :
    Calls Try.prog 56 #[.int .i64 a0, .bool a1] w fun e w' => e = .returned (.int .u32 r) ∧ Drawn0 w w' := by
  have H : ((annealref1_Widths.f a0).bind fun bt209 => (if a1 = true then (if 0 ≤ (wrap64 (bt209.1 + bt209.2)) then (some (shl .u32 1 (wrap64 (bt209.1 + bt209.2)))) else (none)) else (some 0))) = some r := h
  clear h
  replace H := Option.bind_eq_some_iff.mp H
  obtain ⟨⟨t209, t210⟩, A30, H⟩ := H
  replace H : (if a1 = true then (if 0 ≤ (wrap64 (t209 + t210)) then (some (shl .u32 1 (wrap64 (t209 + t210)))) else (none)) else (some 0)) = some r := H
  have A3 := Aside0.mk A30
  clear A30
  by_cases c4 : a1 = true
  · subst c4
    have H1 : (if 0 ≤ (wrap64 (t209 + t210)) then (some (shl .u32 1 (wrap64 (t209 + t210)))) else (none)) = some r := by rw [if_pos rfl] at H; exact H
    clear H
    have H := H1
    clear H1
    obtain ⟨ji5, hji5⟩ : ∃ j_ : Int, (wrap64 (t209 + t210)) = j_ := ⟨_, rfl⟩
    replace H : (if 0 ≤ (ji5) then (some (shl .u32 1 (ji5))) else (none)) = some r := by first | (rw [hji5] at H; exact H) | (simp only [hji5] at H ⊢; exact H)
    (try rw [hji5] at A3)
    have hji5w : (IntKind.i64.wrap (t209 + t210)) = ji5 := (i64_w _).trans hji5
    by_cases c6 : 0 ≤ (ji5)
    · rw [if_pos c6] at H
      have c6b0 := eq_true c6
      have c6b1 : decide (0 ≤ (ji5)) = true := decide_eq_true c6
      clear c6
      obtain ⟨ji7, hji7⟩ : ∃ j_ : Int, (shl .u32 1 (ji5)) = j_ := ⟨_, rfl⟩
      replace H : (some ji7) = some r := by first | (rw [hji7] at H; exact H) | (simp only [hji7] at H ⊢; exact H)
      (try rw [hji7] at A3)
      have hji7_ : (IntKind.u32.wrap (1 * 2 ^ min (ji5).toNat 32)) = ji7 := hji7
      have hji7z : (ji5) ≤ 32 → (IntKind.u32.wrap (1 * 2 ^ (ji5).toNat)) = ji7 := shl_small hji7
      have hji7u : (IntKind.u32.wrap (2 ^ min (ji5).toNat 32)) = ji7 := by have h_ := hji7_; rw [Int.one_mul] at h_; exact h_
      have hji7v : (ji5) ≤ 32 → (IntKind.u32.wrap (2 ^ (ji5).toNat)) = ji7 := fun hle_ => by have h_ := hji7z hle_; rw [Int.one_mul] at h_; exact h_
      obtain rfl := Option.some.inj H
      go_enter Try.func56, Try.ntmps56
      go_wp2_with (first | ((with_reducible refine gate_callee (f := 49) rfl ?_); refine goesL_ (some 9) rfl rfl Try.func49 (by kernel_rfl) rfl #[.int .i64 a0] rfl (by (try simp only [List.map_toArray, List.map_cons, List.map_nil]); first | done | rfl | (simp only [List.length_drop, List.length_take]; rfl)) ?_; (with_reducible refine (annealref1_Widths.calls a0 t209 t210 _ A3.out).mono ?_); rintro e w' ⟨rfl, ⟨nd, rfl⟩⟩; refine ⟨_, rfl, ?_⟩))
      go_ret
      exact ⟨by first | rfl | (simp; done) | (simp only [← hji5, ← hji7] <;> (first | rfl | (simp; done))) | (simp [*]; done) | (congr 1; (try unfold wrap64); omega), by repeat (first | exact Drawn0.refl _ | apply Drawn0.step)⟩
    · rw [if_neg c6] at H
      exact absurd H (by simp)
  · replace c4 := Bool.eq_false_iff.mpr c4
    subst c4
    have H1 : (some 0) = some r := by rw [if_neg (show ¬ (false = true) by decide)] at H; exact H
    clear H
    have H := H1
    clear H1
    obtain rfl := Option.some.inj H
    go_enter Try.func56, Try.ntmps56
    go_wp2_with (first | ((with_reducible refine gate_callee (f := 49) rfl ?_); refine goesL_ (some 9) rfl rfl Try.func49 (by kernel_rfl) rfl #[.int .i64 a0] rfl (by (try simp only [List.map_toArray, List.map_cons, List.map_nil]); first | done | rfl | (simp only [List.length_drop, List.length_take]; rfl)) ?_; (with_reducible refine (annealref1_Widths.calls a0 t209 t210 _ A3.out).mono ?_); rintro e w' ⟨rfl, ⟨nd, rfl⟩⟩; refine ⟨_, rfl, ?_⟩))
    go_ret
    exact ⟨by first | rfl | (simp; done) | (simp [*]; done) | (congr 1; (try unfold wrap64); omega), by repeat (first | exact Drawn0.refl _ | apply Drawn0.step)⟩

/-! ### annealref1_Zero: function 29 -/
def annealref1_Zero.f (a0 : Int) (a1 : Bool) : Option (Int) := (annealref1_sign.f a0 a1).bind fun t211 => (some t211)
set_option maxHeartbeats 8000000 in
set_option maxRecDepth 100000 in
theorem annealref1_Zero.calls (a0 : Int) (a1 : Bool) (r : Int) (w : World) (h : annealref1_Zero.f a0 a1 = some r) :
    Calls Try.prog 29 #[.int .i64 a0, .bool a1] w fun e w' => e = .returned (.int .u32 r) ∧ Drawn0 w w' := by
  have H : ((annealref1_sign.f a0 a1).bind fun t211 => (some t211)) = some r := h
  clear h
  replace H := Option.bind_eq_some_iff.mp H
  obtain ⟨t211, A30, H⟩ := H
  replace H : (some t211) = some r := H
  have A3 := Aside0.mk A30
  clear A30
  obtain rfl := Option.some.inj H
  go_enter Try.func29, Try.ntmps29
  go_wp2_with (first | ((with_reducible refine gate_callee (f := 56) rfl ?_); refine goesL_ (some 7) rfl rfl Try.func56 (by kernel_rfl) rfl #[.int .i64 a0, .bool a1] rfl (by (try simp only [List.map_toArray, List.map_cons, List.map_nil]); first | done | rfl | (simp only [List.length_drop, List.length_take]; rfl)) ?_; (with_reducible refine (annealref1_sign.calls a0 a1 t211 _ A3.out).mono ?_); rintro e w' ⟨rfl, ⟨nd, rfl⟩⟩; refine ⟨_, rfl, ?_⟩))
  go_ret
  exact ⟨by first | rfl | (simp; done) | (simp [*]; done) | (congr 1; (try unfold wrap64); omega), by repeat (first | exact Drawn0.refl _ | apply Drawn0.step)⟩

/-! ### annealref1_bias: function 90 -/
def annealref1_bias.f (a0 : Int) : Option (Int) := (annealref1_Widths.f a0).bind fun bt212 => (if 0 ≤ (wrap64 (bt212.1 - 1)) then (some (wrap64 ((shl .i64 1 (wrap64 (bt212.1 - 1))) - 1))) else (none))
set_option maxHeartbeats 8000000 in
set_option maxRecDepth 100000 in
theorem annealref1_bias.calls (a0 : Int) (r : Int) (w : World) (h : annealref1_bias.f a0 = some r) :
    Calls Try.prog 90 #[.int .i64 a0] w fun e w' => e = .returned (.int .i64 r) ∧ Drawn0 w w' := by
  have H : ((annealref1_Widths.f a0).bind fun bt212 => (if 0 ≤ (wrap64 (bt212.1 - 1)) then (some (wrap64 ((shl .i64 1 (wrap64 (bt212.1 - 1))) - 1))) else (none))) = some r := h
  clear h
  replace H := Option.bind_eq_some_iff.mp H
  obtain ⟨⟨t212, t213⟩, A20, H⟩ := H
  replace H : (if 0 ≤ (wrap64 (t212 - 1)) then (some (wrap64 ((shl .i64 1 (wrap64 (t212 - 1))) - 1))) else (none)) = some r := H
  have A2 := Aside0.mk A20
  clear A20
  obtain ⟨ji3, hji3⟩ : ∃ j_ : Int, (wrap64 (t212 - 1)) = j_ := ⟨_, rfl⟩
  replace H : (if 0 ≤ (ji3) then (some (wrap64 ((shl .i64 1 (ji3)) - 1))) else (none)) = some r := by first | (rw [hji3] at H; exact H) | (simp only [hji3] at H ⊢; exact H)
  (try rw [hji3] at A2)
  have hji3w : (IntKind.i64.wrap (t212 - 1)) = ji3 := (i64_w _).trans hji3
  by_cases c4 : 0 ≤ (ji3)
  · rw [if_pos c4] at H
    have c4b0 := eq_true c4
    have c4b1 : decide (0 ≤ (ji3)) = true := decide_eq_true c4
    clear c4
    obtain ⟨ji5, hji5⟩ : ∃ j_ : Int, (shl .i64 1 (ji3)) = j_ := ⟨_, rfl⟩
    replace H : (some (wrap64 ((ji5) - 1))) = some r := by first | (rw [hji5] at H; exact H) | (simp only [hji5] at H ⊢; exact H)
    (try rw [hji5] at A2)
    have hji5_ : (IntKind.i64.wrap (1 * 2 ^ min (ji3).toNat 64)) = ji5 := hji5
    have hji5z : (ji3) ≤ 64 → (IntKind.i64.wrap (1 * 2 ^ (ji3).toNat)) = ji5 := shl_small hji5
    have hji5u : (IntKind.i64.wrap (2 ^ min (ji3).toNat 64)) = ji5 := by have h_ := hji5_; rw [Int.one_mul] at h_; exact h_
    have hji5v : (ji3) ≤ 64 → (IntKind.i64.wrap (2 ^ (ji3).toNat)) = ji5 := fun hle_ => by have h_ := hji5z hle_; rw [Int.one_mul] at h_; exact h_
    have hji5y : (wrap64 (1 * 2 ^ min (ji3).toNat 64)) = ji5 := (i64_w _).symm.trans hji5_
    have hji5x : (ji3) ≤ 64 → (wrap64 (1 * 2 ^ (ji3).toNat)) = ji5 := fun h_ => (i64_w _).symm.trans (hji5z h_)
    obtain rfl := Option.some.inj H
    go_enter Try.func90, Try.ntmps90
    go_wp2_with (first | ((with_reducible refine gate_callee (f := 49) rfl ?_); refine goesL_ (some 7) rfl rfl Try.func49 (by kernel_rfl) rfl #[.int .i64 a0] rfl (by (try simp only [List.map_toArray, List.map_cons, List.map_nil]); first | done | rfl | (simp only [List.length_drop, List.length_take]; rfl)) ?_; (with_reducible refine (annealref1_Widths.calls a0 t212 t213 _ A2.out).mono ?_); rintro e w' ⟨rfl, ⟨nd, rfl⟩⟩; refine ⟨_, rfl, ?_⟩))
    go_ret
    exact ⟨by first | rfl | (simp; done) | (simp only [← hji3, ← hji5] <;> (first | rfl | (simp; done))) | (simp [*]; done) | (congr 1; (try unfold wrap64); omega), by repeat (first | exact Drawn0.refl _ | apply Drawn0.step)⟩
  · rw [if_neg c4] at H
    exact absurd H (by simp)

/-! ### annealref1_Len: function 91 -/
def annealref1_Len.l0 : Nat → Int → Int → Option (Int)
  | 0, _, _ => none
  | k + 1, x0, x3 => if x0 > 0 then (annealref1_Len.l0 k (x0 / 2) (wrap64 (x3 + 1))) else (some x3)
def annealref1_Len.f (k : Nat) (a0 : Int) : Option (Int) := annealref1_Len.l0 k a0 0
theorem annealref1_Len.mono_l : ∀ k, (∀ y0 y1, LeO (annealref1_Len.l0 k y0 y1) (annealref1_Len.l0 (k + 1) y0 y1))
  | 0 => fun _ _ r h => by simp [annealref1_Len.l0] at h
  | k + 1 => by
    have ih0 := annealref1_Len.mono_l k
    · intro y0 y1
      unfold annealref1_Len.l0
      repeat' first
      | (with_reducible exact ih0 _ _)
      | (with_reducible exact LeO.refl _)
      | (with_reducible exact LeO.none _)
      | (with_reducible refine LeO.ite ?_ ?_)
      | (with_reducible refine LeO.bind ?_ (fun _ => ?_))
      | exact ih0 _ _
      | exact LeO.none _
      | refine LeO.ite ?_ ?_
      | refine LeO.bind ?_ (fun _ => ?_)
theorem annealref1_Len.mono : ∀ a0 k, LeO (annealref1_Len.f k a0) (annealref1_Len.f (k + 1) a0) := by
  intro a0 k
  have ih0 := annealref1_Len.mono_l k
  unfold annealref1_Len.f
  repeat' first
      | (with_reducible exact ih0 _ _)
      | (with_reducible exact LeO.refl _)
      | (with_reducible exact LeO.none _)
      | (with_reducible refine LeO.ite ?_ ?_)
      | (with_reducible refine LeO.bind ?_ (fun _ => ?_))
      | exact ih0 _ _
      | exact LeO.none _
      | refine LeO.ite ?_ ?_
      | refine LeO.bind ?_ (fun _ => ?_)
set_option maxHeartbeats 8000000 in
set_option maxRecDepth 100000 in
theorem annealref1_Len.calls (k : Nat) (a0 : Int) (r : Int) (w : World) (h : annealref1_Len.f k a0 = some r) :
    Calls Try.prog 91 #[.int .u64 a0] w fun e w' => e = .returned (.int .i64 r) ∧ Drawn0 w w' := by
  have H : (annealref1_Len.l0 k a0 0) = some r := h
  clear h
  have H' := Aside0.mk H
  clear H
  go_enter Try.func91, Try.ntmps91
  go_wp2
  go_loopg [0, 3] k (fun kq v0 v3 w' => ∃ (x0_1 : Int) (x3_1 : Int), v0 = .int .u64 x0_1 ∧ v3 = .int .i64 x3_1 ∧ Aside0 (annealref1_Len.l0 kq x0_1 x3_1 = some r) ∧ Aside0 (kq ≤ k) ∧ Drawn0 w w')
  case atStart => exact ⟨(a0), (0), (by first | rfl | (simp; done) | (simp [*]; done) | (congr 1; (try unfold wrap64); omega)), (by first | rfl | (simp; done) | (simp [*]; done) | (congr 1; (try unfold wrap64); omega)), H', ⟨Nat.le_refl _⟩, by repeat (first | exact Drawn0.refl _ | apply Drawn0.step)⟩
  case round =>
    clear H'
    obtain ⟨x0_1, x3_1, rfl, rfl, HA, HK1, ⟨m1, rfl⟩⟩ := hrel
    cases gk with
    | zero => exact absurd HA.out (by simp [annealref1_Len.l0])
    | succ k1 =>
      have H := HA.out
      clear HA
      simp only [annealref1_Len.l0] at H
      by_cases c2 : x0_1 > 0
      · rw [if_pos c2] at H
        have c2b0 : decide (0 < x0_1) = true := decide_eq_true c2
        clear c2
        have H' := Aside0.mk H
        clear H
        go_wp2
        go_roundg k1
        case measure => have := HK1.out; omega
        case rel => exact ⟨(x0_1 / 2), (wrap64 (x3_1 + 1)), (by first | rfl | (simp; done) | (simp [*]; done) | (congr 1; (try unfold wrap64); omega)), (by first | rfl | (simp; done) | (simp [*]; done) | (congr 1; (try unfold wrap64); omega)), H', ⟨by have := HK1.out; omega⟩, by repeat (first | exact Drawn0.refl _ | apply Drawn0.step)⟩
      · rw [if_neg c2] at H
        have c2b0 : decide (0 < x0_1) = false := decide_eq_false c2
        clear c2
        obtain rfl := Option.some.inj H
        go_wp2
        go_ret
        exact ⟨by first | rfl | (simp; done) | (simp [*]; done) | (congr 1; (try unfold wrap64); omega), by repeat (first | exact Drawn0.refl _ | apply Drawn0.step)⟩

end Go.Proofs.Ytngkpekmgahjiaa.P
