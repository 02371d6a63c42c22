import Derived.Test.YtngkpekmgahjiaaQwtZ
import Derived.Test.YtngkpekmgahjiaaQwtM1
import Derived.Test.YtngkpekmgahjiaaQwtM2
-- Printed by a program of this session's out of Lean's print of the translation; Lean checks it.
namespace Go.Proofs.Ytngkpekmgahjiaa.P
open Go.RowKit Go.Proofs.YtngkpekmgahjiaaW.PrintWords Go.Proofs.YtngkpekmgahjiaaW.PrintLast Go.Proofs.YtngkpekmgahjiaaW.PrintMore
attribute [local go_sem] max2_int min2_int max_two min_two max_three min_three max_four min_four
set_option linter.unusedVariables false
set_option linter.unusedSimpArgs false

/-! ### whole_apart: function 54 -/
def whole_apart.f (k : Nat) (a0 : Int) (a1 : Int) : Option (Int × Bool × Bool × Bool × Bool × Bool × Bool) := (sum_Nans.f k a0 (([a1] : List Int))).bind fun bt183 => (if bt183.2.2.2.2.2.2 = true then (some (bt183.1, bt183.2.1, bt183.2.2.1, bt183.2.2.2.1, bt183.2.2.2.2.1, bt183.2.2.2.2.2.1, true)) else ((format_Mask.f a0).bind fun t191 => ((format_IsInf.f k a0 a1).bind fun t192 => (if t192 = true then (some (Go.bits .and .u32 a1 t191, false, false, false, false, false, true)) else ((format_IsZero.f k a0 a1).bind fun t193 => (some (Go.bits .and .u32 a1 t191, false, false, false, false, false, t193)))))))
theorem whole_apart.mono : ∀ a0 a1 k, LeO (whole_apart.f k a0 a1) (whole_apart.f (k + 1) a0 a1) := by
 intro a0 a1 k
 unfold whole_apart.f
 repeat' first
   |(with_reducible exact format_IsInf.mono _ _ _)
   |(with_reducible exact format_IsZero.mono _ _ _)
   |(with_reducible exact sum_Nans.mono _ _ _)
   |(with_reducible exact LeO.refl _)
   |(with_reducible exact LeO.none _)
   |(with_reducible refine LeO.ite ?_ ?_)
   |(with_reducible refine LeO.bind ?_ (fun _ => ?_))
   |exact format_IsInf.mono _ _ _
   |exact format_IsZero.mono _ _ _
   |exact sum_Nans.mono _ _ _
   |exact LeO.none _
   |refine LeO.ite ?_ ?_
   |refine LeO.bind ?_ (fun _ => ?_)
set_option maxHeartbeats 8000000 in
set_option maxRecDepth 100000 in
theorem whole_apart.calls (k : Nat) (a0 : Int) (a1 : Int) (r1 : Int) (r2 : Bool) (r3 : Bool) (r4 : Bool) (r5 : Bool) (r6 : Bool) (r7 : Bool) (w : World) (h : whole_apart.f k a0 a1 = some (r1, r2, r3, r4, r5, r6, r7)) :
  Calls Try.prog 54 #[.int .i64 a0, .int .u32 a1] w fun e w' => e = .returned (.tuple #[.int .u32 r1, .agg #[.bool r2, .bool r3, .bool r4, .bool r5, .bool r6], .bool r7]) ∧ Below w.heap.size w w' := by
 have hu41 := Try.underlying41
 have HB := Aside0.mk (Below.refl w.heap.size w)
 have H : ((sum_Nans.f k a0 (([a1] : List Int))).bind fun bt183 => (if bt183.2.2.2.2.2.2 = true then (some (bt183.1, bt183.2.1, bt183.2.2.1, bt183.2.2.2.1, bt183.2.2.2.2.1, bt183.2.2.2.2.2.1, true)) else ((format_Mask.f a0).bind fun t191 => ((format_IsInf.f k a0 a1).bind fun t192 => (if t192 = true then (some (Go.bits .and .u32 a1 t191, false, false, false, false, false, true)) else ((format_IsZero.f k a0 a1).bind fun t193 => (some (Go.bits .and .u32 a1 t191, false, false, false, false, false, t193)))))))) = some (r1, r2, r3, r4, r5, r6, r7) := h
 clear h
 obtain ⟨y180, hy180⟩ : ∃ y_ : List Int, y_ = (([a1] : List Int)) := ⟨_, rfl⟩
 replace H : ((sum_Nans.f k a0 y180).bind fun bt183 => (if bt183.2.2.2.2.2.2 = true then (some (bt183.1, bt183.2.1, bt183.2.2.1, bt183.2.2.2.1, bt183.2.2.2.2.1, bt183.2.2.2.2.2.1, true)) else ((format_Mask.f a0).bind fun t191 => ((format_IsInf.f k a0 a1).bind fun t192 => (if t192 = true then (some (Go.bits .and .u32 a1 t191, false, false, false, false, false, true)) else ((format_IsZero.f k a0 a1).bind fun t193 => (some (Go.bits .and .u32 a1 t191, false, false, false, false, false, t193)))))))) = some (r1, r2, r3, r4, r5, r6, r7) := by first | (rw [hy180]; with_reducible exact H) | (have H2_ := (Option.bind_some _ _).symm.trans H; rw [hy180]; with_reducible exact H2_) | (have H2_ := (Option.bind_some _ _).symm.trans H; with_reducible exact H2_) | with_reducible exact H | (rw [hy180]; exact H) | exact H
 have Ny180 := Aside0.mk hy180
 clear hy180
 replace H := Option.bind_eq_some_iff.mp H
 obtain ⟨⟨t183, t184, t185, t186, t187, t188, t189⟩, A30, H⟩ := H
 replace H : (if t189 = true then (some (t183, t184, t185, t186, t187, t188, true)) else ((format_Mask.f a0).bind fun t191 => ((format_IsInf.f k a0 a1).bind fun t192 => (if t192 = true then (some (Go.bits .and .u32 a1 t191, false, false, false, false, false, true)) else ((format_IsZero.f k a0 a1).bind fun t193 => (some (Go.bits .and .u32 a1 t191, false, false, false, false, false, t193))))))) = some (r1, r2, r3, r4, r5, r6, r7) := H
 have A3 := Aside0.mk A30
 clear A30
 by_cases c4 : t189 = true
 ·subst c4
  have H1 : (some (t183, t184, t185, t186, t187, t188, true)) = some (r1, r2, r3, r4, r5, r6, r7) := by rw [if_pos rfl] at H; exact H
  clear H
  have H := H1
  clear H1
  simp only [Option.some.injEq, Prod.mk.injEq] at H
  obtain ⟨rfl, rfl, rfl, rfl, rfl, rfl, rfl⟩ := H
  go_enter Try.func54, Try.ntmps54
  try go_wp2_with (first | ((with_reducible refine gate_dst (N := 5) rfl ?_); refine box_event ?hg (N := 5) ?hd (cs := F5) (t := 41) ?hr ?_; (case hd => rfl); (case hg => rfl); (case hr => first | (go_simp; done) | (go_simp; rfl)); intro gb179 hg w5 hbox hb; have n0_ := Aside0.mk (below_step (bl0 HB.out) hb); have n1_ := Aside0.mk (hbox); have n2_ := Aside0.mk ((by rw [hg]; exact (below_size (bl0 HB.out)) : w.heap.size ≤ gb179)); have n3_ := n2_; clear HB; have HB := n0_; have BK179 := n1_; have GW179 := n2_; have GE179 := n3_; clear n0_ n1_ n2_ n3_; clear hb hbox hg) | ((with_reducible refine gate_dst (N := 13) rfl ?_); refine Kd.R_lit (Kd.int .u32) _ 22 ?hg (N := 13) ?hd (xs := ([a1] : List Int)) (inner := [.int .u32 a1]) (ok := fun _ => True) (okp := fun _ => True) ?hr ?hp (fun _ hk => hk) trivial (Below.refl _ _) (Nat.le_refl _) (by simp) ?_; (case hd => rfl); (case hg => rfl); (case hr => first | (go_simp; done) | (go_simp; rfl)); (case hp => exact (Reps.one (show Kd.M (Kd.int .u32) _ _ _ a1 [.int .u32 a1] from rfl) (Reps.none _ _))); intro v181 w6 ho7 hb hg_ hnew_; clear hg_ hnew_; (first | rw [← Ny180.out] at ho7 | (simp only [Int.reduceToNat] at ho7; rw [← Ny180.out] at ho7)); have n0_ := Aside0.mk (Kd.R_lower ho7 (below_size (bl1 HB.out GE179.out))); have n1_ := Aside0.mk (blk_below (g := gb179) (o := o5_ false false false false false 41) (bv BK179.out) hb); have n2_ := Aside0.mk (below_step (bl1 HB.out GE179.out) hb); clear BK179; clear HB; have HO182 := n0_; have BK179 := n1_; have HB := n2_; clear n0_ n1_ n2_; clear hb ho7; obtain ⟨Ao8, co8, eo8⟩ := Kd.R_slice HO182.out; subst eo8) | ((with_reducible refine gate_callee (f := 63) rfl ?_); refine goesL_ (some 14) rfl rfl Try.func63 (by kernel_rfl) rfl #[.int .i64 a0, .slice Ao8 y180.length co8] rfl gl ?_; (with_reducible refine (sum_Nans.calls k a0 _ _ y180 t183 t184 t185 t186 t187 t188 true _ ?side1 ?side2 A3.out).mono ?_); (case side1 => repeat (first | exact (Kd.R_reads' HO182.out).2.2 | (with_reducible refine Kd.C_alloc ?_ _) | (with_reducible refine Kd.C_drewN ?_ _) | (with_reducible refine Kd.C_drew ?_))); (case side2 => exact (Kd.R_reads' HO182.out).2.1); rintro e w9 ⟨rfl, hb⟩; refine ⟨_, rfl, ?_⟩; have n0_ := Aside0.mk (Kd.R_below (by (with_reducible repeat (first | apply Kd.R_alloc | apply Kd.R_drewN | apply Kd.R_drew)); exact HO182.out) hb); have n1_ := Aside0.mk (blk_below (g := gb179) (o := o5_ false false false false false 41) (bv BK179.out) hb); have n2_ := Aside0.mk (below_step (bl1 HB.out GE179.out) hb); clear HO182; clear BK179; clear HB; have HO182 := n0_; have BK179 := n1_; have HB := n2_; clear n0_ n1_ n2_) | ((with_reducible refine gate_dst (N := 8) rfl ?_); refine box_event ?hg (N := 8) ?hd (cs := F5) (t := 41) ?hr ?_; (case hd => rfl); (case hg => rfl); (case hr => first | (go_simp; done) | (go_simp; rfl)); intro gb190 hg w10 hbox hb; have n0_ := Aside0.mk (Kd.R_below (by (with_reducible repeat (first | apply Kd.R_alloc | apply Kd.R_drewN | apply Kd.R_drew)); exact HO182.out) hb); have n1_ := Aside0.mk (blk_below (g := gb179) (o := o5_ false false false false false 41) (bv BK179.out) hb); have n2_ := Aside0.mk (below_step (bl1 HB.out GE179.out) hb); have n3_ := Aside0.mk (hbox); have n4_ := Aside0.mk ((by rw [hg]; exact (below_size (bl1 HB.out GE179.out)) : w.heap.size ≤ gb190)); have n5_ := n4_; have n6_ := Aside0.mk ((by rw [hg]; exact Nat.ne_of_lt (blk_lt (g := gb179) (o := .cells F5 41 (0, 0)) (bv BK179.out)) : gb179 ≠ gb190)); have n7_ := Aside0.mk (Ne.symm n6_.out); clear HO182; clear BK179; clear HB; have HO182 := n0_; have BK179 := n1_; have HB := n2_; have BK190 := n3_; have GW190 := n4_; have GE190 := n5_; have NB179_190 := n6_; have NB190_179 := n7_; clear n0_ n1_ n2_ n3_ n4_ n5_ n6_ n7_; clear hb hbox hg; have hnb11 := NB190_179.out; have hnc11 := NB179_190.out; obtain ⟨hcz12_0, hcz12_1, hcz12_2, hcz12_3, hcz12_4⟩ := bc5 BK190.out; obtain ⟨hfz12_0, hfz12_1, hfz12_2, hfz12_3, hfz12_4⟩ := bf5 BK190.out))
  have n0_ : Aside0 (Kd.R (Kd.int .u32) 22 (((((w10.setCell ⟨gb190, 0, none⟩ (.bool t184)).setCell ⟨gb190, 1, none⟩ (.bool t185)).setCell ⟨gb190, 2, none⟩ (.bool t186)).setCell ⟨gb190, 3, none⟩ (.bool t187)).setCell ⟨gb190, 4, none⟩ (.bool t188)) w.heap.size (fun _ => True) (.slice Ao8 y180.length co8) y180) := ⟨by (with_reducible repeat (first | apply Kd.R_alloc | apply Kd.R_drewN | apply Kd.R_drew)); exact Kd.R_mono (Kd.R_far (p := ⟨gb190, 4, none⟩) (Kd.R_far (p := ⟨gb190, 3, none⟩) (Kd.R_far (p := ⟨gb190, 2, none⟩) (Kd.R_far (p := ⟨gb190, 1, none⟩) (Kd.R_far (p := ⟨gb190, 0, none⟩) (Kd.R_types HO182.out BK190.out (by decide)) (fun _ hk => hk.2) (.bool t184)) (fun _ hk => hk.2) (.bool t185)) (fun _ hk => hk.2) (.bool t186)) (fun _ hk => hk.2) (.bool t187)) (fun _ hk => hk.2) (.bool t188)) (fun _ hk => trivial)⟩
  have n1_ : Aside0 ((((((w10.setCell ⟨gb190, 0, none⟩ (.bool t184)).setCell ⟨gb190, 1, none⟩ (.bool t185)).setCell ⟨gb190, 2, none⟩ (.bool t186)).setCell ⟨gb190, 3, none⟩ (.bool t187)).setCell ⟨gb190, 4, none⟩ (.bool t188)).heap[gb179]? = some (o5_ false false false false false 41)) := ⟨by (with_reducible repeat first | apply bd | apply be | apply ba); refine blk_far ?_ NB179_190.out _; (with_reducible repeat first | apply bd | apply be | apply ba); refine blk_far ?_ NB179_190.out _; (with_reducible repeat first | apply bd | apply be | apply ba); refine blk_far ?_ NB179_190.out _; (with_reducible repeat first | apply bd | apply be | apply ba); refine blk_far ?_ NB179_190.out _; (with_reducible repeat first | apply bd | apply be | apply ba); refine blk_far ?_ NB179_190.out _; (with_reducible repeat first | apply bd | apply be | apply ba); exact BK179.out⟩
  have n2_ : Aside0 ((((((w10.setCell ⟨gb190, 0, none⟩ (.bool t184)).setCell ⟨gb190, 1, none⟩ (.bool t185)).setCell ⟨gb190, 2, none⟩ (.bool t186)).setCell ⟨gb190, 3, none⟩ (.bool t187)).setCell ⟨gb190, 4, none⟩ (.bool t188)).heap[gb190]? = some (o5_ t184 t185 t186 t187 t188 41)) := ⟨by (with_reducible repeat first | apply bd | apply be | apply ba); refine blk_put (cs := q5_ t184 t185 t186 t187 false) ?_ 4 _ rfl; (with_reducible repeat first | apply bd | apply be | apply ba); refine blk_put (cs := q5_ t184 t185 t186 false false) ?_ 3 _ rfl; (with_reducible repeat first | apply bd | apply be | apply ba); refine blk_put (cs := q5_ t184 t185 false false false) ?_ 2 _ rfl; (with_reducible repeat first | apply bd | apply be | apply ba); refine blk_put (cs := q5_ t184 false false false false) ?_ 1 _ rfl; (with_reducible repeat first | apply bd | apply be | apply ba); refine blk_put (cs := F5) ?_ 0 _ rfl; (with_reducible repeat first | apply bd | apply be | apply ba); exact BK190.out⟩
  have n3_ : Aside0 (Below w.heap.size w (((((w10.setCell ⟨gb190, 0, none⟩ (.bool t184)).setCell ⟨gb190, 1, none⟩ (.bool t185)).setCell ⟨gb190, 2, none⟩ (.bool t186)).setCell ⟨gb190, 3, none⟩ (.bool t187)).setCell ⟨gb190, 4, none⟩ (.bool t188))) := ⟨bl2 HB.out GE179.out GE190.out⟩
  (try clear HO182)
  (try clear BK179)
  (try clear BK190)
  (try clear HB)
  generalize (((((w10.setCell ⟨gb190, 0, none⟩ (.bool t184)).setCell ⟨gb190, 1, none⟩ (.bool t185)).setCell ⟨gb190, 2, none⟩ (.bool t186)).setCell ⟨gb190, 3, none⟩ (.bool t187)).setCell ⟨gb190, 4, none⟩ (.bool t188)) = w13 at n0_ n1_ n2_ n3_ ⊢
  have HO182 := n0_
  have BK179 := n1_
  have BK190 := n2_
  have HB := n3_
  clear n0_ n1_ n2_ n3_
  have n0_ := Aside0.mk (Kd.R_drew HO182.out)
  have n1_ := Aside0.mk (blk_drew BK179.out)
  have n2_ := Aside0.mk (blk_drew BK190.out)
  have n3_ := Aside0.mk (below_drew1 HB.out)
  clear HO182
  clear BK179
  clear BK190
  clear HB
  have HO182 := n0_
  have BK179 := n1_
  have BK190 := n2_
  have HB := n3_
  clear n0_ n1_ n2_ n3_
  refine start_ (n := 5) (S := fun w' => w'.cell? ⟨gb190, 0, none⟩ = some (.bool t184) ∧ w'.cell? ⟨gb190, 1, none⟩ = some (.bool t185) ∧ w'.cell? ⟨gb190, 2, none⟩ = some (.bool t186) ∧ w'.cell? ⟨gb190, 3, none⟩ = some (.bool t187) ∧ w'.cell? ⟨gb190, 4, none⟩ = some (.bool t188)) (ds := []) #[false, false, false, false, false] (by kernel_rfl) rfl rfl ⟨(blk_cell BK190.out 0).trans rfl, (blk_cell BK190.out 1).trans rfl, (blk_cell BK190.out 2).trans rfl, (blk_cell BK190.out 3).trans rfl, (blk_cell BK190.out 4).trans rfl⟩ (fun hHeld => ?_)
  generalize w13.drew = w14 at HO182 BK179 BK190 HB hHeld ⊢
  refine pure_ (i := 0) (N := some 19) (v := ?_) (a' := ?_) #[true, false, false, false, false] rfl rfl (by kernel_rfl) (fun _ _ _ h => h) (Or.inl ⟨by rfl, ?_⟩) ?_ ?_
  rotate_left
  ·intro w'
   go_simp
   with_reducible rfl
  rotate_left
  ·simp only [Act.put, sb, sz, ss, i64_w, i32_w]
   rfl
  refine pure_ (i := 2) (N := some 4) (v := ?_) (a' := ?_) #[true, false, true, false, false] rfl rfl (by kernel_rfl) (fun _ _ _ h => h) (Or.inl ⟨by rfl, ?_⟩) ?_ ?_
  rotate_left
  ·intro w'
   go_simp
   with_reducible rfl
  rotate_left
  ·simp only [Act.put, sb, sz, ss, i64_w, i32_w]
   rfl
  refine take_ (i := 1) (N := some 20) (v := ?_) (a' := ?_) #[true, true, true, false, false] rfl rfl (by kernel_rfl) (fun _ _ _ h => h) (Or.inl ⟨by rfl, ?_⟩) hHeld ?_ ?_
  rotate_left
  ·rintro w' ⟨s0, s1, s2, s3, s4⟩
   go_simp
   with_reducible rfl
  rotate_left
  ·simp only [Act.put, sb, sz, ss, i64_w, i32_w]
   rfl
  refine one_ (i := 3) (N := none) #[true, true, true, true, false] rfl rfl (by kernel_rfl) (by decide) (fun K hK => ?_)
  have hs15 : w14.cell? ⟨gb179, 0, none⟩ = some (.bool false) := (blk_cell BK179.out 0).trans rfl
  have hfs15 := blk_frozen BK179.out 0
  have hns15_1 := NB190_179.out
  have hms15_1 := NB179_190.out
  have hs16 : w14.cell? ⟨gb179, 1, none⟩ = some (.bool false) := (blk_cell BK179.out 1).trans rfl
  have hfs16 := blk_frozen BK179.out 1
  have hns16_1 := NB190_179.out
  have hms16_1 := NB179_190.out
  have hs17 : w14.cell? ⟨gb179, 2, none⟩ = some (.bool false) := (blk_cell BK179.out 2).trans rfl
  have hfs17 := blk_frozen BK179.out 2
  have hns17_1 := NB190_179.out
  have hms17_1 := NB179_190.out
  have hs18 : w14.cell? ⟨gb179, 3, none⟩ = some (.bool false) := (blk_cell BK179.out 3).trans rfl
  have hfs18 := blk_frozen BK179.out 3
  have hns18_1 := NB190_179.out
  have hms18_1 := NB179_190.out
  have hs19 : w14.cell? ⟨gb179, 4, none⟩ = some (.bool false) := (blk_cell BK179.out 4).trans rfl
  have hfs19 := blk_frozen BK179.out 4
  have hns19_1 := NB190_179.out
  have hms19_1 := NB179_190.out
  refine skip_ (w1 := ?_) (by rfl) rfl ?_ ?_
  rotate_left
  ·go_simp
   rfl
  refine hK.out _ _ ⟨(cf5 NB190_179.out (hHeld.1)), (cf5 NB190_179.out (hHeld.2.1)), (cf5 NB190_179.out (hHeld.2.2.1)), (cf5 NB190_179.out (hHeld.2.2.2.1)), (cf5 NB190_179.out (hHeld.2.2.2.2))⟩ (fun hHeld => ?_)
  clear hK K
  refine pure_ (i := 4) (N := some 6) (v := ?_) (a' := ?_) #[true, true, true, true, true] rfl rfl (by kernel_rfl) (fun _ _ _ h => h) (Or.inl ⟨by rfl, ?_⟩) ?_ ?_
  rotate_left
  ·intro w'
   go_simp
   with_reducible rfl
  rotate_left
  ·simp only [Act.put, sb, sz, ss, i64_w, i32_w]
   rfl
  refine done_ (by kernel_rfl) ?_
  try go_wp2
  refine bodyPost_ret (results_list (rs := [.tmp 4, .cell 5 41, .tmp 6]) rfl (by simp) (.tmp (.cell gb179 41 #[.bool t184, .bool t185, .bool t186, .bool t187, .bool t188] (0, 0) _ rfl (by (with_reducible repeat first | apply bd | apply be | apply ba); refine blk_put (cs := q5_ t184 t185 t186 t187 false) ?_ 4 _ rfl; (with_reducible repeat first | apply bd | apply be | apply ba); refine blk_put (cs := q5_ t184 t185 t186 false false) ?_ 3 _ rfl; (with_reducible repeat first | apply bd | apply be | apply ba); refine blk_put (cs := q5_ t184 t185 false false false) ?_ 2 _ rfl; (with_reducible repeat first | apply bd | apply be | apply ba); refine blk_put (cs := q5_ t184 false false false false) ?_ 1 _ rfl; (with_reducible repeat first | apply bd | apply be | apply ba); refine blk_put (cs := F5) ?_ 0 _ rfl; (with_reducible repeat first | apply bd | apply be | apply ba); exact BK179.out) Try.underlying41 rfl (by kernel_rfl) (.tmp .nil)))) rfl ?_
  exact ⟨by first | rfl | (simp [errW_none, errW_some] <;> rfl) | (simp [*, errW_none, errW_some] <;> rfl), bl2 HB.out GE179.out GE190.out⟩
 ·replace c4 := Bool.eq_false_iff.mpr c4
  subst c4
  have H1 : ((format_Mask.f a0).bind fun t191 => ((format_IsInf.f k a0 a1).bind fun t192 => (if t192 = true then (some (Go.bits .and .u32 a1 t191, false, false, false, false, false, true)) else ((format_IsZero.f k a0 a1).bind fun t193 => (some (Go.bits .and .u32 a1 t191, false, false, false, false, false, t193)))))) = some (r1, r2, r3, r4, r5, r6, r7) := by rw [if_neg (show ¬ (false = true) by decide)] at H; exact H
  clear H
  have H := H1
  clear H1
  replace H := Option.bind_eq_some_iff.mp H
  obtain ⟨t191, A200, H⟩ := H
  replace H : ((format_IsInf.f k a0 a1).bind fun t192 => (if t192 = true then (some (Go.bits .and .u32 a1 t191, false, false, false, false, false, true)) else ((format_IsZero.f k a0 a1).bind fun t193 => (some (Go.bits .and .u32 a1 t191, false, false, false, false, false, t193))))) = some (r1, r2, r3, r4, r5, r6, r7) := H
  have A20 := Aside0.mk A200
  clear A200
  replace H := Option.bind_eq_some_iff.mp H
  obtain ⟨t192, A210, H⟩ := H
  replace H : (if t192 = true then (some (Go.bits .and .u32 a1 t191, false, false, false, false, false, true)) else ((format_IsZero.f k a0 a1).bind fun t193 => (some (Go.bits .and .u32 a1 t191, false, false, false, false, false, t193)))) = some (r1, r2, r3, r4, r5, r6, r7) := H
  have A21 := Aside0.mk A210
  clear A210
  by_cases c22 : t192 = true
  ·subst c22
   have H1 : (some (Go.bits .and .u32 a1 t191, false, false, false, false, false, true)) = some (r1, r2, r3, r4, r5, r6, r7) := by rw [if_pos rfl] at H; exact H
   clear H
   have H := H1
   clear H1
   simp only [Option.some.injEq, Prod.mk.injEq] at H
   obtain ⟨rfl, rfl, rfl, rfl, rfl, rfl, rfl⟩ := H
   go_enter Try.func54, Try.ntmps54
   go_wp2_with (first | ((with_reducible refine gate_dst (N := 5) rfl ?_); refine box_event ?hg (N := 5) ?hd (cs := F5) (t := 41) ?hr ?_; (case hd => rfl); (case hg => rfl); (case hr => first | (go_simp; done) | (go_simp; rfl)); intro gb179 hg w23 hbox hb; have n0_ := Aside0.mk (below_step (bl0 HB.out) hb); have n1_ := Aside0.mk (hbox); have n2_ := Aside0.mk ((by rw [hg]; exact (below_size (bl0 HB.out)) : w.heap.size ≤ gb179)); have n3_ := n2_; clear HB; have HB := n0_; have BK179 := n1_; have GW179 := n2_; have GE179 := n3_; clear n0_ n1_ n2_ n3_; clear hb hbox hg) | ((with_reducible refine gate_dst (N := 13) rfl ?_); refine Kd.R_lit (Kd.int .u32) _ 22 ?hg (N := 13) ?hd (xs := ([a1] : List Int)) (inner := [.int .u32 a1]) (ok := fun _ => True) (okp := fun _ => True) ?hr ?hp (fun _ hk => hk) trivial (Below.refl _ _) (Nat.le_refl _) (by simp) ?_; (case hd => rfl); (case hg => rfl); (case hr => first | (go_simp; done) | (go_simp; rfl)); (case hp => exact (Reps.one (show Kd.M (Kd.int .u32) _ _ _ a1 [.int .u32 a1] from rfl) (Reps.none _ _))); intro v181 w24 ho25 hb hg_ hnew_; clear hg_ hnew_; (first | rw [← Ny180.out] at ho25 | (simp only [Int.reduceToNat] at ho25; rw [← Ny180.out] at ho25)); have n0_ := Aside0.mk (Kd.R_lower ho25 (below_size (bl1 HB.out GE179.out))); have n1_ := Aside0.mk (blk_below (g := gb179) (o := o5_ false false false false false 41) (bv BK179.out) hb); have n2_ := Aside0.mk (below_step (bl1 HB.out GE179.out) hb); clear BK179; clear HB; have HO182 := n0_; have BK179 := n1_; have HB := n2_; clear n0_ n1_ n2_; clear hb ho25; obtain ⟨Ao26, co26, eo26⟩ := Kd.R_slice HO182.out; subst eo26) | ((with_reducible refine gate_callee (f := 63) rfl ?_); refine goesL_ (some 14) rfl rfl Try.func63 (by kernel_rfl) rfl #[.int .i64 a0, .slice Ao26 y180.length co26] rfl gl ?_; (with_reducible refine (sum_Nans.calls k a0 _ _ y180 t183 t184 t185 t186 t187 t188 false _ ?side1 ?side2 A3.out).mono ?_); (case side1 => repeat (first | exact (Kd.R_reads' HO182.out).2.2 | (with_reducible refine Kd.C_alloc ?_ _) | (with_reducible refine Kd.C_drewN ?_ _) | (with_reducible refine Kd.C_drew ?_))); (case side2 => exact (Kd.R_reads' HO182.out).2.1); rintro e w27 ⟨rfl, hb⟩; refine ⟨_, rfl, ?_⟩; have n0_ := Aside0.mk (Kd.R_below (by (with_reducible repeat (first | apply Kd.R_alloc | apply Kd.R_drewN | apply Kd.R_drew)); exact HO182.out) hb); have n1_ := Aside0.mk (blk_below (g := gb179) (o := o5_ false false false false false 41) (bv BK179.out) hb); have n2_ := Aside0.mk (below_step (bl1 HB.out GE179.out) hb); clear HO182; clear BK179; clear HB; have HO182 := n0_; have BK179 := n1_; have HB := n2_; clear n0_ n1_ n2_) | ((with_reducible refine gate_dst (N := 8) rfl ?_); refine box_event ?hg (N := 8) ?hd (cs := F5) (t := 41) ?hr ?_; (case hd => rfl); (case hg => rfl); (case hr => first | (go_simp; done) | (go_simp; rfl)); intro gb190 hg w28 hbox hb; have n0_ := Aside0.mk (Kd.R_below (by (with_reducible repeat (first | apply Kd.R_alloc | apply Kd.R_drewN | apply Kd.R_drew)); exact HO182.out) hb); have n1_ := Aside0.mk (blk_below (g := gb179) (o := o5_ false false false false false 41) (bv BK179.out) hb); have n2_ := Aside0.mk (below_step (bl1 HB.out GE179.out) hb); have n3_ := Aside0.mk (hbox); have n4_ := Aside0.mk ((by rw [hg]; exact (below_size (bl1 HB.out GE179.out)) : w.heap.size ≤ gb190)); have n5_ := n4_; have n6_ := Aside0.mk ((by rw [hg]; exact Nat.ne_of_lt (blk_lt (g := gb179) (o := .cells F5 41 (0, 0)) (bv BK179.out)) : gb179 ≠ gb190)); have n7_ := Aside0.mk (Ne.symm n6_.out); clear HO182; clear BK179; clear HB; have HO182 := n0_; have BK179 := n1_; have HB := n2_; have BK190 := n3_; have GW190 := n4_; have GE190 := n5_; have NB179_190 := n6_; have NB190_179 := n7_; clear n0_ n1_ n2_ n3_ n4_ n5_ n6_ n7_; clear hb hbox hg; have hnb29 := NB190_179.out; have hnc29 := NB179_190.out; obtain ⟨hcz30_0, hcz30_1, hcz30_2, hcz30_3, hcz30_4⟩ := bc5 BK190.out; obtain ⟨hfz30_0, hfz30_1, hfz30_2, hfz30_3, hfz30_4⟩ := bf5 BK190.out) | ((with_reducible refine gate_store (t := 41) (p := 8) rfl ?_); refine store_event (t := 41) (p := 8) (v := ?vo_w31) (w1 := (((((w28.setCell ⟨gb190, 0, none⟩ (.bool t184)).setCell ⟨gb190, 1, none⟩ (.bool t185)).setCell ⟨gb190, 2, none⟩ (.bool t186)).setCell ⟨gb190, 3, none⟩ (.bool t187)).setCell ⟨gb190, 4, none⟩ (.bool t188))) ?hg ?ho ?hn ?hr ?_; (case ho => rfl); (case hg => rfl); (case hn => rfl); (case hr => first | (go_simp; done) | (go_simp; rfl)); intro w31 hw; have n0_ : Aside0 (Kd.R (Kd.int .u32) 22 w31 w.heap.size (fun _ => True) (.slice Ao26 y180.length co26) y180) := ⟨(by rw [hw]; exact (by (with_reducible repeat (first | apply Kd.R_alloc | apply Kd.R_drewN | apply Kd.R_drew)); exact Kd.R_mono (Kd.R_far (p := ⟨gb190, 4, none⟩) (Kd.R_far (p := ⟨gb190, 3, none⟩) (Kd.R_far (p := ⟨gb190, 2, none⟩) (Kd.R_far (p := ⟨gb190, 1, none⟩) (Kd.R_far (p := ⟨gb190, 0, none⟩) (Kd.R_types HO182.out BK190.out (by decide)) (fun _ hk => hk.2) (.bool t184)) (fun _ hk => hk.2) (.bool t185)) (fun _ hk => hk.2) (.bool t186)) (fun _ hk => hk.2) (.bool t187)) (fun _ hk => hk.2) (.bool t188)) (fun _ hk => trivial)))⟩; have n1_ : Aside0 (w31.heap[gb179]? = some (o5_ false false false false false 41)) := ⟨(by rw [hw]; exact (by (with_reducible repeat first | apply bd | apply be | apply ba); refine blk_far ?_ NB179_190.out _; (with_reducible repeat first | apply bd | apply be | apply ba); refine blk_far ?_ NB179_190.out _; (with_reducible repeat first | apply bd | apply be | apply ba); refine blk_far ?_ NB179_190.out _; (with_reducible repeat first | apply bd | apply be | apply ba); refine blk_far ?_ NB179_190.out _; (with_reducible repeat first | apply bd | apply be | apply ba); refine blk_far ?_ NB179_190.out _; (with_reducible repeat first | apply bd | apply be | apply ba); exact BK179.out))⟩; have n2_ : Aside0 (w31.heap[gb190]? = some (o5_ t184 t185 t186 t187 t188 41)) := ⟨(by rw [hw]; exact (by (with_reducible repeat first | apply bd | apply be | apply ba); refine blk_put (cs := q5_ t184 t185 t186 t187 false) ?_ 4 _ rfl; (with_reducible repeat first | apply bd | apply be | apply ba); refine blk_put (cs := q5_ t184 t185 t186 false false) ?_ 3 _ rfl; (with_reducible repeat first | apply bd | apply be | apply ba); refine blk_put (cs := q5_ t184 t185 false false false) ?_ 2 _ rfl; (with_reducible repeat first | apply bd | apply be | apply ba); refine blk_put (cs := q5_ t184 false false false false) ?_ 1 _ rfl; (with_reducible repeat first | apply bd | apply be | apply ba); refine blk_put (cs := F5) ?_ 0 _ rfl; (with_reducible repeat first | apply bd | apply be | apply ba); exact BK190.out))⟩; have n3_ : Aside0 (Below w.heap.size w w31) := ⟨(by rw [hw]; exact (bl2 HB.out GE179.out GE190.out))⟩; clear hw; clear HO182; clear BK179; clear BK190; clear HB; have HO182 := n0_; have BK179 := n1_; have BK190 := n2_; have HB := n3_; clear n0_ n1_ n2_ n3_) | ((with_reducible refine gate_callee (f := 80) rfl ?_); refine goesL_ (some 23) rfl rfl Try.func80 (by kernel_rfl) rfl #[.int .i64 a0] rfl gl ?_; (with_reducible refine (format_Mask.calls a0 t191 _ A20.out).mono ?_); rintro e w' ⟨rfl, ⟨nd, rfl⟩⟩; refine ⟨_, rfl, ?_⟩; (try (rw [drewN_self w31]; generalize hq_ : World.drewN w31 _ = w31; have n0_ : Aside0 (Kd.R (Kd.int .u32) 22 w31 w.heap.size (fun _ => True) (.slice Ao26 y180.length co26) y180) := ⟨by rw [← hq_]; exact (by (with_reducible repeat (first | apply Kd.R_alloc | apply Kd.R_drewN | apply Kd.R_drew)); exact HO182.out)⟩; have n1_ : Aside0 (w31.heap[gb179]? = some (o5_ false false false false false 41)) := ⟨by rw [← hq_]; exact (bv BK179.out)⟩; have n2_ : Aside0 (w31.heap[gb190]? = some (o5_ t184 t185 t186 t187 t188 41)) := ⟨by rw [← hq_]; exact (bv BK190.out)⟩; have n3_ : Aside0 (Below w.heap.size w w31) := ⟨by rw [← hq_]; exact (bl2 HB.out GE179.out GE190.out)⟩; clear HO182 BK179 BK190 HB hq_; have HO182 := n0_; have BK179 := n1_; have BK190 := n2_; have HB := n3_; clear n0_ n1_ n2_ n3_))) | ((with_reducible refine gate_callee (f := 75) rfl ?_); refine goesL_ (some 28) rfl rfl Try.func75 (by kernel_rfl) rfl #[.int .i64 a0, .int .u32 a1] rfl gl ?_; (with_reducible refine (format_IsInf.calls k a0 a1 true _ A21.out).mono ?_); rintro e w' ⟨rfl, ⟨nd, rfl⟩⟩; refine ⟨_, rfl, ?_⟩; (try (rw [drewN_self w31]; generalize hq_ : World.drewN w31 _ = w31; have n0_ : Aside0 (Kd.R (Kd.int .u32) 22 w31 w.heap.size (fun _ => True) (.slice Ao26 y180.length co26) y180) := ⟨by rw [← hq_]; exact (by (with_reducible repeat (first | apply Kd.R_alloc | apply Kd.R_drewN | apply Kd.R_drew)); exact HO182.out)⟩; have n1_ : Aside0 (w31.heap[gb179]? = some (o5_ false false false false false 41)) := ⟨by rw [← hq_]; exact (bv BK179.out)⟩; have n2_ : Aside0 (w31.heap[gb190]? = some (o5_ t184 t185 t186 t187 t188 41)) := ⟨by rw [← hq_]; exact (bv BK190.out)⟩; have n3_ : Aside0 (Below w.heap.size w w31) := ⟨by rw [← hq_]; exact (bl2 HB.out GE179.out GE190.out)⟩; clear HO182 BK179 BK190 HB hq_; have HO182 := n0_; have BK179 := n1_; have BK190 := n2_; have HB := n3_; clear n0_ n1_ n2_ n3_)); obtain ⟨hcz32_0, hcz32_1, hcz32_2, hcz32_3, hcz32_4⟩ := bc5 BK179.out; obtain ⟨hfz32_0, hfz32_1, hfz32_2, hfz32_3, hfz32_4⟩ := bf5 BK179.out))
   refine bodyPost_ret (results_list (rs := [.tmp 4, .cell 5 41, .tmp 6]) rfl (by simp) (.tmp (.cell gb179 41 #[.bool false, .bool false, .bool false, .bool false, .bool false] (0, 0) _ rfl (by (with_reducible repeat first | apply bd | apply be | apply ba); refine blk_put (cs := F5) ?_ 4 _ rfl; (with_reducible repeat first | apply bd | apply be | apply ba); refine blk_put (cs := F5) ?_ 3 _ rfl; (with_reducible repeat first | apply bd | apply be | apply ba); refine blk_put (cs := F5) ?_ 2 _ rfl; (with_reducible repeat first | apply bd | apply be | apply ba); refine blk_put (cs := F5) ?_ 1 _ rfl; (with_reducible repeat first | apply bd | apply be | apply ba); refine blk_put (cs := F5) ?_ 0 _ rfl; (with_reducible repeat first | apply bd | apply be | apply ba); exact BK179.out) Try.underlying41 rfl (by kernel_rfl) (.tmp .nil)))) rfl ?_
   exact ⟨by first | rfl | (simp [errW_none, errW_some] <;> rfl) | (simp [*, errW_none, errW_some] <;> rfl), bl2 HB.out GE179.out GE190.out⟩
  ·replace c22 := Bool.eq_false_iff.mpr c22
   subst c22
   have H1 : ((format_IsZero.f k a0 a1).bind fun t193 => (some (Go.bits .and .u32 a1 t191, false, false, false, false, false, t193))) = some (r1, r2, r3, r4, r5, r6, r7) := by rw [if_neg (show ¬ (false = true) by decide)] at H; exact H
   clear H
   have H := H1
   clear H1
   replace H := Option.bind_eq_some_iff.mp H
   obtain ⟨t193, A330, H⟩ := H
   replace H : (some (Go.bits .and .u32 a1 t191, false, false, false, false, false, t193)) = some (r1, r2, r3, r4, r5, r6, r7) := H
   have A33 := Aside0.mk A330
   clear A330
   simp only [Option.some.injEq, Prod.mk.injEq] at H
   obtain ⟨rfl, rfl, rfl, rfl, rfl, rfl, rfl⟩ := H
   go_enter Try.func54, Try.ntmps54
   go_wp2_with (first | ((with_reducible refine gate_dst (N := 5) rfl ?_); refine box_event ?hg (N := 5) ?hd (cs := F5) (t := 41) ?hr ?_; (case hd => rfl); (case hg => rfl); (case hr => first | (go_simp; done) | (go_simp; rfl)); intro gb179 hg w34 hbox hb; have n0_ := Aside0.mk (below_step (bl0 HB.out) hb); have n1_ := Aside0.mk (hbox); have n2_ := Aside0.mk ((by rw [hg]; exact (below_size (bl0 HB.out)) : w.heap.size ≤ gb179)); have n3_ := n2_; clear HB; have HB := n0_; have BK179 := n1_; have GW179 := n2_; have GE179 := n3_; clear n0_ n1_ n2_ n3_; clear hb hbox hg) | ((with_reducible refine gate_dst (N := 13) rfl ?_); refine Kd.R_lit (Kd.int .u32) _ 22 ?hg (N := 13) ?hd (xs := ([a1] : List Int)) (inner := [.int .u32 a1]) (ok := fun _ => True) (okp := fun _ => True) ?hr ?hp (fun _ hk => hk) trivial (Below.refl _ _) (Nat.le_refl _) (by simp) ?_; (case hd => rfl); (case hg => rfl); (case hr => first | (go_simp; done) | (go_simp; rfl)); (case hp => exact (Reps.one (show Kd.M (Kd.int .u32) _ _ _ a1 [.int .u32 a1] from rfl) (Reps.none _ _))); intro v181 w35 ho36 hb hg_ hnew_; clear hg_ hnew_; (first | rw [← Ny180.out] at ho36 | (simp only [Int.reduceToNat] at ho36; rw [← Ny180.out] at ho36)); have n0_ := Aside0.mk (Kd.R_lower ho36 (below_size (bl1 HB.out GE179.out))); have n1_ := Aside0.mk (blk_below (g := gb179) (o := o5_ false false false false false 41) (bv BK179.out) hb); have n2_ := Aside0.mk (below_step (bl1 HB.out GE179.out) hb); clear BK179; clear HB; have HO182 := n0_; have BK179 := n1_; have HB := n2_; clear n0_ n1_ n2_; clear hb ho36; obtain ⟨Ao37, co37, eo37⟩ := Kd.R_slice HO182.out; subst eo37) | ((with_reducible refine gate_callee (f := 63) rfl ?_); refine goesL_ (some 14) rfl rfl Try.func63 (by kernel_rfl) rfl #[.int .i64 a0, .slice Ao37 y180.length co37] rfl gl ?_; (with_reducible refine (sum_Nans.calls k a0 _ _ y180 t183 t184 t185 t186 t187 t188 false _ ?side1 ?side2 A3.out).mono ?_); (case side1 => repeat (first | exact (Kd.R_reads' HO182.out).2.2 | (with_reducible refine Kd.C_alloc ?_ _) | (with_reducible refine Kd.C_drewN ?_ _) | (with_reducible refine Kd.C_drew ?_))); (case side2 => exact (Kd.R_reads' HO182.out).2.1); rintro e w38 ⟨rfl, hb⟩; refine ⟨_, rfl, ?_⟩; have n0_ := Aside0.mk (Kd.R_below (by (with_reducible repeat (first | apply Kd.R_alloc | apply Kd.R_drewN | apply Kd.R_drew)); exact HO182.out) hb); have n1_ := Aside0.mk (blk_below (g := gb179) (o := o5_ false false false false false 41) (bv BK179.out) hb); have n2_ := Aside0.mk (below_step (bl1 HB.out GE179.out) hb); clear HO182; clear BK179; clear HB; have HO182 := n0_; have BK179 := n1_; have HB := n2_; clear n0_ n1_ n2_) | ((with_reducible refine gate_dst (N := 8) rfl ?_); refine box_event ?hg (N := 8) ?hd (cs := F5) (t := 41) ?hr ?_; (case hd => rfl); (case hg => rfl); (case hr => first | (go_simp; done) | (go_simp; rfl)); intro gb190 hg w39 hbox hb; have n0_ := Aside0.mk (Kd.R_below (by (with_reducible repeat (first | apply Kd.R_alloc | apply Kd.R_drewN | apply Kd.R_drew)); exact HO182.out) hb); have n1_ := Aside0.mk (blk_below (g := gb179) (o := o5_ false false false false false 41) (bv BK179.out) hb); have n2_ := Aside0.mk (below_step (bl1 HB.out GE179.out) hb); have n3_ := Aside0.mk (hbox); have n4_ := Aside0.mk ((by rw [hg]; exact (below_size (bl1 HB.out GE179.out)) : w.heap.size ≤ gb190)); have n5_ := n4_; have n6_ := Aside0.mk ((by rw [hg]; exact Nat.ne_of_lt (blk_lt (g := gb179) (o := .cells F5 41 (0, 0)) (bv BK179.out)) : gb179 ≠ gb190)); have n7_ := Aside0.mk (Ne.symm n6_.out); clear HO182; clear BK179; clear HB; have HO182 := n0_; have BK179 := n1_; have HB := n2_; have BK190 := n3_; have GW190 := n4_; have GE190 := n5_; have NB179_190 := n6_; have NB190_179 := n7_; clear n0_ n1_ n2_ n3_ n4_ n5_ n6_ n7_; clear hb hbox hg; have hnb40 := NB190_179.out; have hnc40 := NB179_190.out; obtain ⟨hcz41_0, hcz41_1, hcz41_2, hcz41_3, hcz41_4⟩ := bc5 BK190.out; obtain ⟨hfz41_0, hfz41_1, hfz41_2, hfz41_3, hfz41_4⟩ := bf5 BK190.out) | ((with_reducible refine gate_store (t := 41) (p := 8) rfl ?_); refine store_event (t := 41) (p := 8) (v := ?vo_w42) (w1 := (((((w39.setCell ⟨gb190, 0, none⟩ (.bool t184)).setCell ⟨gb190, 1, none⟩ (.bool t185)).setCell ⟨gb190, 2, none⟩ (.bool t186)).setCell ⟨gb190, 3, none⟩ (.bool t187)).setCell ⟨gb190, 4, none⟩ (.bool t188))) ?hg ?ho ?hn ?hr ?_; (case ho => rfl); (case hg => rfl); (case hn => rfl); (case hr => first | (go_simp; done) | (go_simp; rfl)); intro w42 hw; have n0_ : Aside0 (Kd.R (Kd.int .u32) 22 w42 w.heap.size (fun _ => True) (.slice Ao37 y180.length co37) y180) := ⟨(by rw [hw]; exact (by (with_reducible repeat (first | apply Kd.R_alloc | apply Kd.R_drewN | apply Kd.R_drew)); exact Kd.R_mono (Kd.R_far (p := ⟨gb190, 4, none⟩) (Kd.R_far (p := ⟨gb190, 3, none⟩) (Kd.R_far (p := ⟨gb190, 2, none⟩) (Kd.R_far (p := ⟨gb190, 1, none⟩) (Kd.R_far (p := ⟨gb190, 0, none⟩) (Kd.R_types HO182.out BK190.out (by decide)) (fun _ hk => hk.2) (.bool t184)) (fun _ hk => hk.2) (.bool t185)) (fun _ hk => hk.2) (.bool t186)) (fun _ hk => hk.2) (.bool t187)) (fun _ hk => hk.2) (.bool t188)) (fun _ hk => trivial)))⟩; have n1_ : Aside0 (w42.heap[gb179]? = some (o5_ false false false false false 41)) := ⟨(by rw [hw]; exact (by (with_reducible repeat first | apply bd | apply be | apply ba); refine blk_far ?_ NB179_190.out _; (with_reducible repeat first | apply bd | apply be | apply ba); refine blk_far ?_ NB179_190.out _; (with_reducible repeat first | apply bd | apply be | apply ba); refine blk_far ?_ NB179_190.out _; (with_reducible repeat first | apply bd | apply be | apply ba); refine blk_far ?_ NB179_190.out _; (with_reducible repeat first | apply bd | apply be | apply ba); refine blk_far ?_ NB179_190.out _; (with_reducible repeat first | apply bd | apply be | apply ba); exact BK179.out))⟩; have n2_ : Aside0 (w42.heap[gb190]? = some (o5_ t184 t185 t186 t187 t188 41)) := ⟨(by rw [hw]; exact (by (with_reducible repeat first | apply bd | apply be | apply ba); refine blk_put (cs := q5_ t184 t185 t186 t187 false) ?_ 4 _ rfl; (with_reducible repeat first | apply bd | apply be | apply ba); refine blk_put (cs := q5_ t184 t185 t186 false false) ?_ 3 _ rfl; (with_reducible repeat first | apply bd | apply be | apply ba); refine blk_put (cs := q5_ t184 t185 false false false) ?_ 2 _ rfl; (with_reducible repeat first | apply bd | apply be | apply ba); refine blk_put (cs := q5_ t184 false false false false) ?_ 1 _ rfl; (with_reducible repeat first | apply bd | apply be | apply ba); refine blk_put (cs := F5) ?_ 0 _ rfl; (with_reducible repeat first | apply bd | apply be | apply ba); exact BK190.out))⟩; have n3_ : Aside0 (Below w.heap.size w w42) := ⟨(by rw [hw]; exact (bl2 HB.out GE179.out GE190.out))⟩; clear hw; clear HO182; clear BK179; clear BK190; clear HB; have HO182 := n0_; have BK179 := n1_; have BK190 := n2_; have HB := n3_; clear n0_ n1_ n2_ n3_) | ((with_reducible refine gate_callee (f := 80) rfl ?_); refine goesL_ (some 23) rfl rfl Try.func80 (by kernel_rfl) rfl #[.int .i64 a0] rfl gl ?_; (with_reducible refine (format_Mask.calls a0 t191 _ A20.out).mono ?_); rintro e w' ⟨rfl, ⟨nd, rfl⟩⟩; refine ⟨_, rfl, ?_⟩; (try (rw [drewN_self w42]; generalize hq_ : World.drewN w42 _ = w42; have n0_ : Aside0 (Kd.R (Kd.int .u32) 22 w42 w.heap.size (fun _ => True) (.slice Ao37 y180.length co37) y180) := ⟨by rw [← hq_]; exact (by (with_reducible repeat (first | apply Kd.R_alloc | apply Kd.R_drewN | apply Kd.R_drew)); exact HO182.out)⟩; have n1_ : Aside0 (w42.heap[gb179]? = some (o5_ false false false false false 41)) := ⟨by rw [← hq_]; exact (bv BK179.out)⟩; have n2_ : Aside0 (w42.heap[gb190]? = some (o5_ t184 t185 t186 t187 t188 41)) := ⟨by rw [← hq_]; exact (bv BK190.out)⟩; have n3_ : Aside0 (Below w.heap.size w w42) := ⟨by rw [← hq_]; exact (bl2 HB.out GE179.out GE190.out)⟩; clear HO182 BK179 BK190 HB hq_; have HO182 := n0_; have BK179 := n1_; have BK190 := n2_; have HB := n3_; clear n0_ n1_ n2_ n3_))) | ((with_reducible refine gate_callee (f := 75) rfl ?_); refine goesL_ (some 28) rfl rfl Try.func75 (by kernel_rfl) rfl #[.int .i64 a0, .int .u32 a1] rfl gl ?_; (with_reducible refine (format_IsInf.calls k a0 a1 false _ A21.out).mono ?_); rintro e w' ⟨rfl, ⟨nd, rfl⟩⟩; refine ⟨_, rfl, ?_⟩; (try (rw [drewN_self w42]; generalize hq_ : World.drewN w42 _ = w42; have n0_ : Aside0 (Kd.R (Kd.int .u32) 22 w42 w.heap.size (fun _ => True) (.slice Ao37 y180.length co37) y180) := ⟨by rw [← hq_]; exact (by (with_reducible repeat (first | apply Kd.R_alloc | apply Kd.R_drewN | apply Kd.R_drew)); exact HO182.out)⟩; have n1_ : Aside0 (w42.heap[gb179]? = some (o5_ false false false false false 41)) := ⟨by rw [← hq_]; exact (bv BK179.out)⟩; have n2_ : Aside0 (w42.heap[gb190]? = some (o5_ t184 t185 t186 t187 t188 41)) := ⟨by rw [← hq_]; exact (bv BK190.out)⟩; have n3_ : Aside0 (Below w.heap.size w w42) := ⟨by rw [← hq_]; exact (bl2 HB.out GE179.out GE190.out)⟩; clear HO182 BK179 BK190 HB hq_; have HO182 := n0_; have BK179 := n1_; have BK190 := n2_; have HB := n3_; clear n0_ n1_ n2_ n3_))) | (go_at_call 74; (with_reducible refine (format_IsZero.calls k a0 a1 t193 _ A33.out).mono ?_); rintro e w' ⟨rfl, ⟨nd, rfl⟩⟩; (try (rw [drewN_self w42]; generalize hq_ : World.drewN w42 _ = w42; have n0_ : Aside0 (Kd.R (Kd.int .u32) 22 w42 w.heap.size (fun _ => True) (.slice Ao37 y180.length co37) y180) := ⟨by rw [← hq_]; exact (by (with_reducible repeat (first | apply Kd.R_alloc | apply Kd.R_drewN | apply Kd.R_drew)); exact HO182.out)⟩; have n1_ : Aside0 (w42.heap[gb179]? = some (o5_ false false false false false 41)) := ⟨by rw [← hq_]; exact (bv BK179.out)⟩; have n2_ : Aside0 (w42.heap[gb190]? = some (o5_ t184 t185 t186 t187 t188 41)) := ⟨by rw [← hq_]; exact (bv BK190.out)⟩; have n3_ : Aside0 (Below w.heap.size w w42) := ⟨by rw [← hq_]; exact (bl2 HB.out GE179.out GE190.out)⟩; clear HO182 BK179 BK190 HB hq_; have HO182 := n0_; have BK179 := n1_; have BK190 := n2_; have HB := n3_; clear n0_ n1_ n2_ n3_)); obtain ⟨hcz43_0, hcz43_1, hcz43_2, hcz43_3, hcz43_4⟩ := bc5 BK179.out; obtain ⟨hfz43_0, hfz43_1, hfz43_2, hfz43_3, hfz43_4⟩ := bf5 BK179.out))
   refine bodyPost_ret (results_list (rs := [.tmp 4, .cell 5 41, .tmp 6]) rfl (by simp) (.tmp (.cell gb179 41 #[.bool false, .bool false, .bool false, .bool false, .bool false] (0, 0) _ rfl (by (with_reducible repeat first | apply bd | apply be | apply ba); refine blk_put (cs := F5) ?_ 4 _ rfl; (with_reducible repeat first | apply bd | apply be | apply ba); refine blk_put (cs := F5) ?_ 3 _ rfl; (with_reducible repeat first | apply bd | apply be | apply ba); refine blk_put (cs := F5) ?_ 2 _ rfl; (with_reducible repeat first | apply bd | apply be | apply ba); refine blk_put (cs := F5) ?_ 1 _ rfl; (with_reducible repeat first | apply bd | apply be | apply ba); refine blk_put (cs := F5) ?_ 0 _ rfl; (with_reducible repeat first | apply bd | apply be | apply ba); exact BK179.out) Try.underlying41 rfl (by kernel_rfl) (.tmp .nil)))) rfl ?_
   exact ⟨by first | rfl | (simp [errW_none, errW_some] <;> rfl) | (simp [*, errW_none, errW_some] <;> rfl), bl2 HB.out GE179.out GE190.out⟩

/-! ### format_Unpack: function 95 -/
def format_Unpack.f (a0 : Int) (a1 : Int) : Option (Bool × Int × Int) := (format_Widths.f a0).bind fun bt194 => ((format_Parts.f a0 a1).bind fun bt196 => (if bt196.2.1 = 0 then ((format_Least.f a0).bind fun t199 => (some (bt196.1, wrap64 (t199 - bt194.2), IntKind.u64.wrap (bt196.2.2)))) else ((format_Top.f a0).bind fun t200 => (if bt196.2.1 = t200 then (some (bt196.1, 0, 0)) else ((format_Least.f a0).bind fun t201 => (if 0 ≤ (IntKind.u64.wrap (bt194.2)) then (some (bt196.1, wrap64 ((wrap64 ((wrap64 (t201 - bt194.2)) + bt196.2.1)) - 1), Go.bits .or .u64 (IntKind.u64.wrap (bt196.2.2)) (shl .u64 1 (IntKind.u64.wrap (bt194.2))))) else (none)))))))
set_option maxHeartbeats 8000000 in
set_option maxRecDepth 100000 in
theorem format_Unpack.calls (a0 : Int) (a1 : Int) (r1 : Bool) (r2 : Int) (r3 : Int) (w : World) (h : format_Unpack.f a0 a1 = some (r1, r2, r3)) :
  Calls Try.prog 95 #[.int .i64 a0, .int .u32 a1] w fun e w' => e = .returned (.tuple #[.bool r1, .int .i64 r2, .int .u64 r3]) ∧ Drawn0 w w' := by
 have H : ((format_Widths.f a0).bind fun bt194 => ((format_Parts.f a0 a1).bind fun bt196 => (if bt196.2.1 = 0 then ((format_Least.f a0).bind fun t199 => (some (bt196.1, wrap64 (t199 - bt194.2), IntKind.u64.wrap (bt196.2.2)))) else ((format_Top.f a0).bind fun t200 => (if bt196.2.1 = t200 then (some (bt196.1, 0, 0)) else ((format_Least.f a0).bind fun t201 => (if 0 ≤ (IntKind.u64.wrap (bt194.2)) then (some (bt196.1, wrap64 ((wrap64 ((wrap64 (t201 - bt194.2)) + bt196.2.1)) - 1), Go.bits .or .u64 (IntKind.u64.wrap (bt196.2.2)) (shl .u64 1 (IntKind.u64.wrap (bt194.2))))) else (none)))))))) = some (r1, r2, r3) := h
 clear h
 replace H := Option.bind_eq_some_iff.mp H
 obtain ⟨⟨t194, t195⟩, A30, H⟩ := H
 replace H : ((format_Parts.f a0 a1).bind fun bt196 => (if bt196.2.1 = 0 then ((format_Least.f a0).bind fun t199 => (some (bt196.1, wrap64 (t199 - t195), IntKind.u64.wrap (bt196.2.2)))) else ((format_Top.f a0).bind fun t200 => (if bt196.2.1 = t200 then (some (bt196.1, 0, 0)) else ((format_Least.f a0).bind fun t201 => (if 0 ≤ (IntKind.u64.wrap (t195)) then (some (bt196.1, wrap64 ((wrap64 ((wrap64 (t201 - t195)) + bt196.2.1)) - 1), Go.bits .or .u64 (IntKind.u64.wrap (bt196.2.2)) (shl .u64 1 (IntKind.u64.wrap (t195))))) else (none))))))) = some (r1, r2, r3) := H
 have A3 := Aside0.mk A30
 clear A30
 replace H := Option.bind_eq_some_iff.mp H
 obtain ⟨⟨t196, t197, t198⟩, A40, H⟩ := H
 replace H : (if t197 = 0 then ((format_Least.f a0).bind fun t199 => (some (t196, wrap64 (t199 - t195), IntKind.u64.wrap (t198)))) else ((format_Top.f a0).bind fun t200 => (if t197 = t200 then (some (t196, 0, 0)) else ((format_Least.f a0).bind fun t201 => (if 0 ≤ (IntKind.u64.wrap (t195)) then (some (t196, wrap64 ((wrap64 ((wrap64 (t201 - t195)) + t197)) - 1), Go.bits .or .u64 (IntKind.u64.wrap (t198)) (shl .u64 1 (IntKind.u64.wrap (t195))))) else (none)))))) = some (r1, r2, r3) := H
 have A4 := Aside0.mk A40
 clear A40
 by_cases c5 : t197 = 0
 ·rw [if_pos c5] at H
  have c5b0 : (t197 == 0) = true := beq_iff_eq.mpr c5
  have c5b1 : (t197 != 0) = false := bne_eq_false_iff_eq.mpr c5
  clear c5
  replace H := Option.bind_eq_some_iff.mp H
  obtain ⟨t199, A60, H⟩ := H
  replace H : (some (t196, wrap64 (t199 - t195), IntKind.u64.wrap (t198))) = some (r1, r2, r3) := H
  have A6 := Aside0.mk A60
  clear A60
  simp only [Option.some.injEq, Prod.mk.injEq] at H
  obtain ⟨rfl, rfl, rfl⟩ := H
  go_enter Try.func95, Try.ntmps95
  go_wp2_with (first | ((with_reducible refine gate_callee (f := 81) rfl ?_); refine goesL_ (some 14) rfl rfl Try.func81 (by kernel_rfl) rfl #[.int .i64 a0] rfl gl ?_; (with_reducible refine (format_Widths.calls a0 t194 t195 _ A3.out).mono ?_); rintro e w' ⟨rfl, ⟨nd, rfl⟩⟩; refine ⟨_, rfl, ?_⟩) | ((with_reducible refine gate_callee (f := 98) rfl ?_); refine goesL_ (some 20) rfl rfl Try.func98 (by kernel_rfl) rfl #[.int .i64 a0, .int .u32 a1] rfl gl ?_; (with_reducible refine (format_Parts.calls a0 a1 t196 t197 t198 _ A4.out).mono ?_); rintro e w' ⟨rfl, ⟨nd, rfl⟩⟩; refine ⟨_, rfl, ?_⟩) | ((with_reducible refine gate_callee (f := 85) rfl ?_); refine goesL_ (some 29) rfl rfl Try.func85 (by kernel_rfl) rfl #[.int .i64 a0] rfl gl ?_; (with_reducible refine (format_Least.calls a0 t199 _ A6.out).mono ?_); rintro e w' ⟨rfl, ⟨nd, rfl⟩⟩; refine ⟨_, rfl, ?_⟩))
  go_ret3
  exact ⟨by first | rfl | (simp; done) | (simp [*]; done) | (congr 1; (try unfold wrap64); omega) | (congr 1; rw [IntKind.wrap_u64]; omega), by repeat (first | exact Drawn0.refl _ | apply Drawn0.step)⟩
 ·rw [if_neg c5] at H
  have c5b0 : (t197 == 0) = false := beq_eq_false_iff_ne.mpr c5
  have c5b1 : (t197 != 0) = true := bne_iff_ne.mpr c5
  replace H := Option.bind_eq_some_iff.mp H
  obtain ⟨t200, A70, H⟩ := H
  replace H : (if t197 = t200 then (some (t196, 0, 0)) else ((format_Least.f a0).bind fun t201 => (if 0 ≤ (IntKind.u64.wrap (t195)) then (some (t196, wrap64 ((wrap64 ((wrap64 (t201 - t195)) + t197)) - 1), Go.bits .or .u64 (IntKind.u64.wrap (t198)) (shl .u64 1 (IntKind.u64.wrap (t195))))) else (none)))) = some (r1, r2, r3) := H
  have A7 := Aside0.mk A70
  clear A70
  by_cases c8 : t197 = t200
  ·rw [if_pos c8] at H
   have c8b0 : (t197 == t200) = true := beq_iff_eq.mpr c8
   have c8b1 : (t197 != t200) = false := bne_eq_false_iff_eq.mpr c8
   clear c8
   simp only [Option.some.injEq, Prod.mk.injEq] at H
   obtain ⟨rfl, rfl, rfl⟩ := H
   go_enter Try.func95, Try.ntmps95
   go_wp2_with (first | ((with_reducible refine gate_callee (f := 81) rfl ?_); refine goesL_ (some 14) rfl rfl Try.func81 (by kernel_rfl) rfl #[.int .i64 a0] rfl gl ?_; (with_reducible refine (format_Widths.calls a0 t194 t195 _ A3.out).mono ?_); rintro e w' ⟨rfl, ⟨nd, rfl⟩⟩; refine ⟨_, rfl, ?_⟩) | ((with_reducible refine gate_callee (f := 98) rfl ?_); refine goesL_ (some 20) rfl rfl Try.func98 (by kernel_rfl) rfl #[.int .i64 a0, .int .u32 a1] rfl gl ?_; (with_reducible refine (format_Parts.calls a0 a1 t196 t197 t198 _ A4.out).mono ?_); rintro e w' ⟨rfl, ⟨nd, rfl⟩⟩; refine ⟨_, rfl, ?_⟩) | ((with_reducible refine gate_callee (f := 86) rfl ?_); refine goesL_ (some 36) rfl rfl Try.func86 (by kernel_rfl) rfl #[.int .i64 a0] rfl gl ?_; (with_reducible refine (format_Top.calls a0 t200 _ A7.out).mono ?_); rintro e w' ⟨rfl, ⟨nd, rfl⟩⟩; refine ⟨_, rfl, ?_⟩))
   go_ret3
   exact ⟨by first | rfl | (simp; done) | (simp [*]; done) | (congr 1; (try unfold wrap64); omega) | (congr 1; rw [IntKind.wrap_u64]; omega), by repeat (first | exact Drawn0.refl _ | apply Drawn0.step)⟩
  ·rw [if_neg c8] at H
   have c8b0 : (t197 == t200) = false := beq_eq_false_iff_ne.mpr c8
   have c8b1 : (t197 != t200) = true := bne_iff_ne.mpr c8
   replace H := Option.bind_eq_some_iff.mp H
   obtain ⟨t201, A90, H⟩ := H
   replace H : (if 0 ≤ (IntKind.u64.wrap (t195)) then (some (t196, wrap64 ((wrap64 ((wrap64 (t201 - t195)) + t197)) - 1), Go.bits .or .u64 (IntKind.u64.wrap (t198)) (shl .u64 1 (IntKind.u64.wrap (t195))))) else (none)) = some (r1, r2, r3) := H
   have A9 := Aside0.mk A90
   clear A90
   obtain ⟨ji10, hji10⟩ : ∃ j_ : Int, (IntKind.u64.wrap (t195)) = j_ := ⟨_, rfl⟩
   replace H : (if 0 ≤ (ji10) then (some (t196, wrap64 ((wrap64 ((wrap64 (t201 - t195)) + t197)) - 1), Go.bits .or .u64 (IntKind.u64.wrap (t198)) (shl .u64 1 (ji10)))) else (none)) = some (r1, r2, r3) := by first | (rw [hji10] at H; exact H) | (simp only [hji10] at H ⊢; exact H)
   (try rw [hji10] at A3)
   (try rw [hji10] at A4)
   (try rw [hji10] at A7)
   (try rw [hji10] at A9)
   by_cases c11 : 0 ≤ (ji10)
   ·rw [if_pos c11] at H
    have c11b0 := eq_true c11
    have c11b1 : decide (0 ≤ (ji10)) = true := decide_eq_true c11
    clear c11
    obtain ⟨ji12, hji12⟩ : ∃ j_ : Int, (shl .u64 1 (ji10)) = j_ := ⟨_, rfl⟩
    replace H : (some (t196, wrap64 ((wrap64 ((wrap64 (t201 - t195)) + t197)) - 1), Go.bits .or .u64 (IntKind.u64.wrap (t198)) (ji12))) = some (r1, r2, r3) := by first | (rw [hji12] at H; exact H) | (simp only [hji12] at H ⊢; exact H)
    (try rw [hji12] at A3)
    (try rw [hji12] at A4)
    (try rw [hji12] at A7)
    (try rw [hji12] at A9)
    have hji12_ : (IntKind.u64.wrap (1 * 2 ^ min (ji10).toNat 64)) = ji12 := hji12
    have hji12z : (ji10) ≤ 64 → (IntKind.u64.wrap (1 * 2 ^ (ji10).toNat)) = ji12 := shl_small hji12
    have hji12u : (IntKind.u64.wrap (2 ^ min (ji10).toNat 64)) = ji12 := by have h_ := hji12_; rw [Int.one_mul] at h_; exact h_
    have hji12v : (ji10) ≤ 64 → (IntKind.u64.wrap (2 ^ (ji10).toNat)) = ji12 := fun hle_ => by have h_ := hji12z hle_; rw [Int.one_mul] at h_; exact h_
    simp only [Option.some.injEq, Prod.mk.injEq] at H
    obtain ⟨rfl, rfl, rfl⟩ := H
    go_enter Try.func95, Try.ntmps95
    go_wp2_with (first | ((with_reducible refine gate_callee (f := 81) rfl ?_); refine goesL_ (some 14) rfl rfl Try.func81 (by kernel_rfl) rfl #[.int .i64 a0] rfl gl ?_; (with_reducible refine (format_Widths.calls a0 t194 t195 _ A3.out).mono ?_); rintro e w' ⟨rfl, ⟨nd, rfl⟩⟩; refine ⟨_, rfl, ?_⟩) | ((with_reducible refine gate_callee (f := 98) rfl ?_); refine goesL_ (some 20) rfl rfl Try.func98 (by kernel_rfl) rfl #[.int .i64 a0, .int .u32 a1] rfl gl ?_; (with_reducible refine (format_Parts.calls a0 a1 t196 t197 t198 _ A4.out).mono ?_); rintro e w' ⟨rfl, ⟨nd, rfl⟩⟩; refine ⟨_, rfl, ?_⟩) | ((with_reducible refine gate_callee (f := 86) rfl ?_); refine goesL_ (some 36) rfl rfl Try.func86 (by kernel_rfl) rfl #[.int .i64 a0] rfl gl ?_; (with_reducible refine (format_Top.calls a0 t200 _ A7.out).mono ?_); rintro e w' ⟨rfl, ⟨nd, rfl⟩⟩; refine ⟨_, rfl, ?_⟩) | ((with_reducible refine gate_callee (f := 85) rfl ?_); refine goesL_ (some 41) rfl rfl Try.func85 (by kernel_rfl) rfl #[.int .i64 a0] rfl gl ?_; (with_reducible refine (format_Least.calls a0 t201 _ A9.out).mono ?_); rintro e w' ⟨rfl, ⟨nd, rfl⟩⟩; refine ⟨_, rfl, ?_⟩))
    go_ret3
    exact ⟨by first | rfl | (simp; done) | (simp only [← hji10, ← hji12] <;> (first | rfl | (simp; done))) | (simp [*]; done) | (congr 1; (try unfold wrap64); omega) | (congr 1; rw [IntKind.wrap_u64]; omega), by repeat (first | exact Drawn0.refl _ | apply Drawn0.step)⟩
   ·rw [if_neg c11] at H
    exact absurd H (by simp)

/-! ### sum_Of: function 55 -/
def sum_Of.f (a0 : Int) (a1 : Int) : Option (Bool × Int × Int × Bool) := (format_Unpack.f a0 a1).bind fun bt203 => (some (bt203.1, bt203.2.1, bt203.2.2, false))
set_option maxHeartbeats 8000000 in
set_option maxRecDepth 100000 in
theorem sum_Of.calls (a0 : Int) (a1 : Int) (r1 : Bool) (r2 : Int) (r3 : Int) (r4 : Bool) (w : World) (h : sum_Of.f a0 a1 = some (r1, r2, r3, r4)) :
  Calls Try.prog 55 #[.int .i64 a0, .int .u32 a1] w fun e w' => e = .returned (.agg #[.bool r1, .int .i64 r2, .int .u64 r3, .bool r4]) ∧ Below w.heap.size w w' := by
 have hu75 := Try.underlying75
 have HB := Aside0.mk (Below.refl w.heap.size w)
 have H : ((format_Unpack.f a0 a1).bind fun bt203 => (some (bt203.1, bt203.2.1, bt203.2.2, false))) = some (r1, r2, r3, r4) := h
 clear h
 replace H := Option.bind_eq_some_iff.mp H
 obtain ⟨⟨t203, t204, t205⟩, A30, H⟩ := H
 replace H : (some (t203, t204, t205, false)) = some (r1, r2, r3, r4) := H
 have A3 := Aside0.mk A30
 clear A30
 simp only [Option.some.injEq, Prod.mk.injEq] at H
 obtain ⟨rfl, rfl, rfl, rfl⟩ := H
 go_enter Try.func55, Try.ntmps55
 go_wp2_with (first | ((with_reducible refine gate_dst (N := 4) rfl ?_); refine box_event ?hg (N := 4) ?hd (cs := #[.bool false, .int .i64 0, .int .u64 0, .bool false]) (t := 75) ?hr ?_; (case hd => rfl); (case hg => rfl); (case hr => first | (go_simp; done) | (go_simp; rfl)); intro gb202 hg w4 hbox hb; have n0_ := Aside0.mk (below_step (bl0 HB.out) hb); have n1_ := Aside0.mk (hbox); have n2_ := Aside0.mk ((by rw [hg]; exact (below_size (bl0 HB.out)) : w.heap.size ≤ gb202)); have n3_ := n2_; clear HB; have HB := n0_; have BK202 := n1_; have GW202 := n2_; have GE202 := n3_; clear n0_ n1_ n2_ n3_; clear hb hbox hg) | ((with_reducible refine gate_callee (f := 95) rfl ?_); refine goesL_ (some 11) rfl rfl Try.func95 (by kernel_rfl) rfl #[.int .i64 a0, .int .u32 a1] rfl gl ?_; (with_reducible refine (format_Unpack.calls a0 a1 t203 t204 t205 _ A3.out).mono ?_); rintro e w' ⟨rfl, ⟨nd, rfl⟩⟩; refine ⟨_, rfl, ?_⟩; (try (rw [drewN_self w4]; generalize hq_ : World.drewN w4 _ = w4; have n0_ : Aside0 (w4.heap[gb202]? = some (.cells #[.bool false, .int .i64 0, .int .u64 0, .bool false] 75 (0, 0))) := ⟨by rw [← hq_]; exact (bv BK202.out)⟩; have n1_ : Aside0 (Below w.heap.size w w4) := ⟨by rw [← hq_]; exact (bl1 HB.out GE202.out)⟩; clear BK202 HB hq_; have BK202 := n0_; have HB := n1_; clear n0_ n1_)); obtain ⟨hcz5_0, hcz5_1, hcz5_2, hcz5_3⟩ := bc4 BK202.out; obtain ⟨hfz5_0, hfz5_1, hfz5_2, hfz5_3⟩ := bf4 BK202.out))
 refine bodyPost_ret (results_cell_row rfl _ _ gb202 75 #[.bool t203, .int .i64 t204, .int .u64 t205, .bool false] (0, 0) _ rfl (by (with_reducible repeat first | apply bd | apply be | apply ba); refine blk_put (cs := #[.bool t203, .int .i64 t204, .int .u64 t205, .bool false]) ?_ 3 _ rfl; (with_reducible repeat first | apply bd | apply be | apply ba); refine blk_put (cs := #[.bool t203, .int .i64 t204, .int .u64 0, .bool false]) ?_ 2 _ rfl; (with_reducible repeat first | apply bd | apply be | apply ba); refine blk_put (cs := #[.bool t203, .int .i64 0, .int .u64 0, .bool false]) ?_ 1 _ rfl; (with_reducible repeat first | apply bd | apply be | apply ba); refine blk_put (cs := #[.bool false, .int .i64 0, .int .u64 0, .bool false]) ?_ 0 _ rfl; (with_reducible repeat first | apply bd | apply be | apply ba); exact BK202.out) Try.underlying75 rfl (by kernel_rfl)) rfl ?_
 exact ⟨by first | rfl | (simp [errW_none, errW_some] <;> rfl) | (simp [*, errW_none, errW_some] <;> rfl), bl1 HB.out GE202.out⟩


/-! ### whole_Scale: function 28 -/
def whole_Scale.f (k : Nat) (a0 : Int) (a1 : Int) (a2 : Int) (a3 : Int) : Option (Int × Bool × Bool × Bool × Bool × Bool) := (whole_apart.f k a0 a2).bind fun bt207 => (if bt207.2.2.2.2.2.2 = true then (some (bt207.1, bt207.2.1, bt207.2.2.1, bt207.2.2.2.1, bt207.2.2.2.2.1, bt207.2.2.2.2.2.1)) else ((sum_Of.f a0 a2).bind fun bt215 => ((round_Pack.f k a0 a1 bt215.1 (wrap64 (bt215.2.1 + (mn (mx a3 (-5000)) 5000))) bt215.2.2.1 false).bind fun bt220 => (some (bt220.1, bt220.2.1, bt220.2.2.1, bt220.2.2.2.1, bt220.2.2.2.2.1, bt220.2.2.2.2.2)))))
theorem whole_Scale.mono : ∀ a0 a1 a2 a3 k, LeO (whole_Scale.f k a0 a1 a2 a3) (whole_Scale.f (k + 1) a0 a1 a2 a3) := by
 intro a0 a1 a2 a3 k
 unfold whole_Scale.f
 repeat' first
   |(with_reducible exact round_Pack.mono _ _ _ _ _ _ _)
   |(with_reducible exact whole_apart.mono _ _ _)
   |(with_reducible exact LeO.refl _)
   |(with_reducible exact LeO.none _)
   |(with_reducible refine LeO.ite ?_ ?_)
   |(with_reducible refine LeO.bind ?_ (fun _ => ?_))
   |exact round_Pack.mono _ _ _ _ _ _ _
   |exact whole_apart.mono _ _ _
   |exact LeO.none _
   |refine LeO.ite ?_ ?_
   |refine LeO.bind ?_ (fun _ => ?_)
set_option maxHeartbeats 8000000 in
set_option maxRecDepth 100000 in
theorem whole_Scale.calls (k : Nat) (a0 : Int) (a1 : Int) (a2 : Int) (a3 : Int) (r1 : Int) (r2 : Bool) (r3 : Bool) (r4 : Bool) (r5 : Bool) (r6 : Bool) (w : World) (h : whole_Scale.f k a0 a1 a2 a3 = some (r1, r2, r3, r4, r5, r6)) :
  Calls Try.prog 28 #[.int .i64 a0, .int .i64 a1, .int .u32 a2, .int .i64 a3] w fun e w' => e = .returned (.tuple #[.int .u32 r1, .agg #[.bool r2, .bool r3, .bool r4, .bool r5, .bool r6]]) ∧ Below w.heap.size w w' := by
 have hu41 := Try.underlying41
 have hu75 := Try.underlying75
 have HB := Aside0.mk (Below.refl w.heap.size w)
 have H : ((whole_apart.f k a0 a2).bind fun bt207 => (if bt207.2.2.2.2.2.2 = true then (some (bt207.1, bt207.2.1, bt207.2.2.1, bt207.2.2.2.1, bt207.2.2.2.2.1, bt207.2.2.2.2.2.1)) else ((sum_Of.f a0 a2).bind fun bt215 => ((round_Pack.f k a0 a1 bt215.1 (wrap64 (bt215.2.1 + (mn (mx a3 (-5000)) 5000))) bt215.2.2.1 false).bind fun bt220 => (some (bt220.1, bt220.2.1, bt220.2.2.1, bt220.2.2.2.1, bt220.2.2.2.2.1, bt220.2.2.2.2.2)))))) = some (r1, r2, r3, r4, r5, r6) := h
 clear h
 replace H := Option.bind_eq_some_iff.mp H
 obtain ⟨⟨t207, t208, t209, t210, t211, t212, t213⟩, A50, H⟩ := H
 replace H : (if t213 = true then (some (t207, t208, t209, t210, t211, t212)) else ((sum_Of.f a0 a2).bind fun bt215 => ((round_Pack.f k a0 a1 bt215.1 (wrap64 (bt215.2.1 + (mn (mx a3 (-5000)) 5000))) bt215.2.2.1 false).bind fun bt220 => (some (bt220.1, bt220.2.1, bt220.2.2.1, bt220.2.2.2.1, bt220.2.2.2.2.1, bt220.2.2.2.2.2))))) = some (r1, r2, r3, r4, r5, r6) := H
 have A5 := Aside0.mk A50
 clear A50
 by_cases c6 : t213 = true
 ·subst c6
  have H1 : (some (t207, t208, t209, t210, t211, t212)) = some (r1, r2, r3, r4, r5, r6) := by rw [if_pos rfl] at H; exact H
  clear H
  have H := H1
  clear H1
  simp only [Option.some.injEq, Prod.mk.injEq] at H
  obtain ⟨rfl, rfl, rfl, rfl, rfl, rfl⟩ := H
  go_enter Try.func28, Try.ntmps28
  try go_wp2_with (first | ((with_reducible refine gate_dst (N := 9) rfl ?_); refine box_event ?hg (N := 9) ?hd (cs := F5) (t := 41) ?hr ?_; (case hd => rfl); (case hg => rfl); (case hr => first | (go_simp; done) | (go_simp; rfl)); intro gb206 hg w7 hbox hb; have n0_ := Aside0.mk (below_step (bl0 HB.out) hb); have n1_ := Aside0.mk (hbox); have n2_ := Aside0.mk ((by rw [hg]; exact (below_size (bl0 HB.out)) : w.heap.size ≤ gb206)); have n3_ := n2_; clear HB; have HB := n0_; have BK206 := n1_; have GW206 := n2_; have GE206 := n3_; clear n0_ n1_ n2_ n3_; clear hb hbox hg) | ((with_reducible refine gate_callee (f := 54) rfl ?_); refine goesL_ (some 17) rfl rfl Try.func54 (by kernel_rfl) rfl #[.int .i64 a0, .int .u32 a2] rfl gl ?_; (with_reducible refine (whole_apart.calls k a0 a2 t207 t208 t209 t210 t211 t212 true _ A5.out).mono ?_); rintro e w8 ⟨rfl, hb⟩; refine ⟨_, rfl, ?_⟩; have n0_ := Aside0.mk (blk_below (g := gb206) (o := o5_ false false false false false 41) (bv BK206.out) hb); have n1_ := Aside0.mk (below_step (bl1 HB.out GE206.out) hb); clear BK206; clear HB; have BK206 := n0_; have HB := n1_; clear n0_ n1_) | ((with_reducible refine gate_dst (N := 11) rfl ?_); refine box_event ?hg (N := 11) ?hd (cs := F5) (t := 41) ?hr ?_; (case hd => rfl); (case hg => rfl); (case hr => first | (go_simp; done) | (go_simp; rfl)); intro gb214 hg w9 hbox hb; have n0_ := Aside0.mk (blk_below (g := gb206) (o := o5_ false false false false false 41) (bv BK206.out) hb); have n1_ := Aside0.mk (below_step (bl1 HB.out GE206.out) hb); have n2_ := Aside0.mk (hbox); have n3_ := Aside0.mk ((by rw [hg]; exact (below_size (bl1 HB.out GE206.out)) : w.heap.size ≤ gb214)); have n4_ := n3_; have n5_ := Aside0.mk ((by rw [hg]; exact Nat.ne_of_lt (blk_lt (g := gb206) (o := .cells F5 41 (0, 0)) (bv BK206.out)) : gb206 ≠ gb214)); have n6_ := Aside0.mk (Ne.symm n5_.out); clear BK206; clear HB; have BK206 := n0_; have HB := n1_; have BK214 := n2_; have GW214 := n3_; have GE214 := n4_; have NB206_214 := n5_; have NB214_206 := n6_; clear n0_ n1_ n2_ n3_ n4_ n5_ n6_; clear hb hbox hg; have hnb10 := NB214_206.out; have hnc10 := NB206_214.out; obtain ⟨hcz11_0, hcz11_1, hcz11_2, hcz11_3, hcz11_4⟩ := bc5 BK214.out; obtain ⟨hfz11_0, hfz11_1, hfz11_2, hfz11_3, hfz11_4⟩ := bf5 BK214.out))
  have n0_ : Aside0 ((((((w9.setCell ⟨gb214, 0, none⟩ (.bool t208)).setCell ⟨gb214, 1, none⟩ (.bool t209)).setCell ⟨gb214, 2, none⟩ (.bool t210)).setCell ⟨gb214, 3, none⟩ (.bool t211)).setCell ⟨gb214, 4, none⟩ (.bool t212)).heap[gb206]? = some (o5_ false false false false false 41)) := ⟨by (with_reducible repeat first | apply bd | apply be | apply ba); refine blk_far ?_ NB206_214.out _; (with_reducible repeat first | apply bd | apply be | apply ba); refine blk_far ?_ NB206_214.out _; (with_reducible repeat first | apply bd | apply be | apply ba); refine blk_far ?_ NB206_214.out _; (with_reducible repeat first | apply bd | apply be | apply ba); refine blk_far ?_ NB206_214.out _; (with_reducible repeat first | apply bd | apply be | apply ba); refine blk_far ?_ NB206_214.out _; (with_reducible repeat first | apply bd | apply be | apply ba); exact BK206.out⟩
  have n1_ : Aside0 ((((((w9.setCell ⟨gb214, 0, none⟩ (.bool t208)).setCell ⟨gb214, 1, none⟩ (.bool t209)).setCell ⟨gb214, 2, none⟩ (.bool t210)).setCell ⟨gb214, 3, none⟩ (.bool t211)).setCell ⟨gb214, 4, none⟩ (.bool t212)).heap[gb214]? = some (o5_ t208 t209 t210 t211 t212 41)) := ⟨by (with_reducible repeat first | apply bd | apply be | apply ba); refine blk_put (cs := q5_ t208 t209 t210 t211 false) ?_ 4 _ rfl; (with_reducible repeat first | apply bd | apply be | apply ba); refine blk_put (cs := q5_ t208 t209 t210 false false) ?_ 3 _ rfl; (with_reducible repeat first | apply bd | apply be | apply ba); refine blk_put (cs := q5_ t208 t209 false false false) ?_ 2 _ rfl; (with_reducible repeat first | apply bd | apply be | apply ba); refine blk_put (cs := q5_ t208 false false false false) ?_ 1 _ rfl; (with_reducible repeat first | apply bd | apply be | apply ba); refine blk_put (cs := F5) ?_ 0 _ rfl; (with_reducible repeat first | apply bd | apply be | apply ba); exact BK214.out⟩
  have n2_ : Aside0 (Below w.heap.size w (((((w9.setCell ⟨gb214, 0, none⟩ (.bool t208)).setCell ⟨gb214, 1, none⟩ (.bool t209)).setCell ⟨gb214, 2, none⟩ (.bool t210)).setCell ⟨gb214, 3, none⟩ (.bool t211)).setCell ⟨gb214, 4, none⟩ (.bool t212))) := ⟨bl2 HB.out GE206.out GE214.out⟩
  (try clear BK206)
  (try clear BK214)
  (try clear HB)
  generalize (((((w9.setCell ⟨gb214, 0, none⟩ (.bool t208)).setCell ⟨gb214, 1, none⟩ (.bool t209)).setCell ⟨gb214, 2, none⟩ (.bool t210)).setCell ⟨gb214, 3, none⟩ (.bool t211)).setCell ⟨gb214, 4, none⟩ (.bool t212)) = w12 at n0_ n1_ n2_ ⊢
  have BK206 := n0_
  have BK214 := n1_
  have HB := n2_
  clear n0_ n1_ n2_
  have n0_ := Aside0.mk (blk_drew BK206.out)
  have n1_ := Aside0.mk (blk_drew BK214.out)
  have n2_ := Aside0.mk (below_drew1 HB.out)
  clear BK206
  clear BK214
  clear HB
  have BK206 := n0_
  have BK214 := n1_
  have HB := n2_
  clear n0_ n1_ n2_
  refine start_ (n := 4) (S := fun w' => w'.cell? ⟨gb214, 0, none⟩ = some (.bool t208) ∧ w'.cell? ⟨gb214, 1, none⟩ = some (.bool t209) ∧ w'.cell? ⟨gb214, 2, none⟩ = some (.bool t210) ∧ w'.cell? ⟨gb214, 3, none⟩ = some (.bool t211) ∧ w'.cell? ⟨gb214, 4, none⟩ = some (.bool t212)) (ds := []) #[false, false, false, false] (by kernel_rfl) rfl rfl ⟨(blk_cell BK214.out 0).trans rfl, (blk_cell BK214.out 1).trans rfl, (blk_cell BK214.out 2).trans rfl, (blk_cell BK214.out 3).trans rfl, (blk_cell BK214.out 4).trans rfl⟩ (fun hHeld => ?_)
  generalize w12.drew = w13 at BK206 BK214 HB hHeld ⊢
  refine pure_ (i := 0) (N := some 22) (v := ?_) (a' := ?_) #[true, false, false, false] rfl rfl (by kernel_rfl) (fun _ _ _ h => h) (Or.inl ⟨by rfl, ?_⟩) ?_ ?_
  rotate_left
  ·intro w'
   go_simp
   with_reducible rfl
  rotate_left
  ·simp only [Act.put, sb, sz, ss, i64_w, i32_w]
   rfl
  refine pure_ (i := 2) (N := some 8) (v := ?_) (a' := ?_) #[true, false, true, false] rfl rfl (by kernel_rfl) (fun _ _ _ h => h) (Or.inl ⟨by rfl, ?_⟩) ?_ ?_
  rotate_left
  ·intro w'
   go_simp
   with_reducible rfl
  rotate_left
  ·simp only [Act.put, sb, sz, ss, i64_w, i32_w]
   rfl
  refine take_ (i := 1) (N := some 23) (v := ?_) (a' := ?_) #[true, true, true, false] rfl rfl (by kernel_rfl) (fun _ _ _ h => h) (Or.inl ⟨by rfl, ?_⟩) hHeld ?_ ?_
  rotate_left
  ·rintro w' ⟨s0, s1, s2, s3, s4⟩
   go_simp
   with_reducible rfl
  rotate_left
  ·simp only [Act.put, sb, sz, ss, i64_w, i32_w]
   rfl
  refine one_ (i := 3) (N := none) #[true, true, true, true] rfl rfl (by kernel_rfl) (by decide) (fun K hK => ?_)
  have hs14 : w13.cell? ⟨gb206, 0, none⟩ = some (.bool false) := (blk_cell BK206.out 0).trans rfl
  have hfs14 := blk_frozen BK206.out 0
  have hns14_1 := NB214_206.out
  have hms14_1 := NB206_214.out
  have hs15 : w13.cell? ⟨gb206, 1, none⟩ = some (.bool false) := (blk_cell BK206.out 1).trans rfl
  have hfs15 := blk_frozen BK206.out 1
  have hns15_1 := NB214_206.out
  have hms15_1 := NB206_214.out
  have hs16 : w13.cell? ⟨gb206, 2, none⟩ = some (.bool false) := (blk_cell BK206.out 2).trans rfl
  have hfs16 := blk_frozen BK206.out 2
  have hns16_1 := NB214_206.out
  have hms16_1 := NB206_214.out
  have hs17 : w13.cell? ⟨gb206, 3, none⟩ = some (.bool false) := (blk_cell BK206.out 3).trans rfl
  have hfs17 := blk_frozen BK206.out 3
  have hns17_1 := NB214_206.out
  have hms17_1 := NB206_214.out
  have hs18 : w13.cell? ⟨gb206, 4, none⟩ = some (.bool false) := (blk_cell BK206.out 4).trans rfl
  have hfs18 := blk_frozen BK206.out 4
  have hns18_1 := NB214_206.out
  have hms18_1 := NB206_214.out
  refine skip_ (w1 := ?_) (by rfl) rfl ?_ ?_
  rotate_left
  ·go_simp
   rfl
  refine hK.out _ _ ⟨(cf5 NB214_206.out (hHeld.1)), (cf5 NB214_206.out (hHeld.2.1)), (cf5 NB214_206.out (hHeld.2.2.1)), (cf5 NB214_206.out (hHeld.2.2.2.1)), (cf5 NB214_206.out (hHeld.2.2.2.2))⟩ (fun hHeld => ?_)
  clear hK K
  refine done_ (by kernel_rfl) ?_
  try go_wp2
  refine bodyPost_ret (results_tc rfl _ _ gb206 41 #[.bool t208, .bool t209, .bool t210, .bool t211, .bool t212] (0, 0) _ rfl (by (with_reducible repeat first | apply bd | apply be | apply ba); refine blk_put (cs := q5_ t208 t209 t210 t211 false) ?_ 4 _ rfl; (with_reducible repeat first | apply bd | apply be | apply ba); refine blk_put (cs := q5_ t208 t209 t210 false false) ?_ 3 _ rfl; (with_reducible repeat first | apply bd | apply be | apply ba); refine blk_put (cs := q5_ t208 t209 false false false) ?_ 2 _ rfl; (with_reducible repeat first | apply bd | apply be | apply ba); refine blk_put (cs := q5_ t208 false false false false) ?_ 1 _ rfl; (with_reducible repeat first | apply bd | apply be | apply ba); refine blk_put (cs := F5) ?_ 0 _ rfl; (with_reducible repeat first | apply bd | apply be | apply ba); exact BK206.out) Try.underlying41 rfl (by kernel_rfl)) rfl ?_
  exact ⟨by first | rfl | (simp [errW_none, errW_some] <;> rfl) | (simp [*, errW_none, errW_some] <;> rfl), bl2 HB.out GE206.out GE214.out⟩
 ·replace c6 := Bool.eq_false_iff.mpr c6
  subst c6
  have H1 : ((sum_Of.f a0 a2).bind fun bt215 => ((round_Pack.f k a0 a1 bt215.1 (wrap64 (bt215.2.1 + (mn (mx a3 (-5000)) 5000))) bt215.2.2.1 false).bind fun bt220 => (some (bt220.1, bt220.2.1, bt220.2.2.1, bt220.2.2.2.1, bt220.2.2.2.2.1, bt220.2.2.2.2.2)))) = some (r1, r2, r3, r4, r5, r6) := by rw [if_neg (show ¬ (false = true) by decide)] at H; exact H
  clear H
  have H := H1
  clear H1
  replace H := Option.bind_eq_some_iff.mp H
  obtain ⟨⟨t215, t216, t217, t218⟩, A190, H⟩ := H
  replace H : ((round_Pack.f k a0 a1 t215 (wrap64 (t216 + (mn (mx a3 (-5000)) 5000))) t217 false).bind fun bt220 => (some (bt220.1, bt220.2.1, bt220.2.2.1, bt220.2.2.2.1, bt220.2.2.2.2.1, bt220.2.2.2.2.2))) = some (r1, r2, r3, r4, r5, r6) := H
  have A19 := Aside0.mk A190
  clear A190
  obtain ⟨ji20, hji20⟩ : ∃ j_ : Int, (mx a3 (-5000)) = j_ := ⟨_, rfl⟩
  replace H : ((round_Pack.f k a0 a1 t215 (wrap64 (t216 + (mn (ji20) 5000))) t217 false).bind fun bt220 => (some (bt220.1, bt220.2.1, bt220.2.2.1, bt220.2.2.2.1, bt220.2.2.2.2.1, bt220.2.2.2.2.2))) = some (r1, r2, r3, r4, r5, r6) := by first | (rw [hji20] at H; exact H) | (simp only [hji20] at H ⊢; exact H)
  (try rw [hji20] at A5)
  (try rw [hji20] at A19)
  have hji20_ : (if a3 < (-5000) then (-5000) else a3) = ji20 := hji20
  obtain ⟨ji21, hji21⟩ : ∃ j_ : Int, (mn (ji20) 5000) = j_ := ⟨_, rfl⟩
  replace H : ((round_Pack.f k a0 a1 t215 (wrap64 (t216 + (ji21))) t217 false).bind fun bt220 => (some (bt220.1, bt220.2.1, bt220.2.2.1, bt220.2.2.2.1, bt220.2.2.2.2.1, bt220.2.2.2.2.2))) = some (r1, r2, r3, r4, r5, r6) := by first | (rw [hji21] at H; exact H) | (simp only [hji21] at H ⊢; exact H)
  (try rw [hji21] at A5)
  (try rw [hji21] at A19)
  have hji21_ : (if 5000 < (ji20) then 5000 else (ji20)) = ji21 := hji21
  replace H := Option.bind_eq_some_iff.mp H
  obtain ⟨⟨t220, t221, t222, t223, t224, t225⟩, A220, H⟩ := H
  replace H : (some (t220, t221, t222, t223, t224, t225)) = some (r1, r2, r3, r4, r5, r6) := H
  have A22 := Aside0.mk A220
  clear A220
  simp only [Option.some.injEq, Prod.mk.injEq] at H
  obtain ⟨rfl, rfl, rfl, rfl, rfl, rfl⟩ := H
  go_enter Try.func28, Try.ntmps28
  go_wp2_with (first | ((with_reducible refine gate_dst (N := 9) rfl ?_); refine box_event ?hg (N := 9) ?hd (cs := F5) (t := 41) ?hr ?_; (case hd => rfl); (case hg => rfl); (case hr => first | (go_simp; done) | (go_simp; rfl)); intro gb206 hg w23 hbox hb; have n0_ := Aside0.mk (below_step (bl0 HB.out) hb); have n1_ := Aside0.mk (hbox); have n2_ := Aside0.mk ((by rw [hg]; exact (below_size (bl0 HB.out)) : w.heap.size ≤ gb206)); have n3_ := n2_; clear HB; have HB := n0_; have BK206 := n1_; have GW206 := n2_; have GE206 := n3_; clear n0_ n1_ n2_ n3_; clear hb hbox hg) | ((with_reducible refine gate_callee (f := 54) rfl ?_); refine goesL_ (some 17) rfl rfl Try.func54 (by kernel_rfl) rfl #[.int .i64 a0, .int .u32 a2] rfl gl ?_; (with_reducible refine (whole_apart.calls k a0 a2 t207 t208 t209 t210 t211 t212 false _ A5.out).mono ?_); rintro e w24 ⟨rfl, hb⟩; refine ⟨_, rfl, ?_⟩; have n0_ := Aside0.mk (blk_below (g := gb206) (o := o5_ false false false false false 41) (bv BK206.out) hb); have n1_ := Aside0.mk (below_step (bl1 HB.out GE206.out) hb); clear BK206; clear HB; have BK206 := n0_; have HB := n1_; clear n0_ n1_) | ((with_reducible refine gate_dst (N := 11) rfl ?_); refine box_event ?hg (N := 11) ?hd (cs := F5) (t := 41) ?hr ?_; (case hd => rfl); (case hg => rfl); (case hr => first | (go_simp; done) | (go_simp; rfl)); intro gb214 hg w25 hbox hb; have n0_ := Aside0.mk (blk_below (g := gb206) (o := o5_ false false false false false 41) (bv BK206.out) hb); have n1_ := Aside0.mk (below_step (bl1 HB.out GE206.out) hb); have n2_ := Aside0.mk (hbox); have n3_ := Aside0.mk ((by rw [hg]; exact (below_size (bl1 HB.out GE206.out)) : w.heap.size ≤ gb214)); have n4_ := n3_; have n5_ := Aside0.mk ((by rw [hg]; exact Nat.ne_of_lt (blk_lt (g := gb206) (o := .cells F5 41 (0, 0)) (bv BK206.out)) : gb206 ≠ gb214)); have n6_ := Aside0.mk (Ne.symm n5_.out); clear BK206; clear HB; have BK206 := n0_; have HB := n1_; have BK214 := n2_; have GW214 := n3_; have GE214 := n4_; have NB206_214 := n5_; have NB214_206 := n6_; clear n0_ n1_ n2_ n3_ n4_ n5_ n6_; clear hb hbox hg; have hnb26 := NB214_206.out; have hnc26 := NB206_214.out; obtain ⟨hcz27_0, hcz27_1, hcz27_2, hcz27_3, hcz27_4⟩ := bc5 BK214.out; obtain ⟨hfz27_0, hfz27_1, hfz27_2, hfz27_3, hfz27_4⟩ := bf5 BK214.out) | ((with_reducible refine gate_callee (f := 55) rfl ?_); refine goesL_ (some 26) rfl rfl Try.func55 (by kernel_rfl) rfl #[.int .i64 a0, .int .u32 a2] rfl gl ?_; (with_reducible refine (sum_Of.calls a0 a2 t215 t216 t217 t218 _ A19.out).mono ?_); rintro e w28 ⟨rfl, hb⟩; refine ⟨_, rfl, ?_⟩; have n0_ := Aside0.mk (blk_below (g := gb206) (o := o5_ false false false false false 41) (by (with_reducible repeat first | apply bd | apply be | apply ba); refine blk_far ?_ NB206_214.out _; (with_reducible repeat first | apply bd | apply be | apply ba); refine blk_far ?_ NB206_214.out _; (with_reducible repeat first | apply bd | apply be | apply ba); refine blk_far ?_ NB206_214.out _; (with_reducible repeat first | apply bd | apply be | apply ba); refine blk_far ?_ NB206_214.out _; (with_reducible repeat first | apply bd | apply be | apply ba); refine blk_far ?_ NB206_214.out _; (with_reducible repeat first | apply bd | apply be | apply ba); exact BK206.out) hb); have n1_ := Aside0.mk (blk_below (g := gb214) (o := o5_ t208 t209 t210 t211 t212 41) (by (with_reducible repeat first | apply bd | apply be | apply ba); refine blk_put (cs := q5_ t208 t209 t210 t211 false) ?_ 4 _ rfl; (with_reducible repeat first | apply bd | apply be | apply ba); refine blk_put (cs := q5_ t208 t209 t210 false false) ?_ 3 _ rfl; (with_reducible repeat first | apply bd | apply be | apply ba); refine blk_put (cs := q5_ t208 t209 false false false) ?_ 2 _ rfl; (with_reducible repeat first | apply bd | apply be | apply ba); refine blk_put (cs := q5_ t208 false false false false) ?_ 1 _ rfl; (with_reducible repeat first | apply bd | apply be | apply ba); refine blk_put (cs := F5) ?_ 0 _ rfl; (with_reducible repeat first | apply bd | apply be | apply ba); exact BK214.out) hb); have n2_ := Aside0.mk (below_step (bl2 HB.out GE206.out GE214.out) hb); clear BK206; clear BK214; clear HB; have BK206 := n0_; have BK214 := n1_; have HB := n2_; clear n0_ n1_ n2_) | ((with_reducible refine gate_dst (N := 13) rfl ?_); refine box_event ?hg (N := 13) ?hd (cs := #[.bool false, .int .i64 0, .int .u64 0, .bool false]) (t := 75) ?hr ?_; (case hd => rfl); (case hg => rfl); (case hr => first | (go_simp; done) | (go_simp; rfl)); intro gb219 hg w29 hbox hb; have n0_ := Aside0.mk (blk_below (g := gb206) (o := o5_ false false false false false 41) (bv BK206.out) hb); have n1_ := Aside0.mk (blk_below (g := gb214) (o := o5_ t208 t209 t210 t211 t212 41) (bv BK214.out) hb); have n2_ := Aside0.mk (below_step (bl2 HB.out GE206.out GE214.out) hb); have n3_ := Aside0.mk (hbox); have n4_ := Aside0.mk ((by rw [hg]; exact (below_size (bl2 HB.out GE206.out GE214.out)) : w.heap.size ≤ gb219)); have n5_ := n4_; have n6_ := Aside0.mk ((by rw [hg]; exact Nat.ne_of_lt (blk_lt (g := gb206) (o := .cells F5 41 (0, 0)) (bv BK206.out)) : gb206 ≠ gb219)); have n7_ := Aside0.mk (Ne.symm n6_.out); have n8_ := Aside0.mk ((by rw [hg]; exact Nat.ne_of_lt (blk_lt (g := gb214) (o := o5_ t208 t209 t210 t211 t212 41) (bv BK214.out)) : gb214 ≠ gb219)); have n9_ := Aside0.mk (Ne.symm n8_.out); clear BK206; clear BK214; clear HB; have BK206 := n0_; have BK214 := n1_; have HB := n2_; have BK219 := n3_; have GW219 := n4_; have GE219 := n5_; have NB206_219 := n6_; have NB219_206 := n7_; have NB214_219 := n8_; have NB219_214 := n9_; clear n0_ n1_ n2_ n3_ n4_ n5_ n6_ n7_ n8_ n9_; clear hb hbox hg; have hnb30 := NB219_206.out; have hnc30 := NB206_219.out; have hnb31 := NB219_214.out; have hnc31 := NB214_219.out; obtain ⟨hcz32_0, hcz32_1, hcz32_2, hcz32_3⟩ := bc4 BK219.out; obtain ⟨hfz32_0, hfz32_1, hfz32_2, hfz32_3⟩ := bf4 BK219.out) | ((with_reducible refine gate_callee (f := 51) rfl ?_); refine goesL_ (some 39) rfl rfl Try.func51 (by kernel_rfl) rfl #[.int .i64 a0, .int .i64 a1, .bool t215, .int .i64 (wrap64 (t216 + (ji21))), .int .u64 t217, .bool false] rfl (by (try simp only [List.map_toArray, List.map_cons, List.map_nil]); first | done | (simp only [hji21]; rfl) | rfl | (simp only [List.length_drop, List.length_take]; rfl)) ?_; (with_reducible refine (round_Pack.calls k a0 a1 t215 (wrap64 (t216 + (ji21))) t217 false t220 t221 t222 t223 t224 t225 _ A22.out).mono ?_); rintro e w33 ⟨rfl, hb⟩; refine ⟨_, rfl, ?_⟩; have n0_ := Aside0.mk (blk_below (g := gb206) (o := o5_ false false false false false 41) (by (with_reducible repeat first | apply bd | apply be | apply ba); refine blk_far ?_ NB206_219.out _; (with_reducible repeat first | apply bd | apply be | apply ba); refine blk_far ?_ NB206_219.out _; (with_reducible repeat first | apply bd | apply be | apply ba); refine blk_far ?_ NB206_219.out _; (with_reducible repeat first | apply bd | apply be | apply ba); refine blk_far ?_ NB206_219.out _; (with_reducible repeat first | apply bd | apply be | apply ba); exact BK206.out) hb); have n1_ := Aside0.mk (blk_below (g := gb214) (o := o5_ t208 t209 t210 t211 t212 41) (by (with_reducible repeat first | apply bd | apply be | apply ba); refine blk_far ?_ NB214_219.out _; (with_reducible repeat first | apply bd | apply be | apply ba); refine blk_far ?_ NB214_219.out _; (with_reducible repeat first | apply bd | apply be | apply ba); refine blk_far ?_ NB214_219.out _; (with_reducible repeat first | apply bd | apply be | apply ba); refine blk_far ?_ NB214_219.out _; (with_reducible repeat first | apply bd | apply be | apply ba); exact BK214.out) hb); have n2_ := Aside0.mk (blk_below (g := gb219) (o := .cells #[.bool t215, .int .i64 t216, .int .u64 t217, .bool t218] 75 (0, 0)) (by (with_reducible repeat first | apply bd | apply be | apply ba); refine blk_put (cs := #[.bool t215, .int .i64 t216, .int .u64 t217, .bool false]) ?_ 3 _ rfl; (with_reducible repeat first | apply bd | apply be | apply ba); refine blk_put (cs := #[.bool t215, .int .i64 t216, .int .u64 0, .bool false]) ?_ 2 _ rfl; (with_reducible repeat first | apply bd | apply be | apply ba); refine blk_put (cs := #[.bool t215, .int .i64 0, .int .u64 0, .bool false]) ?_ 1 _ rfl; (with_reducible repeat first | apply bd | apply be | apply ba); refine blk_put (cs := #[.bool false, .int .i64 0, .int .u64 0, .bool false]) ?_ 0 _ rfl; (with_reducible repeat first | apply bd | apply be | apply ba); exact BK219.out) hb); have n3_ := Aside0.mk (below_step (bl3 HB.out GE206.out GE214.out GE219.out) hb); clear BK206; clear BK214; clear BK219; clear HB; have BK206 := n0_; have BK214 := n1_; have BK219 := n2_; have HB := n3_; clear n0_ n1_ n2_ n3_; obtain ⟨hcz34_0, hcz34_1, hcz34_2, hcz34_3, hcz34_4⟩ := bc5 BK206.out; obtain ⟨hfz34_0, hfz34_1, hfz34_2, hfz34_3, hfz34_4⟩ := bf5 BK206.out))
  refine bodyPost_ret (results_tc rfl _ _ gb206 41 #[.bool t221, .bool t222, .bool t223, .bool t224, .bool t225] (0, 0) _ rfl (by (with_reducible repeat first | apply bd | apply be | apply ba); refine blk_put (cs := q5_ t221 t222 t223 t224 false) ?_ 4 _ rfl; (with_reducible repeat first | apply bd | apply be | apply ba); refine blk_put (cs := q5_ t221 t222 t223 false false) ?_ 3 _ rfl; (with_reducible repeat first | apply bd | apply be | apply ba); refine blk_put (cs := q5_ t221 t222 false false false) ?_ 2 _ rfl; (with_reducible repeat first | apply bd | apply be | apply ba); refine blk_put (cs := q5_ t221 false false false false) ?_ 1 _ rfl; (with_reducible repeat first | apply bd | apply be | apply ba); refine blk_put (cs := F5) ?_ 0 _ rfl; (with_reducible repeat first | apply bd | apply be | apply ba); exact BK206.out) Try.underlying41 rfl (by kernel_rfl)) rfl ?_
  exact ⟨by first | rfl | (simp [errW_none, errW_some] <;> rfl) | (simp only [← hji20, ← hji21]; first | rfl | (simp [errW_none, errW_some] <;> rfl)) | (simp [*, errW_none, errW_some] <;> rfl), bl3 HB.out GE206.out GE214.out GE219.out⟩

/-! ### format_Finite: function 61 -/
def format_Finite.f (a0 : Int) (a1 : Int) : Option (Bool) := (format_Parts.f a0 a1).bind fun bt226 => ((format_Top.f a0).bind fun t229 => (some (decide (bt226.2.1 < t229))))
set_option maxHeartbeats 8000000 in
set_option maxRecDepth 100000 in
theorem format_Finite.calls (a0 : Int) (a1 : Int) (r : Bool) (w : World) (h : format_Finite.f a0 a1 = some r) :
  Calls Try.prog 61 #[.int .i64 a0, .int .u32 a1] w fun e w' => e = .returned (.bool r) ∧ Drawn0 w w' := by
 have H : ((format_Parts.f a0 a1).bind fun bt226 => ((format_Top.f a0).bind fun t229 => (some (decide (bt226.2.1 < t229))))) = some r := h
 clear h
 replace H := Option.bind_eq_some_iff.mp H
 obtain ⟨⟨t226, t227, t228⟩, A30, H⟩ := H
 replace H : ((format_Top.f a0).bind fun t229 => (some (decide (t227 < t229)))) = some r := H
 have A3 := Aside0.mk A30
 clear A30
 replace H := Option.bind_eq_some_iff.mp H
 obtain ⟨t229, A40, H⟩ := H
 replace H : (some (decide (t227 < t229))) = some r := H
 have A4 := Aside0.mk A40
 clear A40
 obtain rfl := Option.some.inj H
 go_enter Try.func61, Try.ntmps61
 go_wp2_with (first | ((with_reducible refine gate_callee (f := 98) rfl ?_); refine goesL_ (some 11) rfl rfl Try.func98 (by kernel_rfl) rfl #[.int .i64 a0, .int .u32 a1] rfl gl ?_; (with_reducible refine (format_Parts.calls a0 a1 t226 t227 t228 _ A3.out).mono ?_); rintro e w' ⟨rfl, ⟨nd, rfl⟩⟩; refine ⟨_, rfl, ?_⟩) | ((with_reducible refine gate_callee (f := 86) rfl ?_); refine goesL_ (some 17) rfl rfl Try.func86 (by kernel_rfl) rfl #[.int .i64 a0] rfl gl ?_; (with_reducible refine (format_Top.calls a0 t229 _ A4.out).mono ?_); rintro e w' ⟨rfl, ⟨nd, rfl⟩⟩; refine ⟨_, rfl, ?_⟩))
 go_ret
 exact ⟨by first | rfl | (simp; done) | (simp [*]; done) | (congr 1; (try unfold wrap64); omega) | (congr 1; rw [IntKind.wrap_u64]; omega), by repeat (first | exact Drawn0.refl _ | apply Drawn0.step)⟩

/-! ### whole_units: function 62 -/
def whole_units.f (k : Nat) (a0_0 : Bool) (a0_1 : Int) (a0_2 : Int) (a0_3 : Bool) (a1 : Int) : Option (Int × Bool) := (bits_Len.f k a0_2).bind fun t231 => (if (wrap64 (a0_1 + t231)) > 40 then (some (1099511627776, false)) else ((round_Units.f k a0_2 (wrap64 (-a0_1)) false).bind fun bt232 => ((round_Up.f a1 a0_0 bt232.1 bt232.2).bind fun t234 => (if t234 = true then (some (IntKind.u64.wrap (bt232.1 + 1), (bt232.2 != 0))) else (some (bt232.1, (bt232.2 != 0)))))))
theorem whole_units.mono : ∀ a0 a1 a2 a3 a4 k, LeO (whole_units.f k a0 a1 a2 a3 a4) (whole_units.f (k + 1) a0 a1 a2 a3 a4) := by
 intro a0 a1 a2 a3 a4 k
 unfold whole_units.f
 repeat' first
   |(with_reducible exact bits_Len.mono _ _)
   |(with_reducible exact round_Units.mono _ _ _ _)
   |(with_reducible exact LeO.refl _)
   |(with_reducible exact LeO.none _)
   |(with_reducible refine LeO.ite ?_ ?_)
   |(with_reducible refine LeO.bind ?_ (fun _ => ?_))
   |exact bits_Len.mono _ _
   |exact round_Units.mono _ _ _ _
   |exact LeO.none _
   |refine LeO.ite ?_ ?_
   |refine LeO.bind ?_ (fun _ => ?_)
set_option maxHeartbeats 8000000 in
set_option maxRecDepth 100000 in
theorem whole_units.calls (k : Nat) (a0_0 : Bool) (a0_1 : Int) (a0_2 : Int) (a0_3 : Bool) (a1 : Int) (r1 : Int) (r2 : Bool) (w : World) (h : whole_units.f k a0_0 a0_1 a0_2 a0_3 a1 = some (r1, r2)) :
  Calls Try.prog 62 #[.agg #[.bool a0_0, .int .i64 a0_1, .int .u64 a0_2, .bool a0_3], .int .i64 a1] w fun e w' => e = .returned (.tuple #[.int .u64 r1, .bool r2]) ∧ Below w.heap.size w w' := by
 have hu75 := Try.underlying75
 have HB := Aside0.mk (Below.refl w.heap.size w)
 have H : ((bits_Len.f k a0_2).bind fun t231 => (if (wrap64 (a0_1 + t231)) > 40 then (some (1099511627776, false)) else ((round_Units.f k a0_2 (wrap64 (-a0_1)) false).bind fun bt232 => ((round_Up.f a1 a0_0 bt232.1 bt232.2).bind fun t234 => (if t234 = true then (some (IntKind.u64.wrap (bt232.1 + 1), (bt232.2 != 0))) else (some (bt232.1, (bt232.2 != 0)))))))) = some (r1, r2) := h
 clear h
 replace H := Option.bind_eq_some_iff.mp H
 obtain ⟨t231, A30, H⟩ := H
 replace H : (if (wrap64 (a0_1 + t231)) > 40 then (some (1099511627776, false)) else ((round_Units.f k a0_2 (wrap64 (-a0_1)) false).bind fun bt232 => ((round_Up.f a1 a0_0 bt232.1 bt232.2).bind fun t234 => (if t234 = true then (some (IntKind.u64.wrap (bt232.1 + 1), (bt232.2 != 0))) else (some (bt232.1, (bt232.2 != 0))))))) = some (r1, r2) := H
 have A3 := Aside0.mk A30
 clear A30
 by_cases c4 : (wrap64 (a0_1 + t231)) > 40
 ·rw [if_pos c4] at H
  have c4b0 : decide (40 < (wrap64 (a0_1 + t231))) = true := decide_eq_true c4
  clear c4
  simp only [Option.some.injEq, Prod.mk.injEq] at H
  obtain ⟨rfl, rfl⟩ := H
  go_enter Try.func62, Try.ntmps62
  go_wp2_with (first | ((with_reducible refine gate_dst (N := 2) rfl ?_); refine box_event ?hg (N := 2) ?hd (cs := #[.bool a0_0, .int .i64 a0_1, .int .u64 a0_2, .bool a0_3]) (t := 75) ?hr ?_; (case hd => rfl); (case hg => rfl); (case hr => first | (go_simp; done) | (go_simp; rfl)); intro gb230 hg w5 hbox hb; have n0_ := Aside0.mk (below_step (bl0 HB.out) hb); have n1_ := Aside0.mk (hbox); have n2_ := Aside0.mk ((by rw [hg]; exact (below_size (bl0 HB.out)) : w.heap.size ≤ gb230)); have n3_ := n2_; clear HB; have HB := n0_; have BK230 := n1_; have GW230 := n2_; have GE230 := n3_; clear n0_ n1_ n2_ n3_; clear hb hbox hg; obtain ⟨hcz6_0, hcz6_1, hcz6_2, hcz6_3⟩ := bc4 BK230.out; obtain ⟨hfz6_0, hfz6_1, hfz6_2, hfz6_3⟩ := bf4 BK230.out) | (go_at_call 69; (with_reducible refine (bits_Len.calls k a0_2 t231 _ A3.out).mono ?_); rintro e w' ⟨rfl, ⟨nd, rfl⟩⟩; (try first | exact ⟨rfl, _, World.drewN_drewN _ _ _⟩ | exact ⟨rfl, _, Eq.trans (World.drewN_drewN _ _ _) (congrArg (World.drewN _) (Nat.add_assoc _ _ _))⟩)))
  repeat (go_quiet (first | ((with_reducible refine gate_dst (N := 2) rfl ?_); refine box_event ?hg (N := 2) ?hd (cs := #[.bool a0_0, .int .i64 a0_1, .int .u64 a0_2, .bool a0_3]) (t := 75) ?hr ?_; (case hd => rfl); (case hg => rfl); (case hr => first | (go_simp; done) | (go_simp; rfl)); intro gb230 hg w5 hbox hb; have n0_ := Aside0.mk (below_step (bl0 HB.out) hb); have n1_ := Aside0.mk (hbox); have n2_ := Aside0.mk ((by rw [hg]; exact (below_size (bl0 HB.out)) : w.heap.size ≤ gb230)); have n3_ := n2_; clear HB; have HB := n0_; have BK230 := n1_; have GW230 := n2_; have GE230 := n3_; clear n0_ n1_ n2_ n3_; clear hb hbox hg; obtain ⟨hcz6_0, hcz6_1, hcz6_2, hcz6_3⟩ := bc4 BK230.out; obtain ⟨hfz6_0, hfz6_1, hfz6_2, hfz6_3⟩ := bf4 BK230.out) | (go_at_call 69; (with_reducible refine (bits_Len.calls k a0_2 t231 _ A3.out).mono ?_); rintro e w' ⟨rfl, ⟨nd, rfl⟩⟩; (try first | exact ⟨rfl, _, World.drewN_drewN _ _ _⟩ | exact ⟨rfl, _, Eq.trans (World.drewN_drewN _ _ _) (congrArg (World.drewN _) (Nat.add_assoc _ _ _))⟩))); try go_wp2_with (first | ((with_reducible refine gate_dst (N := 2) rfl ?_); refine box_event ?hg (N := 2) ?hd (cs := #[.bool a0_0, .int .i64 a0_1, .int .u64 a0_2, .bool a0_3]) (t := 75) ?hr ?_; (case hd => rfl); (case hg => rfl); (case hr => first | (go_simp; done) | (go_simp; rfl)); intro gb230 hg w5 hbox hb; have n0_ := Aside0.mk (below_step (bl0 HB.out) hb); have n1_ := Aside0.mk (hbox); have n2_ := Aside0.mk ((by rw [hg]; exact (below_size (bl0 HB.out)) : w.heap.size ≤ gb230)); have n3_ := n2_; clear HB; have HB := n0_; have BK230 := n1_; have GW230 := n2_; have GE230 := n3_; clear n0_ n1_ n2_ n3_; clear hb hbox hg; obtain ⟨hcz6_0, hcz6_1, hcz6_2, hcz6_3⟩ := bc4 BK230.out; obtain ⟨hfz6_0, hfz6_1, hfz6_2, hfz6_3⟩ := bf4 BK230.out) | (go_at_call 69; (with_reducible refine (bits_Len.calls k a0_2 t231 _ A3.out).mono ?_); rintro e w' ⟨rfl, ⟨nd, rfl⟩⟩; (try first | exact ⟨rfl, _, World.drewN_drewN _ _ _⟩ | exact ⟨rfl, _, Eq.trans (World.drewN_drewN _ _ _) (congrArg (World.drewN _) (Nat.add_assoc _ _ _))⟩))))
  go_ret2
  exact ⟨by first | rfl | (simp [errW_none, errW_some] <;> rfl) | (simp [*, errW_none, errW_some] <;> rfl), bl1 HB.out GE230.out⟩
 ·rw [if_neg c4] at H
  have c4b0 : decide (40 < (wrap64 (a0_1 + t231))) = false := decide_eq_false c4
  clear c4
  replace H := Option.bind_eq_some_iff.mp H
  obtain ⟨⟨t232, t233⟩, A70, H⟩ := H
  replace H : ((round_Up.f a1 a0_0 t232 t233).bind fun t234 => (if t234 = true then (some (IntKind.u64.wrap (t232 + 1), (t233 != 0))) else (some (t232, (t233 != 0))))) = some (r1, r2) := H
  have A7 := Aside0.mk A70
  clear A70
  replace H := Option.bind_eq_some_iff.mp H
  obtain ⟨t234, A80, H⟩ := H
  replace H : (if t234 = true then (some (IntKind.u64.wrap (t232 + 1), (t233 != 0))) else (some (t232, (t233 != 0)))) = some (r1, r2) := H
  have A8 := Aside0.mk A80
  clear A80
  by_cases c9 : t234 = true
  ·subst c9
   have H1 : (some (IntKind.u64.wrap (t232 + 1), (t233 != 0))) = some (r1, r2) := by rw [if_pos rfl] at H; exact H
   clear H
   have H := H1
   clear H1
   simp only [Option.some.injEq, Prod.mk.injEq] at H
   obtain ⟨rfl, rfl⟩ := H
   go_enter Try.func62, Try.ntmps62
   go_wp2_with (first | ((with_reducible refine gate_dst (N := 2) rfl ?_); refine box_event ?hg (N := 2) ?hd (cs := #[.bool a0_0, .int .i64 a0_1, .int .u64 a0_2, .bool a0_3]) (t := 75) ?hr ?_; (case hd => rfl); (case hg => rfl); (case hr => first | (go_simp; done) | (go_simp; rfl)); intro gb230 hg w10 hbox hb; have n0_ := Aside0.mk (below_step (bl0 HB.out) hb); have n1_ := Aside0.mk (hbox); have n2_ := Aside0.mk ((by rw [hg]; exact (below_size (bl0 HB.out)) : w.heap.size ≤ gb230)); have n3_ := n2_; clear HB; have HB := n0_; have BK230 := n1_; have GW230 := n2_; have GE230 := n3_; clear n0_ n1_ n2_ n3_; clear hb hbox hg; obtain ⟨hcz11_0, hcz11_1, hcz11_2, hcz11_3⟩ := bc4 BK230.out; obtain ⟨hfz11_0, hfz11_1, hfz11_2, hfz11_3⟩ := bf4 BK230.out) | (go_at_call 69; (with_reducible refine (bits_Len.calls k a0_2 t231 _ A3.out).mono ?_); rintro e w' ⟨rfl, ⟨nd, rfl⟩⟩; (try first | exact ⟨rfl, _, World.drewN_drewN _ _ _⟩ | exact ⟨rfl, _, Eq.trans (World.drewN_drewN _ _ _) (congrArg (World.drewN _) (Nat.add_assoc _ _ _))⟩)) | (go_at_call 83; (with_reducible refine (round_Units.calls k a0_2 (wrap64 (-a0_1)) false t232 t233 _ A7.out).mono ?_); rintro e w' ⟨rfl, ⟨nd, rfl⟩⟩; (try first | exact ⟨rfl, _, World.drewN_drewN _ _ _⟩ | exact ⟨rfl, _, Eq.trans (World.drewN_drewN _ _ _) (congrArg (World.drewN _) (Nat.add_assoc _ _ _))⟩)) | (go_at_call 84; (with_reducible refine (round_Up.calls a1 a0_0 t232 t233 true _ A8.out).mono ?_); rintro e w' ⟨rfl, ⟨nd, rfl⟩⟩; (try first | exact ⟨rfl, _, World.drewN_drewN _ _ _⟩ | exact ⟨rfl, _, Eq.trans (World.drewN_drewN _ _ _) (congrArg (World.drewN _) (Nat.add_assoc _ _ _))⟩)))
   repeat (go_quiet (first | ((with_reducible refine gate_dst (N := 2) rfl ?_); refine box_event ?hg (N := 2) ?hd (cs := #[.bool a0_0, .int .i64 a0_1, .int .u64 a0_2, .bool a0_3]) (t := 75) ?hr ?_; (case hd => rfl); (case hg => rfl); (case hr => first | (go_simp; done) | (go_simp; rfl)); intro gb230 hg w10 hbox hb; have n0_ := Aside0.mk (below_step (bl0 HB.out) hb); have n1_ := Aside0.mk (hbox); have n2_ := Aside0.mk ((by rw [hg]; exact (below_size (bl0 HB.out)) : w.heap.size ≤ gb230)); have n3_ := n2_; clear HB; have HB := n0_; have BK230 := n1_; have GW230 := n2_; have GE230 := n3_; clear n0_ n1_ n2_ n3_; clear hb hbox hg; obtain ⟨hcz11_0, hcz11_1, hcz11_2, hcz11_3⟩ := bc4 BK230.out; obtain ⟨hfz11_0, hfz11_1, hfz11_2, hfz11_3⟩ := bf4 BK230.out) | (go_at_call 69; (with_reducible refine (bits_Len.calls k a0_2 t231 _ A3.out).mono ?_); rintro e w' ⟨rfl, ⟨nd, rfl⟩⟩; (try first | exact ⟨rfl, _, World.drewN_drewN _ _ _⟩ | exact ⟨rfl, _, Eq.trans (World.drewN_drewN _ _ _) (congrArg (World.drewN _) (Nat.add_assoc _ _ _))⟩)) | (go_at_call 83; (with_reducible refine (round_Units.calls k a0_2 (wrap64 (-a0_1)) false t232 t233 _ A7.out).mono ?_); rintro e w' ⟨rfl, ⟨nd, rfl⟩⟩; (try first | exact ⟨rfl, _, World.drewN_drewN _ _ _⟩ | exact ⟨rfl, _, Eq.trans (World.drewN_drewN _ _ _) (congrArg (World.drewN _) (Nat.add_assoc _ _ _))⟩)) | (go_at_call 84; (with_reducible refine (round_Up.calls a1 a0_0 t232 t233 true _ A8.out).mono ?_); rintro e w' ⟨rfl, ⟨nd, rfl⟩⟩; (try first | exact ⟨rfl, _, World.drewN_drewN _ _ _⟩ | exact ⟨rfl, _, Eq.trans (World.drewN_drewN _ _ _) (congrArg (World.drewN _) (Nat.add_assoc _ _ _))⟩))); try go_wp2_with (first | ((with_reducible refine gate_dst (N := 2) rfl ?_); refine box_event ?hg (N := 2) ?hd (cs := #[.bool a0_0, .int .i64 a0_1, .int .u64 a0_2, .bool a0_3]) (t := 75) ?hr ?_; (case hd => rfl); (case hg => rfl); (case hr => first | (go_simp; done) | (go_simp; rfl)); intro gb230 hg w10 hbox hb; have n0_ := Aside0.mk (below_step (bl0 HB.out) hb); have n1_ := Aside0.mk (hbox); have n2_ := Aside0.mk ((by rw [hg]; exact (below_size (bl0 HB.out)) : w.heap.size ≤ gb230)); have n3_ := n2_; clear HB; have HB := n0_; have BK230 := n1_; have GW230 := n2_; have GE230 := n3_; clear n0_ n1_ n2_ n3_; clear hb hbox hg; obtain ⟨hcz11_0, hcz11_1, hcz11_2, hcz11_3⟩ := bc4 BK230.out; obtain ⟨hfz11_0, hfz11_1, hfz11_2, hfz11_3⟩ := bf4 BK230.out) | (go_at_call 69; (with_reducible refine (bits_Len.calls k a0_2 t231 _ A3.out).mono ?_); rintro e w' ⟨rfl, ⟨nd, rfl⟩⟩; (try first | exact ⟨rfl, _, World.drewN_drewN _ _ _⟩ | exact ⟨rfl, _, Eq.trans (World.drewN_drewN _ _ _) (congrArg (World.drewN _) (Nat.add_assoc _ _ _))⟩)) | (go_at_call 83; (with_reducible refine (round_Units.calls k a0_2 (wrap64 (-a0_1)) false t232 t233 _ A7.out).mono ?_); rintro e w' ⟨rfl, ⟨nd, rfl⟩⟩; (try first | exact ⟨rfl, _, World.drewN_drewN _ _ _⟩ | exact ⟨rfl, _, Eq.trans (World.drewN_drewN _ _ _) (congrArg (World.drewN _) (Nat.add_assoc _ _ _))⟩)) | (go_at_call 84; (with_reducible refine (round_Up.calls a1 a0_0 t232 t233 true _ A8.out).mono ?_); rintro e w' ⟨rfl, ⟨nd, rfl⟩⟩; (try first | exact ⟨rfl, _, World.drewN_drewN _ _ _⟩ | exact ⟨rfl, _, Eq.trans (World.drewN_drewN _ _ _) (congrArg (World.drewN _) (Nat.add_assoc _ _ _))⟩))))
   go_ret2
   exact ⟨by first | rfl | (simp [errW_none, errW_some] <;> rfl) | (simp [*, errW_none, errW_some] <;> rfl), bl1 HB.out GE230.out⟩
  ·replace c9 := Bool.eq_false_iff.mpr c9
   subst c9
   have H1 : (some (t232, (t233 != 0))) = some (r1, r2) := by rw [if_neg (show ¬ (false = true) by decide)] at H; exact H
   clear H
   have H := H1
   clear H1
   simp only [Option.some.injEq, Prod.mk.injEq] at H
   obtain ⟨rfl, rfl⟩ := H
   go_enter Try.func62, Try.ntmps62
   go_wp2_with (first | ((with_reducible refine gate_dst (N := 2) rfl ?_); refine box_event ?hg (N := 2) ?hd (cs := #[.bool a0_0, .int .i64 a0_1, .int .u64 a0_2, .bool a0_3]) (t := 75) ?hr ?_; (case hd => rfl); (case hg => rfl); (case hr => first | (go_simp; done) | (go_simp; rfl)); intro gb230 hg w12 hbox hb; have n0_ := Aside0.mk (below_step (bl0 HB.out) hb); have n1_ := Aside0.mk (hbox); have n2_ := Aside0.mk ((by rw [hg]; exact (below_size (bl0 HB.out)) : w.heap.size ≤ gb230)); have n3_ := n2_; clear HB; have HB := n0_; have BK230 := n1_; have GW230 := n2_; have GE230 := n3_; clear n0_ n1_ n2_ n3_; clear hb hbox hg; obtain ⟨hcz13_0, hcz13_1, hcz13_2, hcz13_3⟩ := bc4 BK230.out; obtain ⟨hfz13_0, hfz13_1, hfz13_2, hfz13_3⟩ := bf4 BK230.out) | (go_at_call 69; (with_reducible refine (bits_Len.calls k a0_2 t231 _ A3.out).mono ?_); rintro e w' ⟨rfl, ⟨nd, rfl⟩⟩; (try first | exact ⟨rfl, _, World.drewN_drewN _ _ _⟩ | exact ⟨rfl, _, Eq.trans (World.drewN_drewN _ _ _) (congrArg (World.drewN _) (Nat.add_assoc _ _ _))⟩)) | (go_at_call 83; (with_reducible refine (round_Units.calls k a0_2 (wrap64 (-a0_1)) false t232 t233 _ A7.out).mono ?_); rintro e w' ⟨rfl, ⟨nd, rfl⟩⟩; (try first | exact ⟨rfl, _, World.drewN_drewN _ _ _⟩ | exact ⟨rfl, _, Eq.trans (World.drewN_drewN _ _ _) (congrArg (World.drewN _) (Nat.add_assoc _ _ _))⟩)) | (go_at_call 84; (with_reducible refine (round_Up.calls a1 a0_0 t232 t233 false _ A8.out).mono ?_); rintro e w' ⟨rfl, ⟨nd, rfl⟩⟩; (try first | exact ⟨rfl, _, World.drewN_drewN _ _ _⟩ | exact ⟨rfl, _, Eq.trans (World.drewN_drewN _ _ _) (congrArg (World.drewN _) (Nat.add_assoc _ _ _))⟩)))
   repeat (go_quiet (first | ((with_reducible refine gate_dst (N := 2) rfl ?_); refine box_event ?hg (N := 2) ?hd (cs := #[.bool a0_0, .int .i64 a0_1, .int .u64 a0_2, .bool a0_3]) (t := 75) ?hr ?_; (case hd => rfl); (case hg => rfl); (case hr => first | (go_simp; done) | (go_simp; rfl)); intro gb230 hg w12 hbox hb; have n0_ := Aside0.mk (below_step (bl0 HB.out) hb); have n1_ := Aside0.mk (hbox); have n2_ := Aside0.mk ((by rw [hg]; exact (below_size (bl0 HB.out)) : w.heap.size ≤ gb230)); have n3_ := n2_; clear HB; have HB := n0_; have BK230 := n1_; have GW230 := n2_; have GE230 := n3_; clear n0_ n1_ n2_ n3_; clear hb hbox hg; obtain ⟨hcz13_0, hcz13_1, hcz13_2, hcz13_3⟩ := bc4 BK230.out; obtain ⟨hfz13_0, hfz13_1, hfz13_2, hfz13_3⟩ := bf4 BK230.out) | (go_at_call 69; (with_reducible refine (bits_Len.calls k a0_2 t231 _ A3.out).mono ?_); rintro e w' ⟨rfl, ⟨nd, rfl⟩⟩; (try first | exact ⟨rfl, _, World.drewN_drewN _ _ _⟩ | exact ⟨rfl, _, Eq.trans (World.drewN_drewN _ _ _) (congrArg (World.drewN _) (Nat.add_assoc _ _ _))⟩)) | (go_at_call 83; (with_reducible refine (round_Units.calls k a0_2 (wrap64 (-a0_1)) false t232 t233 _ A7.out).mono ?_); rintro e w' ⟨rfl, ⟨nd, rfl⟩⟩; (try first | exact ⟨rfl, _, World.drewN_drewN _ _ _⟩ | exact ⟨rfl, _, Eq.trans (World.drewN_drewN _ _ _) (congrArg (World.drewN _) (Nat.add_assoc _ _ _))⟩)) | (go_at_call 84; (with_reducible refine (round_Up.calls a1 a0_0 t232 t233 false _ A8.out).mono ?_); rintro e w' ⟨rfl, ⟨nd, rfl⟩⟩; (try first | exact ⟨rfl, _, World.drewN_drewN _ _ _⟩ | exact ⟨rfl, _, Eq.trans (World.drewN_drewN _ _ _) (congrArg (World.drewN _) (Nat.add_assoc _ _ _))⟩))); try go_wp2_with (first | ((with_reducible refine gate_dst (N := 2) rfl ?_); refine box_event ?hg (N := 2) ?hd (cs := #[.bool a0_0, .int .i64 a0_1, .int .u64 a0_2, .bool a0_3]) (t := 75) ?hr ?_; (case hd => rfl); (case hg => rfl); (case hr => first | (go_simp; done) | (go_simp; rfl)); intro gb230 hg w12 hbox hb; have n0_ := Aside0.mk (below_step (bl0 HB.out) hb); have n1_ := Aside0.mk (hbox); have n2_ := Aside0.mk ((by rw [hg]; exact (below_size (bl0 HB.out)) : w.heap.size ≤ gb230)); have n3_ := n2_; clear HB; have HB := n0_; have BK230 := n1_; have GW230 := n2_; have GE230 := n3_; clear n0_ n1_ n2_ n3_; clear hb hbox hg; obtain ⟨hcz13_0, hcz13_1, hcz13_2, hcz13_3⟩ := bc4 BK230.out; obtain ⟨hfz13_0, hfz13_1, hfz13_2, hfz13_3⟩ := bf4 BK230.out) | (go_at_call 69; (with_reducible refine (bits_Len.calls k a0_2 t231 _ A3.out).mono ?_); rintro e w' ⟨rfl, ⟨nd, rfl⟩⟩; (try first | exact ⟨rfl, _, World.drewN_drewN _ _ _⟩ | exact ⟨rfl, _, Eq.trans (World.drewN_drewN _ _ _) (congrArg (World.drewN _) (Nat.add_assoc _ _ _))⟩)) | (go_at_call 83; (with_reducible refine (round_Units.calls k a0_2 (wrap64 (-a0_1)) false t232 t233 _ A7.out).mono ?_); rintro e w' ⟨rfl, ⟨nd, rfl⟩⟩; (try first | exact ⟨rfl, _, World.drewN_drewN _ _ _⟩ | exact ⟨rfl, _, Eq.trans (World.drewN_drewN _ _ _) (congrArg (World.drewN _) (Nat.add_assoc _ _ _))⟩)) | (go_at_call 84; (with_reducible refine (round_Up.calls a1 a0_0 t232 t233 false _ A8.out).mono ?_); rintro e w' ⟨rfl, ⟨nd, rfl⟩⟩; (try first | exact ⟨rfl, _, World.drewN_drewN _ _ _⟩ | exact ⟨rfl, _, Eq.trans (World.drewN_drewN _ _ _) (congrArg (World.drewN _) (Nat.add_assoc _ _ _))⟩))))
   go_ret2
   exact ⟨by first | rfl | (simp [errW_none, errW_some] <;> rfl) | (simp [*, errW_none, errW_some] <;> rfl), bl1 HB.out GE230.out⟩


/-! ### whole_ToInt: function 32 -/
def whole_ToInt.j0 : Nat → Bool → Int → Option (Int × Bool × Bool × Bool × Bool × Bool)
 |0, _, _ => none
 |k + 1, x10, x11 => if x11 = (wrap64 (wrap32 (x11))) then (some (wrap32 (x11), false, false, false, false, x10)) else (some ((-2147483648), true, false, false, false, false))
def whole_ToInt.f (k : Nat) (a0 : Int) (a1 : Int) (a2 : Int) : Option (Int × Bool × Bool × Bool × Bool × Bool) := (format_Finite.f a0 a2).bind fun t236 => (if t236 = true then ((sum_Of.f a0 a2).bind fun bt237 => ((whole_units.f k bt237.1 bt237.2.1 bt237.2.2.1 bt237.2.2.2 a1).bind fun bt242 => (if bt237.1 = true then (whole_ToInt.j0 k bt242.2 (wrap64 (-(wrap64 (bt242.1))))) else (whole_ToInt.j0 k bt242.2 (wrap64 (bt242.1)))))) else (some ((-2147483648), true, false, false, false, false)))
theorem whole_ToInt.mono_l : ∀ k, (∀ y0 y1, LeO (whole_ToInt.j0 k y0 y1) (whole_ToInt.j0 (k + 1) y0 y1))
 |0 => fun _ _ r h => by simp [whole_ToInt.j0] at h
 |k + 1 => by
  have ih0 := whole_ToInt.mono_l k
  ·intro y0 y1
   unfold whole_ToInt.j0
   repeat' first
   |(with_reducible exact ih0 _ _)
   |(with_reducible exact whole_units.mono _ _ _ _ _ _)
   |(with_reducible exact LeO.refl _)
   |(with_reducible exact LeO.none _)
   |(with_reducible refine LeO.ite ?_ ?_)
   |(with_reducible refine LeO.bind ?_ (fun _ => ?_))
   |exact ih0 _ _
   |exact whole_units.mono _ _ _ _ _ _
   |exact LeO.none _
   |refine LeO.ite ?_ ?_
   |refine LeO.bind ?_ (fun _ => ?_)
theorem whole_ToInt.mono : ∀ a0 a1 a2 k, LeO (whole_ToInt.f k a0 a1 a2) (whole_ToInt.f (k + 1) a0 a1 a2) := by
 intro a0 a1 a2 k
 have ih0 := whole_ToInt.mono_l k
 unfold whole_ToInt.f
 repeat' first
   |(with_reducible exact ih0 _ _)
   |(with_reducible exact whole_units.mono _ _ _ _ _ _)
   |(with_reducible exact LeO.refl _)
   |(with_reducible exact LeO.none _)
   |(with_reducible refine LeO.ite ?_ ?_)
   |(with_reducible refine LeO.bind ?_ (fun _ => ?_))
   |exact ih0 _ _
   |exact whole_units.mono _ _ _ _ _ _
   |exact LeO.none _
   |refine LeO.ite ?_ ?_
   |refine LeO.bind ?_ (fun _ => ?_)
set_option maxHeartbeats 8000000 in
set_option maxRecDepth 100000 in
theorem whole_ToInt.calls (k : Nat) (a0 : Int) (a1 : Int) (a2 : Int) (r1 : Int) (r2 : Bool) (r3 : Bool) (r4 : Bool) (r5 : Bool) (r6 : Bool) (w : World) (h : whole_ToInt.f k a0 a1 a2 = some (r1, r2, r3, r4, r5, r6)) :
  Calls Try.prog 32 #[.int .i64 a0, .int .i64 a1, .int .u32 a2] w fun e w' => e = .returned (.tuple #[.int .i32 r1, .agg #[.bool r2, .bool r3, .bool r4, .bool r5, .bool r6]]) ∧ Below w.heap.size w w' := by
 have hu41 := Try.underlying41
 have hu75 := Try.underlying75
 have HB := Aside0.mk (Below.refl w.heap.size w)
 have H : ((format_Finite.f a0 a2).bind fun t236 => (if t236 = true then ((sum_Of.f a0 a2).bind fun bt237 => ((whole_units.f k bt237.1 bt237.2.1 bt237.2.2.1 bt237.2.2.2 a1).bind fun bt242 => (if bt237.1 = true then (whole_ToInt.j0 k bt242.2 (wrap64 (-(wrap64 (bt242.1))))) else (whole_ToInt.j0 k bt242.2 (wrap64 (bt242.1)))))) else (some ((-2147483648), true, false, false, false, false)))) = some (r1, r2, r3, r4, r5, r6) := h
 clear h
 replace H := Option.bind_eq_some_iff.mp H
 obtain ⟨t236, A40, H⟩ := H
 replace H : (if t236 = true then ((sum_Of.f a0 a2).bind fun bt237 => ((whole_units.f k bt237.1 bt237.2.1 bt237.2.2.1 bt237.2.2.2 a1).bind fun bt242 => (if bt237.1 = true then (whole_ToInt.j0 k bt242.2 (wrap64 (-(wrap64 (bt242.1))))) else (whole_ToInt.j0 k bt242.2 (wrap64 (bt242.1)))))) else (some ((-2147483648), true, false, false, false, false))) = some (r1, r2, r3, r4, r5, r6) := H
 have A4 := Aside0.mk A40
 clear A40
 by_cases c5 : t236 = true
 ·subst c5
  have H1 : ((sum_Of.f a0 a2).bind fun bt237 => ((whole_units.f k bt237.1 bt237.2.1 bt237.2.2.1 bt237.2.2.2 a1).bind fun bt242 => (if bt237.1 = true then (whole_ToInt.j0 k bt242.2 (wrap64 (-(wrap64 (bt242.1))))) else (whole_ToInt.j0 k bt242.2 (wrap64 (bt242.1)))))) = some (r1, r2, r3, r4, r5, r6) := by rw [if_pos rfl] at H; exact H
  clear H
  have H := H1
  clear H1
  replace H := Option.bind_eq_some_iff.mp H
  obtain ⟨⟨t237, t238, t239, t240⟩, A60, H⟩ := H
  replace H : ((whole_units.f k t237 t238 t239 t240 a1).bind fun bt242 => (if t237 = true then (whole_ToInt.j0 k bt242.2 (wrap64 (-(wrap64 (bt242.1))))) else (whole_ToInt.j0 k bt242.2 (wrap64 (bt242.1))))) = some (r1, r2, r3, r4, r5, r6) := H
  have A6 := Aside0.mk A60
  clear A60
  replace H := Option.bind_eq_some_iff.mp H
  obtain ⟨⟨t242, t243⟩, A70, H⟩ := H
  replace H : (if t237 = true then (whole_ToInt.j0 k t243 (wrap64 (-(wrap64 (t242))))) else (whole_ToInt.j0 k t243 (wrap64 (t242)))) = some (r1, r2, r3, r4, r5, r6) := H
  have A7 := Aside0.mk A70
  clear A70
  have HC8 := Aside0.mk H
  clear H
  go_enter Try.func32, Try.ntmps32
  go_upto_if 27 with (first | ((with_reducible refine gate_dst (N := 7) rfl ?_); refine box_event ?hg (N := 7) ?hd (cs := F5) (t := 41) ?hr ?_; (case hd => rfl); (case hg => rfl); (case hr => first | (go_simp; done) | (go_simp; rfl)); intro gb235 hg w9 hbox hb; have n0_ := Aside0.mk (below_step (bl0 HB.out) hb); have n1_ := Aside0.mk (hbox); have n2_ := Aside0.mk ((by rw [hg]; exact (below_size (bl0 HB.out)) : w.heap.size ≤ gb235)); have n3_ := n2_; clear HB; have HB := n0_; have BK235 := n1_; have GW235 := n2_; have GE235 := n3_; clear n0_ n1_ n2_ n3_; clear hb hbox hg) | ((with_reducible refine gate_callee (f := 61) rfl ?_); refine goesL_ (some 14) rfl rfl Try.func61 (by kernel_rfl) rfl #[.int .i64 a0, .int .u32 a2] rfl gl ?_; (with_reducible refine (format_Finite.calls a0 a2 true _ A4.out).mono ?_); rintro e w' ⟨rfl, ⟨nd, rfl⟩⟩; refine ⟨_, rfl, ?_⟩; (try (rw [drewN_self w9]; generalize hq_ : World.drewN w9 _ = w9; have n0_ : Aside0 (w9.heap[gb235]? = some (o5_ false false false false false 41)) := ⟨by rw [← hq_]; exact (bv BK235.out)⟩; have n1_ : Aside0 (Below w.heap.size w w9) := ⟨by rw [← hq_]; exact (bl1 HB.out GE235.out)⟩; clear BK235 HB hq_; have BK235 := n0_; have HB := n1_; clear n0_ n1_))) | ((with_reducible refine gate_callee (f := 55) rfl ?_); refine goesL_ (some 17) rfl rfl Try.func55 (by kernel_rfl) rfl #[.int .i64 a0, .int .u32 a2] rfl gl ?_; (with_reducible refine (sum_Of.calls a0 a2 t237 t238 t239 t240 _ A6.out).mono ?_); rintro e w10 ⟨rfl, hb⟩; refine ⟨_, rfl, ?_⟩; have n0_ := Aside0.mk (blk_below (g := gb235) (o := o5_ false false false false false 41) (bv BK235.out) hb); have n1_ := Aside0.mk (below_step (bl1 HB.out GE235.out) hb); clear BK235; clear HB; have BK235 := n0_; have HB := n1_; clear n0_ n1_) | ((with_reducible refine gate_dst (N := 8) rfl ?_); refine box_event ?hg (N := 8) ?hd (cs := #[.bool false, .int .i64 0, .int .u64 0, .bool false]) (t := 75) ?hr ?_; (case hd => rfl); (case hg => rfl); (case hr => first | (go_simp; done) | (go_simp; rfl)); intro gb241 hg w11 hbox hb; have n0_ := Aside0.mk (blk_below (g := gb235) (o := o5_ false false false false false 41) (bv BK235.out) hb); have n1_ := Aside0.mk (below_step (bl1 HB.out GE235.out) hb); have n2_ := Aside0.mk (hbox); have n3_ := Aside0.mk ((by rw [hg]; exact (below_size (bl1 HB.out GE235.out)) : w.heap.size ≤ gb241)); have n4_ := n3_; have n5_ := Aside0.mk ((by rw [hg]; exact Nat.ne_of_lt (blk_lt (g := gb235) (o := .cells F5 41 (0, 0)) (bv BK235.out)) : gb235 ≠ gb241)); have n6_ := Aside0.mk (Ne.symm n5_.out); clear BK235; clear HB; have BK235 := n0_; have HB := n1_; have BK241 := n2_; have GW241 := n3_; have GE241 := n4_; have NB235_241 := n5_; have NB241_235 := n6_; clear n0_ n1_ n2_ n3_ n4_ n5_ n6_; clear hb hbox hg; have hnb12 := NB241_235.out; have hnc12 := NB235_241.out; obtain ⟨hcz13_0, hcz13_1, hcz13_2, hcz13_3⟩ := bc4 BK241.out; obtain ⟨hfz13_0, hfz13_1, hfz13_2, hfz13_3⟩ := bf4 BK241.out) | ((with_reducible refine gate_callee (f := 62) rfl ?_); refine goesL_ (some 21) rfl rfl Try.func62 (by kernel_rfl) rfl #[.agg #[.bool t237, .int .i64 t238, .int .u64 t239, .bool t240], .int .i64 a1] rfl gl ?_; (with_reducible refine (whole_units.calls k t237 t238 t239 t240 a1 t242 t243 _ A7.out).mono ?_); rintro e w14 ⟨rfl, hb⟩; refine ⟨_, rfl, ?_⟩; have n0_ := Aside0.mk (blk_below (g := gb235) (o := o5_ false false false false false 41) (by (with_reducible repeat first | apply bd | apply be | apply ba); refine blk_far ?_ NB235_241.out _; (with_reducible repeat first | apply bd | apply be | apply ba); refine blk_far ?_ NB235_241.out _; (with_reducible repeat first | apply bd | apply be | apply ba); refine blk_far ?_ NB235_241.out _; (with_reducible repeat first | apply bd | apply be | apply ba); refine blk_far ?_ NB235_241.out _; (with_reducible repeat first | apply bd | apply be | apply ba); exact BK235.out) hb); have n1_ := Aside0.mk (blk_below (g := gb241) (o := .cells #[.bool t237, .int .i64 t238, .int .u64 t239, .bool t240] 75 (0, 0)) (by (with_reducible repeat first | apply bd | apply be | apply ba); refine blk_put (cs := #[.bool t237, .int .i64 t238, .int .u64 t239, .bool false]) ?_ 3 _ rfl; (with_reducible repeat first | apply bd | apply be | apply ba); refine blk_put (cs := #[.bool t237, .int .i64 t238, .int .u64 0, .bool false]) ?_ 2 _ rfl; (with_reducible repeat first | apply bd | apply be | apply ba); refine blk_put (cs := #[.bool t237, .int .i64 0, .int .u64 0, .bool false]) ?_ 1 _ rfl; (with_reducible repeat first | apply bd | apply be | apply ba); refine blk_put (cs := #[.bool false, .int .i64 0, .int .u64 0, .bool false]) ?_ 0 _ rfl; (with_reducible repeat first | apply bd | apply be | apply ba); exact BK241.out) hb); have n2_ := Aside0.mk (below_step (bl2 HB.out GE235.out GE241.out) hb); clear BK235; clear BK241; clear HB; have BK235 := n0_; have BK241 := n1_; have HB := n2_; clear n0_ n1_ n2_; obtain ⟨hcz15_0, hcz15_1, hcz15_2, hcz15_3⟩ := bc4 BK241.out; obtain ⟨hfz15_0, hfz15_1, hfz15_2, hfz15_3⟩ := bf4 BK241.out))
  (try simp only [Act.put, sb, sz, ss])
  go_cut [11] (fun v11 wc => ∃ (kq : Nat) (x11_7 : Int), v11 = .int .i64 x11_7 ∧ Aside0 (whole_ToInt.j0 kq t243 x11_7 = some (r1, r2, r3, r4, r5, r6)) ∧ Aside0 (kq ≤ k) ∧ Aside0 (wc.heap[gb235]? = some (o5_ false false false false false 41)) ∧ Aside0 (wc.heap[gb241]? = some (.cells #[.bool t237, .int .i64 t238, .int .u64 t239, .bool t240] 75 (0, 0))) ∧ Aside0 (Below w.heap.size w wc))
  case first =>
   have H := HC8.out
   clear HC8
   by_cases c16 : t237 = true
   ·subst c16
    have H1 : (whole_ToInt.j0 k t243 (wrap64 (-(wrap64 (t242))))) = some (r1, r2, r3, r4, r5, r6) := by rw [if_pos rfl] at H; exact H
    clear H
    have H := H1
    clear H1
    have H' := Aside0.mk H
    clear H
    go_wp2
    go_meet
    case rel => exact ⟨_, (wrap64 (-(wrap64 (t242)))), (by first | rfl | (simp; done) | (simp [*]; done) | (congr 1; (try unfold wrap64); omega) | (congr 1; rw [IntKind.wrap_u64]; omega)), H', ⟨by first | omega | exact Nat.le_refl _⟩, ⟨by (with_reducible repeat first | apply bd | apply be | apply ba); exact BK235.out⟩, ⟨by (with_reducible repeat first | apply bd | apply be | apply ba); exact BK241.out⟩, ⟨bl2 HB.out GE235.out GE241.out⟩⟩
   ·replace c16 := Bool.eq_false_iff.mpr c16
    subst c16
    have H1 : (whole_ToInt.j0 k t243 (wrap64 (t242))) = some (r1, r2, r3, r4, r5, r6) := by rw [if_neg (show ¬ (false = true) by decide)] at H; exact H
    clear H
    have H := H1
    clear H1
    have H' := Aside0.mk H
    clear H
    go_wp2
    go_meet
    case rel => exact ⟨_, (wrap64 (t242)), (by first | rfl | (simp; done) | (simp [*]; done) | (congr 1; (try unfold wrap64); omega) | (congr 1; rw [IntKind.wrap_u64]; omega)), H', ⟨by first | omega | exact Nat.le_refl _⟩, ⟨by (with_reducible repeat first | apply bd | apply be | apply ba); exact BK235.out⟩, ⟨by (with_reducible repeat first | apply bd | apply be | apply ba); exact BK241.out⟩, ⟨bl2 HB.out GE235.out GE241.out⟩⟩
  case rest =>
   clear HC8
   try clear c1 p2 c3 c5 c6 p6 c12 c16 hcz13_0 hcz13_1 hcz13_2 hcz13_3 hcz15_0 hcz15_1 hcz15_2 hcz15_3 hfz13_0 hfz13_1 hfz13_2 hfz13_3 hfz15_0 hfz15_1 hfz15_2 hfz15_3
   obtain ⟨kq, x11_7, rfl, HA, HJ7, BK235, BK241, HB⟩ := hcut
   cases kq with
   |zero => exact absurd HA.out (by simp [whole_ToInt.j0])
   |succ kj7 =>
    have H := HA.out
    clear HA
    simp only [whole_ToInt.j0] at H
    by_cases c17 : x11_7 = (wrap64 (wrap32 (x11_7)))
    ·rw [if_pos c17] at H
     have c17b0 : (x11_7 == (wrap64 (wrap32 (x11_7)))) = true := beq_iff_eq.mpr c17
     have c17b1 : (x11_7 != (wrap64 (wrap32 (x11_7)))) = false := bne_eq_false_iff_eq.mpr c17
     clear c17
     simp only [Option.some.injEq, Prod.mk.injEq] at H
     obtain ⟨rfl, rfl, rfl, rfl, rfl, rfl⟩ := H
     have hnb18 := NB235_241.out
     have hnc18 := NB241_235.out
     have hcz19_0 : wc.cell? ⟨gb235, 0, none⟩ = some (.bool false) := (blk_cell BK235.out 0).trans rfl
     have hcz19_1 : wc.cell? ⟨gb235, 1, none⟩ = some (.bool false) := (blk_cell BK235.out 1).trans rfl
     have hcz19_2 : wc.cell? ⟨gb235, 2, none⟩ = some (.bool false) := (blk_cell BK235.out 2).trans rfl
     have hcz19_3 : wc.cell? ⟨gb235, 3, none⟩ = some (.bool false) := (blk_cell BK235.out 3).trans rfl
     have hcz19_4 : wc.cell? ⟨gb235, 4, none⟩ = some (.bool false) := (blk_cell BK235.out 4).trans rfl
     have hfz19_0 := blk_frozen BK235.out 0
     have hfz19_1 := blk_frozen BK235.out 1
     have hfz19_2 := blk_frozen BK235.out 2
     have hfz19_3 := blk_frozen BK235.out 3
     have hfz19_4 := blk_frozen BK235.out 4
     go_wp2
     refine bodyPost_ret (results_tc rfl _ _ gb235 41 #[.bool false, .bool false, .bool false, .bool false, .bool t243] (0, 0) _ rfl (by (with_reducible repeat first | apply bd | apply be | apply ba); refine blk_put (cs := F5) ?_ 4 _ rfl; (with_reducible repeat first | apply bd | apply be | apply ba); refine blk_put (cs := F5) ?_ 3 _ rfl; (with_reducible repeat first | apply bd | apply be | apply ba); refine blk_put (cs := F5) ?_ 2 _ rfl; (with_reducible repeat first | apply bd | apply be | apply ba); refine blk_put (cs := F5) ?_ 1 _ rfl; (with_reducible repeat first | apply bd | apply be | apply ba); refine blk_put (cs := F5) ?_ 0 _ rfl; (with_reducible repeat first | apply bd | apply be | apply ba); exact BK235.out) Try.underlying41 rfl (by kernel_rfl)) rfl ?_
     exact ⟨by first | rfl | (simp [errW_none, errW_some] <;> rfl) | (simp [*, errW_none, errW_some] <;> rfl), bl2 HB.out GE235.out GE241.out⟩
    ·rw [if_neg c17] at H
     have c17b0 : (x11_7 == (wrap64 (wrap32 (x11_7)))) = false := beq_eq_false_iff_ne.mpr c17
     have c17b1 : (x11_7 != (wrap64 (wrap32 (x11_7)))) = true := bne_iff_ne.mpr c17
     simp only [Option.some.injEq, Prod.mk.injEq] at H
     obtain ⟨rfl, rfl, rfl, rfl, rfl, rfl⟩ := H
     have hnb20 := NB235_241.out
     have hnc20 := NB241_235.out
     have hcz21_0 : wc.cell? ⟨gb235, 0, none⟩ = some (.bool false) := (blk_cell BK235.out 0).trans rfl
     have hcz21_1 : wc.cell? ⟨gb235, 1, none⟩ = some (.bool false) := (blk_cell BK235.out 1).trans rfl
     have hcz21_2 : wc.cell? ⟨gb235, 2, none⟩ = some (.bool false) := (blk_cell BK235.out 2).trans rfl
     have hcz21_3 : wc.cell? ⟨gb235, 3, none⟩ = some (.bool false) := (blk_cell BK235.out 3).trans rfl
     have hcz21_4 : wc.cell? ⟨gb235, 4, none⟩ = some (.bool false) := (blk_cell BK235.out 4).trans rfl
     have hfz21_0 := blk_frozen BK235.out 0
     have hfz21_1 := blk_frozen BK235.out 1
     have hfz21_2 := blk_frozen BK235.out 2
     have hfz21_3 := blk_frozen BK235.out 3
     have hfz21_4 := blk_frozen BK235.out 4
     go_wp2
     refine bodyPost_ret (results_tc rfl _ _ gb235 41 #[.bool true, .bool false, .bool false, .bool false, .bool false] (0, 0) _ rfl (by (with_reducible repeat first | apply bd | apply be | apply ba); refine blk_put (cs := q5_ true false false false false) ?_ 4 _ rfl; (with_reducible repeat first | apply bd | apply be | apply ba); refine blk_put (cs := q5_ true false false false false) ?_ 3 _ rfl; (with_reducible repeat first | apply bd | apply be | apply ba); refine blk_put (cs := q5_ true false false false false) ?_ 2 _ rfl; (with_reducible repeat first | apply bd | apply be | apply ba); refine blk_put (cs := q5_ true false false false false) ?_ 1 _ rfl; (with_reducible repeat first | apply bd | apply be | apply ba); refine blk_put (cs := F5) ?_ 0 _ rfl; (with_reducible repeat first | apply bd | apply be | apply ba); exact BK235.out) Try.underlying41 rfl (by kernel_rfl)) rfl ?_
     exact ⟨by first | rfl | (simp [errW_none, errW_some] <;> rfl) | (simp [*, errW_none, errW_some] <;> rfl), bl2 HB.out GE235.out GE241.out⟩
 ·replace c5 := Bool.eq_false_iff.mpr c5
  subst c5
  have H1 : (some ((-2147483648), true, false, false, false, false)) = some (r1, r2, r3, r4, r5, r6) := by rw [if_neg (show ¬ (false = true) by decide)] at H; exact H
  clear H
  have H := H1
  clear H1
  simp only [Option.some.injEq, Prod.mk.injEq] at H
  obtain ⟨rfl, rfl, rfl, rfl, rfl, rfl⟩ := H
  go_enter Try.func32, Try.ntmps32
  go_wp2_with (first | ((with_reducible refine gate_dst (N := 7) rfl ?_); refine box_event ?hg (N := 7) ?hd (cs := F5) (t := 41) ?hr ?_; (case hd => rfl); (case hg => rfl); (case hr => first | (go_simp; done) | (go_simp; rfl)); intro gb235 hg w22 hbox hb; have n0_ := Aside0.mk (below_step (bl0 HB.out) hb); have n1_ := Aside0.mk (hbox); have n2_ := Aside0.mk ((by rw [hg]; exact (below_size (bl0 HB.out)) : w.heap.size ≤ gb235)); have n3_ := n2_; clear HB; have HB := n0_; have BK235 := n1_; have GW235 := n2_; have GE235 := n3_; clear n0_ n1_ n2_ n3_; clear hb hbox hg) | ((with_reducible refine gate_callee (f := 61) rfl ?_); refine goesL_ (some 14) rfl rfl Try.func61 (by kernel_rfl) rfl #[.int .i64 a0, .int .u32 a2] rfl gl ?_; (with_reducible refine (format_Finite.calls a0 a2 false _ A4.out).mono ?_); rintro e w' ⟨rfl, ⟨nd, rfl⟩⟩; refine ⟨_, rfl, ?_⟩; (try (rw [drewN_self w22]; generalize hq_ : World.drewN w22 _ = w22; have n0_ : Aside0 (w22.heap[gb235]? = some (o5_ false false false false false 41)) := ⟨by rw [← hq_]; exact (bv BK235.out)⟩; have n1_ : Aside0 (Below w.heap.size w w22) := ⟨by rw [← hq_]; exact (bl1 HB.out GE235.out)⟩; clear BK235 HB hq_; have BK235 := n0_; have HB := n1_; clear n0_ n1_)); obtain ⟨hcz23_0, hcz23_1, hcz23_2, hcz23_3, hcz23_4⟩ := bc5 BK235.out; obtain ⟨hfz23_0, hfz23_1, hfz23_2, hfz23_3, hfz23_4⟩ := bf5 BK235.out))
  refine bodyPost_ret (results_tc rfl _ _ gb235 41 #[.bool true, .bool false, .bool false, .bool false, .bool false] (0, 0) _ rfl (by (with_reducible repeat first | apply bd | apply be | apply ba); refine blk_put (cs := q5_ true false false false false) ?_ 4 _ rfl; (with_reducible repeat first | apply bd | apply be | apply ba); refine blk_put (cs := q5_ true false false false false) ?_ 3 _ rfl; (with_reducible repeat first | apply bd | apply be | apply ba); refine blk_put (cs := q5_ true false false false false) ?_ 2 _ rfl; (with_reducible repeat first | apply bd | apply be | apply ba); refine blk_put (cs := q5_ true false false false false) ?_ 1 _ rfl; (with_reducible repeat first | apply bd | apply be | apply ba); refine blk_put (cs := F5) ?_ 0 _ rfl; (with_reducible repeat first | apply bd | apply be | apply ba); exact BK235.out) Try.underlying41 rfl (by kernel_rfl)) rfl ?_
  exact ⟨by first | rfl | (simp [errW_none, errW_some] <;> rfl) | (simp [*, errW_none, errW_some] <;> rfl), bl1 HB.out GE235.out⟩

/-! ### whole_amount: function 78 -/
def whole_amount.f (a0 : Int) : Option (Int) := if a0 < 0 then (some (IntKind.u64.wrap (-(IntKind.u64.wrap (a0))))) else (some (IntKind.u64.wrap (a0)))
set_option maxHeartbeats 8000000 in
set_option maxRecDepth 100000 in
theorem whole_amount.calls (a0 : Int) (r : Int) (w : World) (h : whole_amount.f a0 = some r) :
  Calls Try.prog 78 #[.int .i64 a0] w fun e w' => e = .returned (.int .u64 r) ∧ Drawn0 w w' := by
 have H : (if a0 < 0 then (some (IntKind.u64.wrap (-(IntKind.u64.wrap (a0))))) else (some (IntKind.u64.wrap (a0)))) = some r := h
 clear h
 by_cases c2 : a0 < 0
 ·rw [if_pos c2] at H
  have c2b0 : decide (a0 < 0) = true := decide_eq_true c2
  clear c2
  obtain rfl := Option.some.inj H
  go_enter Try.func78, Try.ntmps78
  go_wp2
  go_ret
  exact ⟨by first | rfl | (simp; done) | (simp [*]; done) | (congr 1; (try unfold wrap64); omega) | (congr 1; rw [IntKind.wrap_u64]; omega), by repeat (first | exact Drawn0.refl _ | apply Drawn0.step)⟩
 ·rw [if_neg c2] at H
  have c2b0 : decide (a0 < 0) = false := decide_eq_false c2
  clear c2
  obtain rfl := Option.some.inj H
  go_enter Try.func78, Try.ntmps78
  go_wp2
  go_ret
  exact ⟨by first | rfl | (simp; done) | (simp [*]; done) | (congr 1; (try unfold wrap64); omega) | (congr 1; rw [IntKind.wrap_u64]; omega), by repeat (first | exact Drawn0.refl _ | apply Drawn0.step)⟩

/-! ### whole_FromInt: function 45 -/
def whole_FromInt.f (k : Nat) (a0 : Int) (a1 : Int) (a2 : Int) : Option (Int × Bool × Bool × Bool × Bool × Bool) := (whole_amount.f a2).bind fun t245 => ((round_Pack.f k a0 a1 (decide (a2 < 0)) 0 t245 false).bind fun bt246 => (some (bt246.1, bt246.2.1, bt246.2.2.1, bt246.2.2.2.1, bt246.2.2.2.2.1, bt246.2.2.2.2.2)))
theorem whole_FromInt.mono : ∀ a0 a1 a2 k, LeO (whole_FromInt.f k a0 a1 a2) (whole_FromInt.f (k + 1) a0 a1 a2) := by
 intro a0 a1 a2 k
 unfold whole_FromInt.f
 repeat' first
   |(with_reducible exact round_Pack.mono _ _ _ _ _ _ _)
   |(with_reducible exact LeO.refl _)
   |(with_reducible exact LeO.none _)
   |(with_reducible refine LeO.ite ?_ ?_)
   |(with_reducible refine LeO.bind ?_ (fun _ => ?_))
   |exact round_Pack.mono _ _ _ _ _ _ _
   |exact LeO.none _
   |refine LeO.ite ?_ ?_
   |refine LeO.bind ?_ (fun _ => ?_)
set_option maxHeartbeats 8000000 in
set_option maxRecDepth 100000 in
theorem whole_FromInt.calls (k : Nat) (a0 : Int) (a1 : Int) (a2 : Int) (r1 : Int) (r2 : Bool) (r3 : Bool) (r4 : Bool) (r5 : Bool) (r6 : Bool) (w : World) (h : whole_FromInt.f k a0 a1 a2 = some (r1, r2, r3, r4, r5, r6)) :
  Calls Try.prog 45 #[.int .i64 a0, .int .i64 a1, .int .i64 a2] w fun e w' => e = .returned (.tuple #[.int .u32 r1, .agg #[.bool r2, .bool r3, .bool r4, .bool r5, .bool r6]]) ∧ Below w.heap.size w w' := by
 have hu41 := Try.underlying41
 have HB := Aside0.mk (Below.refl w.heap.size w)
 have H : ((whole_amount.f a2).bind fun t245 => ((round_Pack.f k a0 a1 (decide (a2 < 0)) 0 t245 false).bind fun bt246 => (some (bt246.1, bt246.2.1, bt246.2.2.1, bt246.2.2.2.1, bt246.2.2.2.2.1, bt246.2.2.2.2.2)))) = some (r1, r2, r3, r4, r5, r6) := h
 clear h
 replace H := Option.bind_eq_some_iff.mp H
 obtain ⟨t245, A40, H⟩ := H
 replace H : ((round_Pack.f k a0 a1 (decide (a2 < 0)) 0 t245 false).bind fun bt246 => (some (bt246.1, bt246.2.1, bt246.2.2.1, bt246.2.2.2.1, bt246.2.2.2.2.1, bt246.2.2.2.2.2))) = some (r1, r2, r3, r4, r5, r6) := H
 have A4 := Aside0.mk A40
 clear A40
 replace H := Option.bind_eq_some_iff.mp H
 obtain ⟨⟨t246, t247, t248, t249, t250, t251⟩, A50, H⟩ := H
 replace H : (some (t246, t247, t248, t249, t250, t251)) = some (r1, r2, r3, r4, r5, r6) := H
 have A5 := Aside0.mk A50
 clear A50
 simp only [Option.some.injEq, Prod.mk.injEq] at H
 obtain ⟨rfl, rfl, rfl, rfl, rfl, rfl⟩ := H
 go_enter Try.func45, Try.ntmps45
 go_wp2_with (first | ((with_reducible refine gate_dst (N := 7) rfl ?_); refine box_event ?hg (N := 7) ?hd (cs := F5) (t := 41) ?hr ?_; (case hd => rfl); (case hg => rfl); (case hr => first | (go_simp; done) | (go_simp; rfl)); intro gb244 hg w6 hbox hb; have n0_ := Aside0.mk (below_step (bl0 HB.out) hb); have n1_ := Aside0.mk (hbox); have n2_ := Aside0.mk ((by rw [hg]; exact (below_size (bl0 HB.out)) : w.heap.size ≤ gb244)); have n3_ := n2_; clear HB; have HB := n0_; have BK244 := n1_; have GW244 := n2_; have GE244 := n3_; clear n0_ n1_ n2_ n3_; clear hb hbox hg) | ((with_reducible refine gate_callee (f := 78) rfl ?_); refine goesL_ (some 13) rfl rfl Try.func78 (by kernel_rfl) rfl #[.int .i64 a2] rfl gl ?_; (with_reducible refine (whole_amount.calls a2 t245 _ A4.out).mono ?_); rintro e w' ⟨rfl, ⟨nd, rfl⟩⟩; refine ⟨_, rfl, ?_⟩; (try (rw [drewN_self w6]; generalize hq_ : World.drewN w6 _ = w6; have n0_ : Aside0 (w6.heap[gb244]? = some (o5_ false false false false false 41)) := ⟨by rw [← hq_]; exact (bv BK244.out)⟩; have n1_ : Aside0 (Below w.heap.size w w6) := ⟨by rw [← hq_]; exact (bl1 HB.out GE244.out)⟩; clear BK244 HB hq_; have BK244 := n0_; have HB := n1_; clear n0_ n1_))) | ((with_reducible refine gate_callee (f := 51) rfl ?_); refine goesL_ (some 14) rfl rfl Try.func51 (by kernel_rfl) rfl #[.int .i64 a0, .int .i64 a1, .bool (decide (a2 < 0)), .int .i64 0, .int .u64 t245, .bool false] rfl gl ?_; (with_reducible refine (round_Pack.calls k a0 a1 (decide (a2 < 0)) 0 t245 false t246 t247 t248 t249 t250 t251 _ A5.out).mono ?_); rintro e w7 ⟨rfl, hb⟩; refine ⟨_, rfl, ?_⟩; have n0_ := Aside0.mk (blk_below (g := gb244) (o := o5_ false false false false false 41) (bv BK244.out) hb); have n1_ := Aside0.mk (below_step (bl1 HB.out GE244.out) hb); clear BK244; clear HB; have BK244 := n0_; have HB := n1_; clear n0_ n1_; obtain ⟨hcz8_0, hcz8_1, hcz8_2, hcz8_3, hcz8_4⟩ := bc5 BK244.out; obtain ⟨hfz8_0, hfz8_1, hfz8_2, hfz8_3, hfz8_4⟩ := bf5 BK244.out))
 refine bodyPost_ret (results_tc rfl _ _ gb244 41 #[.bool t247, .bool t248, .bool t249, .bool t250, .bool t251] (0, 0) _ rfl (by (with_reducible repeat first | apply bd | apply be | apply ba); refine blk_put (cs := q5_ t247 t248 t249 t250 false) ?_ 4 _ rfl; (with_reducible repeat first | apply bd | apply be | apply ba); refine blk_put (cs := q5_ t247 t248 t249 false false) ?_ 3 _ rfl; (with_reducible repeat first | apply bd | apply be | apply ba); refine blk_put (cs := q5_ t247 t248 false false false) ?_ 2 _ rfl; (with_reducible repeat first | apply bd | apply be | apply ba); refine blk_put (cs := q5_ t247 false false false false) ?_ 1 _ rfl; (with_reducible repeat first | apply bd | apply be | apply ba); refine blk_put (cs := F5) ?_ 0 _ rfl; (with_reducible repeat first | apply bd | apply be | apply ba); exact BK244.out) Try.underlying41 rfl (by kernel_rfl)) rfl ?_
 exact ⟨by first | rfl | (simp [errW_none, errW_some] <;> rfl) | (simp [*, errW_none, errW_some] <;> rfl), bl1 HB.out GE244.out⟩

end Go.Proofs.Ytngkpekmgahjiaa.P
