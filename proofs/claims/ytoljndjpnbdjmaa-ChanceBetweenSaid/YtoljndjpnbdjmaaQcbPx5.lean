import Derived.Test.YtoljndjpnbdjmaaQcbZ
import Derived.Test.YtoljndjpnbdjmaaQcbM1
-- Printed by a program of this session's out of Lean's print of the translation; Lean checks it.
namespace Go.Proofs.Ytoljndjpnbdjmaa.P
open Go.RowKit Go.Proofs.YtoljndjpnbdjmaaW.PrintWords Go.Proofs.YtoljndjpnbdjmaaW.PrintLast Go.Proofs.YtoljndjpnbdjmaaW.PrintMore
attribute [local go_sem] max2_int min2_int max_two min_two max_three min_three max_four min_four   -- for this text's walks alone
set_option linter.unusedVariables false
set_option linter.unusedSimpArgs false

/-! ### round_beyond: function 48 -/
def round_beyond.f (a0 : Int) (a1 : Int) (a2 : Bool) : Option (Int × Bool × Bool × Bool × Bool × Bool) := if a1 = 1 then ((format_Greatest.f a0 a2).bind fun t127 => (some (t127, false, false, true, false, true))) else (if a1 = 2 then (if a2 = true then ((format_Greatest.f a0 a2).bind fun t128 => (some (t128, false, false, true, false, true))) else ((format_Inf.f a0 a2).bind fun t129 => (some (t129, false, false, true, false, true)))) else (if a1 = 3 then (if a2 = true then ((format_Inf.f a0 a2).bind fun t130 => (some (t130, false, false, true, false, true))) else ((format_Greatest.f a0 a2).bind fun t131 => (some (t131, false, false, true, false, true)))) else ((format_Inf.f a0 a2).bind fun t132 => (some (t132, false, false, true, false, true)))))
set_option maxHeartbeats 8000000 in
set_option maxRecDepth 100000 in
theorem round_beyond.calls (a0 : Int) (a1 : Int) (a2 : Bool) (r1 : Int) (r2 : Bool) (r3 : Bool) (r4 : Bool) (r5 : Bool) (r6 : Bool) (w : World) (h : round_beyond.f a0 a1 a2 = some (r1, r2, r3, r4, r5, r6)) :
  Calls Try.prog 48 #[.int .i64 a0, .int .i64 a1, .bool a2] w fun e w' => e = .returned (.tuple #[.int .u32 r1, .agg #[.bool r2, .bool r3, .bool r4, .bool r5, .bool r6]]) ∧ Below w.heap.size w w' := by
 have hu30 := Try.underlying30
 have HB := Aside0.mk (Below.refl w.heap.size w)
 have H : (if a1 = 1 then ((format_Greatest.f a0 a2).bind fun t127 => (some (t127, false, false, true, false, true))) else (if a1 = 2 then (if a2 = true then ((format_Greatest.f a0 a2).bind fun t128 => (some (t128, false, false, true, false, true))) else ((format_Inf.f a0 a2).bind fun t129 => (some (t129, false, false, true, false, true)))) else (if a1 = 3 then (if a2 = true then ((format_Inf.f a0 a2).bind fun t130 => (some (t130, false, false, true, false, true))) else ((format_Greatest.f a0 a2).bind fun t131 => (some (t131, false, false, true, false, true)))) else ((format_Inf.f a0 a2).bind fun t132 => (some (t132, false, false, true, false, true)))))) = some (r1, r2, r3, r4, r5, r6) := h
 clear h
 by_cases c4 : a1 = 1
 ·rw [if_pos c4] at H
  have c4b0 : (a1 == 1) = true := beq_iff_eq.mpr c4
  have c4b1 : (a1 != 1) = false := bne_eq_false_iff_eq.mpr c4
  clear c4
  replace H := Option.bind_eq_some_iff.mp H
  obtain ⟨t127, A50, H⟩ := H
  replace H : (some (t127, false, false, true, false, true)) = some (r1, r2, r3, r4, r5, r6) := H
  have A5 := Aside0.mk A50
  clear A50
  simp only [Option.some.injEq, Prod.mk.injEq] at H
  obtain ⟨rfl, rfl, rfl, rfl, rfl, rfl⟩ := H
  go_enter Try.func48, Try.ntmps48
  try go_wp2_with (first | ((with_reducible refine gate_dst (N := 7) rfl ?_); refine box_event ?hg (N := 7) ?hd (cs := F5) (t := 30) ?hr ?_; (case hd => rfl); (case hg => rfl); (case hr => first | (go_simp; done) | (go_simp; rfl)); intro gb125 hg w6 hbox hb; have n0_ := Aside0.mk (below_step (bl0 HB.out) hb); have n1_ := Aside0.mk (hbox); have n2_ := Aside0.mk ((by rw [hg]; exact (below_size (bl0 HB.out)) : w.heap.size ≤ gb125)); have n3_ := n2_; clear HB; have HB := n0_; have BK125 := n1_; have GW125 := n2_; have GE125 := n3_; clear n0_ n1_ n2_ n3_; clear hb hbox hg) | ((with_reducible refine gate_dst (N := 8) rfl ?_); refine box_event ?hg (N := 8) ?hd (cs := F5) (t := 30) ?hr ?_; (case hd => rfl); (case hg => rfl); (case hr => first | (go_simp; done) | (go_simp; rfl)); intro gb126 hg w7 hbox hb; have n0_ := Aside0.mk (blk_below (g := gb125) (o := .cells #[.bool false, .bool false, .bool false, .bool false, .bool false] 30 (0, 0)) (bv BK125.out) hb); have n1_ := Aside0.mk (below_step (bl1 HB.out GE125.out) hb); have n2_ := Aside0.mk (hbox); have n3_ := Aside0.mk ((by rw [hg]; exact (below_size (bl1 HB.out GE125.out)) : w.heap.size ≤ gb126)); have n4_ := n3_; have n5_ := Aside0.mk ((by rw [hg]; exact Nat.ne_of_lt (blk_lt (g := gb125) (o := .cells F5 30 (0, 0)) (bv BK125.out)) : gb125 ≠ gb126)); have n6_ := Aside0.mk (Ne.symm n5_.out); clear BK125; clear HB; have BK125 := n0_; have HB := n1_; have BK126 := n2_; have GW126 := n3_; have GE126 := n4_; have NB125_126 := n5_; have NB126_125 := n6_; clear n0_ n1_ n2_ n3_ n4_ n5_ n6_; clear hb hbox hg; have hnb8 := NB126_125.out; have hnc8 := NB125_126.out; obtain ⟨hcz9_0, hcz9_1, hcz9_2, hcz9_3, hcz9_4⟩ := bc5 BK126.out; obtain ⟨hfz9_0, hfz9_1, hfz9_2, hfz9_3, hfz9_4⟩ := bf5 BK126.out))
  have n0_ : Aside0 ((((((w7.setCell ⟨gb126, 0, none⟩ (.bool false)).setCell ⟨gb126, 1, none⟩ (.bool false)).setCell ⟨gb126, 2, none⟩ (.bool true)).setCell ⟨gb126, 3, none⟩ (.bool false)).setCell ⟨gb126, 4, none⟩ (.bool true)).heap[gb125]? = some (.cells #[.bool false, .bool false, .bool false, .bool false, .bool false] 30 (0, 0))) := ⟨by (with_reducible repeat first | apply bd | apply be | apply ba); refine blk_far ?_ NB125_126.out _; (with_reducible repeat first | apply bd | apply be | apply ba); refine blk_far ?_ NB125_126.out _; (with_reducible repeat first | apply bd | apply be | apply ba); refine blk_far ?_ NB125_126.out _; (with_reducible repeat first | apply bd | apply be | apply ba); refine blk_far ?_ NB125_126.out _; (with_reducible repeat first | apply bd | apply be | apply ba); refine blk_far ?_ NB125_126.out _; (with_reducible repeat first | apply bd | apply be | apply ba); exact BK125.out⟩
  have n1_ : Aside0 ((((((w7.setCell ⟨gb126, 0, none⟩ (.bool false)).setCell ⟨gb126, 1, none⟩ (.bool false)).setCell ⟨gb126, 2, none⟩ (.bool true)).setCell ⟨gb126, 3, none⟩ (.bool false)).setCell ⟨gb126, 4, none⟩ (.bool true)).heap[gb126]? = some (.cells #[.bool false, .bool false, .bool true, .bool false, .bool true] 30 (0, 0))) := ⟨by (with_reducible repeat first | apply bd | apply be | apply ba); refine blk_put (cs := #[.bool false, .bool false, .bool true, .bool false, .bool false]) ?_ 4 _ rfl; (with_reducible repeat first | apply bd | apply be | apply ba); refine blk_put (cs := #[.bool false, .bool false, .bool true, .bool false, .bool false]) ?_ 3 _ rfl; (with_reducible repeat first | apply bd | apply be | apply ba); refine blk_put (cs := F5) ?_ 2 _ rfl; (with_reducible repeat first | apply bd | apply be | apply ba); refine blk_put (cs := F5) ?_ 1 _ rfl; (with_reducible repeat first | apply bd | apply be | apply ba); refine blk_put (cs := F5) ?_ 0 _ rfl; (with_reducible repeat first | apply bd | apply be | apply ba); exact BK126.out⟩
  have n2_ : Aside0 (Below w.heap.size w (((((w7.setCell ⟨gb126, 0, none⟩ (.bool false)).setCell ⟨gb126, 1, none⟩ (.bool false)).setCell ⟨gb126, 2, none⟩ (.bool true)).setCell ⟨gb126, 3, none⟩ (.bool false)).setCell ⟨gb126, 4, none⟩ (.bool true))) := ⟨bl2 HB.out GE125.out GE126.out⟩
  (try clear BK125)
  (try clear BK126)
  (try clear HB)
  generalize (((((w7.setCell ⟨gb126, 0, none⟩ (.bool false)).setCell ⟨gb126, 1, none⟩ (.bool false)).setCell ⟨gb126, 2, none⟩ (.bool true)).setCell ⟨gb126, 3, none⟩ (.bool false)).setCell ⟨gb126, 4, none⟩ (.bool true)) = w10 at n0_ n1_ n2_ ⊢
  have BK125 := n0_
  have BK126 := n1_
  have HB := n2_
  clear n0_ n1_ n2_
  have n0_ := Aside0.mk (blk_drew BK125.out)
  have n1_ := Aside0.mk (blk_drew BK126.out)
  have n2_ := Aside0.mk (below_drew1 HB.out)
  clear BK125
  clear BK126
  clear HB
  have BK125 := n0_
  have BK126 := n1_
  have HB := n2_
  clear n0_ n1_ n2_
  refine start_ (n := 6) (S := fun w' => w'.cell? ⟨gb126, 0, none⟩ = some (.bool false) ∧ w'.cell? ⟨gb126, 1, none⟩ = some (.bool false) ∧ w'.cell? ⟨gb126, 2, none⟩ = some (.bool true) ∧ w'.cell? ⟨gb126, 3, none⟩ = some (.bool false) ∧ w'.cell? ⟨gb126, 4, none⟩ = some (.bool true)) (ds := []) (tf 0 6) (by kernel_rfl) rfl rfl ⟨(blk_cell BK126.out 0).trans rfl, (blk_cell BK126.out 1).trans rfl, (blk_cell BK126.out 2).trans rfl, (blk_cell BK126.out 3).trans rfl, (blk_cell BK126.out 4).trans rfl⟩ (fun hHeld => ?_)
  generalize w10.drew = w11 at BK125 BK126 HB hHeld ⊢
  refine pure_ (i := 0) (N := some 13) (v := ?_) (a' := ?_) (tf 1 5) rfl rfl (by kernel_rfl) (fun _ _ _ h => h) (Or.inl ⟨by rfl, ?_⟩) ?_ ?_
  rotate_left
  ·intro w'
   go_simp
   with_reducible rfl
  rotate_left
  ·simp only [Act.put, sb, sz, ss, i64_w, i32_w]
   rfl
  refine pure_ (i := 1) (N := some 14) (v := ?_) (a' := ?_) (tf 2 4) rfl rfl (by kernel_rfl) (fun _ _ _ h => h) (Or.inl ⟨by rfl, ?_⟩) ?_ ?_
  rotate_left
  ·intro w'
   go_simp
   with_reducible rfl
  rotate_left
  ·simp only [Act.put, sb, sz, ss, i64_w, i32_w]
   rfl
  refine take_ (i := 3) (N := some 16) (v := ?_) (a' := ?_) #[true, true, false, true, false, false] rfl rfl (by kernel_rfl) (fun _ _ _ h => h) (Or.inl ⟨by rfl, ?_⟩) hHeld ?_ ?_
  rotate_left
  ·rintro w' ⟨s0, s1, s2, s3, s4⟩
   go_simp
   with_reducible rfl
  rotate_left
  ·simp only [Act.put, sb, sz, ss, i64_w, i32_w]
   rfl
  refine one_ (i := 2) (N := some 15) (tf 4 2) rfl rfl (by kernel_rfl) (by decide) (fun K hK => ?_)
  refine goes_ Try.func77 (by kernel_rfl) rfl #[.int .i64 a0, .bool a2] (by rfl) rfl rfl gl ?_
  with_reducible refine (format_Greatest.calls a0 a2 t127 _ A5.out).mono ?_
  rintro e w' ⟨rfl, ⟨nd, rfl⟩⟩
  refine ⟨_, rfl, ?_⟩
  refine hK.out _ _ ⟨(blk_cell BK126.out 0).trans rfl, (blk_cell BK126.out 1).trans rfl, (blk_cell BK126.out 2).trans rfl, (blk_cell BK126.out 3).trans rfl, (blk_cell BK126.out 4).trans rfl⟩ (fun hHeld => ?_)
  clear hK K
  refine norm_ (a' := ?_) ?_ ?_
  rotate_left
  ·show Act.put _ (some 15) _ = _
   simp only [Act.put, sb, sz, ss, i64_w, i32_w]
   rfl
  refine pure_ (i := 4) (N := some 6) (v := ?_) (a' := ?_) (tf 5 1) rfl rfl (by kernel_rfl) (fun _ _ _ h => h) (Or.inl ⟨by rfl, ?_⟩) ?_ ?_
  rotate_left
  ·intro w'
   go_simp
   with_reducible rfl
  rotate_left
  ·simp only [Act.put, sb, sz, ss, i64_w, i32_w]
   rfl
  refine one_ (i := 5) (N := none) (tf 6 0) rfl rfl (by kernel_rfl) (by decide) (fun K hK => ?_)
  have hs12 : w11.cell? ⟨gb125, 0, none⟩ = some (.bool false) := (blk_cell BK125.out 0).trans rfl
  have hfs12 := blk_frozen BK125.out 0
  have hns12_1 := NB126_125.out
  have hms12_1 := NB125_126.out
  have hs13 : w11.cell? ⟨gb125, 1, none⟩ = some (.bool false) := (blk_cell BK125.out 1).trans rfl
  have hfs13 := blk_frozen BK125.out 1
  have hns13_1 := NB126_125.out
  have hms13_1 := NB125_126.out
  have hs14 : w11.cell? ⟨gb125, 2, none⟩ = some (.bool false) := (blk_cell BK125.out 2).trans rfl
  have hfs14 := blk_frozen BK125.out 2
  have hns14_1 := NB126_125.out
  have hms14_1 := NB125_126.out
  have hs15 : w11.cell? ⟨gb125, 3, none⟩ = some (.bool false) := (blk_cell BK125.out 3).trans rfl
  have hfs15 := blk_frozen BK125.out 3
  have hns15_1 := NB126_125.out
  have hms15_1 := NB125_126.out
  have hs16 : w11.cell? ⟨gb125, 4, none⟩ = some (.bool false) := (blk_cell BK125.out 4).trans rfl
  have hfs16 := blk_frozen BK125.out 4
  have hns16_1 := NB126_125.out
  have hms16_1 := NB125_126.out
  refine skip_ (w1 := ?_) (by rfl) rfl ?_ ?_
  rotate_left
  ·go_simp
   rfl
  refine hK.out _ _ ⟨(cf5 NB126_125.out (hHeld.1)), (cf5 NB126_125.out (hHeld.2.1)), (cf5 NB126_125.out (hHeld.2.2.1)), (cf5 NB126_125.out (hHeld.2.2.2.1)), (cf5 NB126_125.out (hHeld.2.2.2.2))⟩ (fun hHeld => ?_)
  clear hK K
  refine done_ (by kernel_rfl) ?_
  try go_wp2
  refine bodyPost_ret (results_tc rfl _ _ gb125 30 #[.bool false, .bool false, .bool true, .bool false, .bool true] (0, 0) _ rfl (by (with_reducible repeat first | apply bd | apply be | apply ba); refine blk_put (cs := #[.bool false, .bool false, .bool true, .bool false, .bool false]) ?_ 4 _ rfl; (with_reducible repeat first | apply bd | apply be | apply ba); refine blk_put (cs := #[.bool false, .bool false, .bool true, .bool false, .bool false]) ?_ 3 _ rfl; (with_reducible repeat first | apply bd | apply be | apply ba); refine blk_put (cs := F5) ?_ 2 _ rfl; (with_reducible repeat first | apply bd | apply be | apply ba); refine blk_put (cs := F5) ?_ 1 _ rfl; (with_reducible repeat first | apply bd | apply be | apply ba); refine blk_put (cs := F5) ?_ 0 _ rfl; (with_reducible repeat first | apply bd | apply be | apply ba); exact BK125.out) Try.underlying30 rfl (by kernel_rfl)) rfl ?_
  exact ⟨by first | rfl | (simp [errW_none, errW_some] <;> rfl) | (simp [*, errW_none, errW_some] <;> rfl), bl2 HB.out GE125.out GE126.out⟩
 ·rw [if_neg c4] at H
  have c4b0 : (a1 == 1) = false := beq_eq_false_iff_ne.mpr c4
  have c4b1 : (a1 != 1) = true := bne_iff_ne.mpr c4
  by_cases c17 : a1 = 2
  ·rw [if_pos c17] at H
   have c17b0 : (a1 == 2) = true := beq_iff_eq.mpr c17
   have c17b1 : (a1 != 2) = false := bne_eq_false_iff_eq.mpr c17
   clear c17
   by_cases c18 : a2 = true
   ·subst c18
    have H1 : ((format_Greatest.f a0 true).bind fun t128 => (some (t128, false, false, true, false, true))) = some (r1, r2, r3, r4, r5, r6) := by rw [if_pos rfl] at H; exact H
    clear H
    have H := H1
    clear H1
    replace H := Option.bind_eq_some_iff.mp H
    obtain ⟨t128, A190, H⟩ := H
    replace H : (some (t128, false, false, true, false, true)) = some (r1, r2, r3, r4, r5, r6) := H
    have A19 := Aside0.mk A190
    clear A190
    simp only [Option.some.injEq, Prod.mk.injEq] at H
    obtain ⟨rfl, rfl, rfl, rfl, rfl, rfl⟩ := H
    go_enter Try.func48, Try.ntmps48
    try go_wp2_with (first | ((with_reducible refine gate_dst (N := 7) rfl ?_); refine box_event ?hg (N := 7) ?hd (cs := F5) (t := 30) ?hr ?_; (case hd => rfl); (case hg => rfl); (case hr => first | (go_simp; done) | (go_simp; rfl)); intro gb125 hg w20 hbox hb; have n0_ := Aside0.mk (below_step (bl0 HB.out) hb); have n1_ := Aside0.mk (hbox); have n2_ := Aside0.mk ((by rw [hg]; exact (below_size (bl0 HB.out)) : w.heap.size ≤ gb125)); have n3_ := n2_; clear HB; have HB := n0_; have BK125 := n1_; have GW125 := n2_; have GE125 := n3_; clear n0_ n1_ n2_ n3_; clear hb hbox hg) | ((with_reducible refine gate_dst (N := 8) rfl ?_); refine box_event ?hg (N := 8) ?hd (cs := F5) (t := 30) ?hr ?_; (case hd => rfl); (case hg => rfl); (case hr => first | (go_simp; done) | (go_simp; rfl)); intro gb126 hg w21 hbox hb; have n0_ := Aside0.mk (blk_below (g := gb125) (o := .cells #[.bool false, .bool false, .bool false, .bool false, .bool false] 30 (0, 0)) (bv BK125.out) hb); have n1_ := Aside0.mk (below_step (bl1 HB.out GE125.out) hb); have n2_ := Aside0.mk (hbox); have n3_ := Aside0.mk ((by rw [hg]; exact (below_size (bl1 HB.out GE125.out)) : w.heap.size ≤ gb126)); have n4_ := n3_; have n5_ := Aside0.mk ((by rw [hg]; exact Nat.ne_of_lt (blk_lt (g := gb125) (o := .cells F5 30 (0, 0)) (bv BK125.out)) : gb125 ≠ gb126)); have n6_ := Aside0.mk (Ne.symm n5_.out); clear BK125; clear HB; have BK125 := n0_; have HB := n1_; have BK126 := n2_; have GW126 := n3_; have GE126 := n4_; have NB125_126 := n5_; have NB126_125 := n6_; clear n0_ n1_ n2_ n3_ n4_ n5_ n6_; clear hb hbox hg; have hnb22 := NB126_125.out; have hnc22 := NB125_126.out; obtain ⟨hcz23_0, hcz23_1, hcz23_2, hcz23_3, hcz23_4⟩ := bc5 BK126.out; obtain ⟨hfz23_0, hfz23_1, hfz23_2, hfz23_3, hfz23_4⟩ := bf5 BK126.out))
    have n0_ : Aside0 ((((((w21.setCell ⟨gb126, 0, none⟩ (.bool false)).setCell ⟨gb126, 1, none⟩ (.bool false)).setCell ⟨gb126, 2, none⟩ (.bool true)).setCell ⟨gb126, 3, none⟩ (.bool false)).setCell ⟨gb126, 4, none⟩ (.bool true)).heap[gb125]? = some (.cells #[.bool false, .bool false, .bool false, .bool false, .bool false] 30 (0, 0))) := ⟨by (with_reducible repeat first | apply bd | apply be | apply ba); refine blk_far ?_ NB125_126.out _; (with_reducible repeat first | apply bd | apply be | apply ba); refine blk_far ?_ NB125_126.out _; (with_reducible repeat first | apply bd | apply be | apply ba); refine blk_far ?_ NB125_126.out _; (with_reducible repeat first | apply bd | apply be | apply ba); refine blk_far ?_ NB125_126.out _; (with_reducible repeat first | apply bd | apply be | apply ba); refine blk_far ?_ NB125_126.out _; (with_reducible repeat first | apply bd | apply be | apply ba); exact BK125.out⟩
    have n1_ : Aside0 ((((((w21.setCell ⟨gb126, 0, none⟩ (.bool false)).setCell ⟨gb126, 1, none⟩ (.bool false)).setCell ⟨gb126, 2, none⟩ (.bool true)).setCell ⟨gb126, 3, none⟩ (.bool false)).setCell ⟨gb126, 4, none⟩ (.bool true)).heap[gb126]? = some (.cells #[.bool false, .bool false, .bool true, .bool false, .bool true] 30 (0, 0))) := ⟨by (with_reducible repeat first | apply bd | apply be | apply ba); refine blk_put (cs := #[.bool false, .bool false, .bool true, .bool false, .bool false]) ?_ 4 _ rfl; (with_reducible repeat first | apply bd | apply be | apply ba); refine blk_put (cs := #[.bool false, .bool false, .bool true, .bool false, .bool false]) ?_ 3 _ rfl; (with_reducible repeat first | apply bd | apply be | apply ba); refine blk_put (cs := F5) ?_ 2 _ rfl; (with_reducible repeat first | apply bd | apply be | apply ba); refine blk_put (cs := F5) ?_ 1 _ rfl; (with_reducible repeat first | apply bd | apply be | apply ba); refine blk_put (cs := F5) ?_ 0 _ rfl; (with_reducible repeat first | apply bd | apply be | apply ba); exact BK126.out⟩
    have n2_ : Aside0 (Below w.heap.size w (((((w21.setCell ⟨gb126, 0, none⟩ (.bool false)).setCell ⟨gb126, 1, none⟩ (.bool false)).setCell ⟨gb126, 2, none⟩ (.bool true)).setCell ⟨gb126, 3, none⟩ (.bool false)).setCell ⟨gb126, 4, none⟩ (.bool true))) := ⟨bl2 HB.out GE125.out GE126.out⟩
    (try clear BK125)
    (try clear BK126)
    (try clear HB)
    generalize (((((w21.setCell ⟨gb126, 0, none⟩ (.bool false)).setCell ⟨gb126, 1, none⟩ (.bool false)).setCell ⟨gb126, 2, none⟩ (.bool true)).setCell ⟨gb126, 3, none⟩ (.bool false)).setCell ⟨gb126, 4, none⟩ (.bool true)) = w24 at n0_ n1_ n2_ ⊢
    have BK125 := n0_
    have BK126 := n1_
    have HB := n2_
    clear n0_ n1_ n2_
    have n0_ := Aside0.mk (blk_drew BK125.out)
    have n1_ := Aside0.mk (blk_drew BK126.out)
    have n2_ := Aside0.mk (below_drew1 HB.out)
    clear BK125
    clear BK126
    clear HB
    have BK125 := n0_
    have BK126 := n1_
    have HB := n2_
    clear n0_ n1_ n2_
    refine start_ (n := 6) (S := fun w' => w'.cell? ⟨gb126, 0, none⟩ = some (.bool false) ∧ w'.cell? ⟨gb126, 1, none⟩ = some (.bool false) ∧ w'.cell? ⟨gb126, 2, none⟩ = some (.bool true) ∧ w'.cell? ⟨gb126, 3, none⟩ = some (.bool false) ∧ w'.cell? ⟨gb126, 4, none⟩ = some (.bool true)) (ds := []) (tf 0 6) (by kernel_rfl) rfl rfl ⟨(blk_cell BK126.out 0).trans rfl, (blk_cell BK126.out 1).trans rfl, (blk_cell BK126.out 2).trans rfl, (blk_cell BK126.out 3).trans rfl, (blk_cell BK126.out 4).trans rfl⟩ (fun hHeld => ?_)
    generalize w24.drew = w25 at BK125 BK126 HB hHeld ⊢
    refine pure_ (i := 0) (N := some 20) (v := ?_) (a' := ?_) (tf 1 5) rfl rfl (by kernel_rfl) (fun _ _ _ h => h) (Or.inl ⟨by rfl, ?_⟩) ?_ ?_
    rotate_left
    ·intro w'
     go_simp
     with_reducible rfl
    rotate_left
    ·simp only [Act.put, sb, sz, ss, i64_w, i32_w]
     rfl
    refine pure_ (i := 1) (N := some 21) (v := ?_) (a' := ?_) (tf 2 4) rfl rfl (by kernel_rfl) (fun _ _ _ h => h) (Or.inl ⟨by rfl, ?_⟩) ?_ ?_
    rotate_left
    ·intro w'
     go_simp
     with_reducible rfl
    rotate_left
    ·simp only [Act.put, sb, sz, ss, i64_w, i32_w]
     rfl
    refine take_ (i := 3) (N := some 23) (v := ?_) (a' := ?_) #[true, true, false, true, false, false] rfl rfl (by kernel_rfl) (fun _ _ _ h => h) (Or.inl ⟨by rfl, ?_⟩) hHeld ?_ ?_
    rotate_left
    ·rintro w' ⟨s0, s1, s2, s3, s4⟩
     go_simp
     with_reducible rfl
    rotate_left
    ·simp only [Act.put, sb, sz, ss, i64_w, i32_w]
     rfl
    refine one_ (i := 2) (N := some 22) (tf 4 2) rfl rfl (by kernel_rfl) (by decide) (fun K hK => ?_)
    refine goes_ Try.func77 (by kernel_rfl) rfl #[.int .i64 a0, .bool true] (by rfl) rfl rfl gl ?_
    with_reducible refine (format_Greatest.calls a0 true t128 _ A19.out).mono ?_
    rintro e w' ⟨rfl, ⟨nd, rfl⟩⟩
    refine ⟨_, rfl, ?_⟩
    refine hK.out _ _ ⟨(blk_cell BK126.out 0).trans rfl, (blk_cell BK126.out 1).trans rfl, (blk_cell BK126.out 2).trans rfl, (blk_cell BK126.out 3).trans rfl, (blk_cell BK126.out 4).trans rfl⟩ (fun hHeld => ?_)
    clear hK K
    refine norm_ (a' := ?_) ?_ ?_
    rotate_left
    ·show Act.put _ (some 22) _ = _
     simp only [Act.put, sb, sz, ss, i64_w, i32_w]
     rfl
    refine pure_ (i := 4) (N := some 6) (v := ?_) (a' := ?_) (tf 5 1) rfl rfl (by kernel_rfl) (fun _ _ _ h => h) (Or.inl ⟨by rfl, ?_⟩) ?_ ?_
    rotate_left
    ·intro w'
     go_simp
     with_reducible rfl
    rotate_left
    ·simp only [Act.put, sb, sz, ss, i64_w, i32_w]
     rfl
    refine one_ (i := 5) (N := none) (tf 6 0) rfl rfl (by kernel_rfl) (by decide) (fun K hK => ?_)
    have hs26 : w25.cell? ⟨gb125, 0, none⟩ = some (.bool false) := (blk_cell BK125.out 0).trans rfl
    have hfs26 := blk_frozen BK125.out 0
    have hns26_1 := NB126_125.out
    have hms26_1 := NB125_126.out
    have hs27 : w25.cell? ⟨gb125, 1, none⟩ = some (.bool false) := (blk_cell BK125.out 1).trans rfl
    have hfs27 := blk_frozen BK125.out 1
    have hns27_1 := NB126_125.out
    have hms27_1 := NB125_126.out
    have hs28 : w25.cell? ⟨gb125, 2, none⟩ = some (.bool false) := (blk_cell BK125.out 2).trans rfl
    have hfs28 := blk_frozen BK125.out 2
    have hns28_1 := NB126_125.out
    have hms28_1 := NB125_126.out
    have hs29 : w25.cell? ⟨gb125, 3, none⟩ = some (.bool false) := (blk_cell BK125.out 3).trans rfl
    have hfs29 := blk_frozen BK125.out 3
    have hns29_1 := NB126_125.out
    have hms29_1 := NB125_126.out
    have hs30 : w25.cell? ⟨gb125, 4, none⟩ = some (.bool false) := (blk_cell BK125.out 4).trans rfl
    have hfs30 := blk_frozen BK125.out 4
    have hns30_1 := NB126_125.out
    have hms30_1 := NB125_126.out
    refine skip_ (w1 := ?_) (by rfl) rfl ?_ ?_
    rotate_left
    ·go_simp
     rfl
    refine hK.out _ _ ⟨(cf5 NB126_125.out (hHeld.1)), (cf5 NB126_125.out (hHeld.2.1)), (cf5 NB126_125.out (hHeld.2.2.1)), (cf5 NB126_125.out (hHeld.2.2.2.1)), (cf5 NB126_125.out (hHeld.2.2.2.2))⟩ (fun hHeld => ?_)
    clear hK K
    refine done_ (by kernel_rfl) ?_
    try go_wp2
    refine bodyPost_ret (results_tc rfl _ _ gb125 30 #[.bool false, .bool false, .bool true, .bool false, .bool true] (0, 0) _ rfl (by (with_reducible repeat first | apply bd | apply be | apply ba); refine blk_put (cs := #[.bool false, .bool false, .bool true, .bool false, .bool false]) ?_ 4 _ rfl; (with_reducible repeat first | apply bd | apply be | apply ba); refine blk_put (cs := #[.bool false, .bool false, .bool true, .bool false, .bool false]) ?_ 3 _ rfl; (with_reducible repeat first | apply bd | apply be | apply ba); refine blk_put (cs := F5) ?_ 2 _ rfl; (with_reducible repeat first | apply bd | apply be | apply ba); refine blk_put (cs := F5) ?_ 1 _ rfl; (with_reducible repeat first | apply bd | apply be | apply ba); refine blk_put (cs := F5) ?_ 0 _ rfl; (with_reducible repeat first | apply bd | apply be | apply ba); exact BK125.out) Try.underlying30 rfl (by kernel_rfl)) rfl ?_
    exact ⟨by first | rfl | (simp [errW_none, errW_some] <;> rfl) | (simp [*, errW_none, errW_some] <;> rfl), bl2 HB.out GE125.out GE126.out⟩
   ·replace c18 := Bool.eq_false_iff.mpr c18
    subst c18
    have H1 : ((format_Inf.f a0 false).bind fun t129 => (some (t129, false, false, true, false, true))) = some (r1, r2, r3, r4, r5, r6) := by rw [if_neg (show ¬ (false = true) by decide)] at H; exact H
    clear H
    have H := H1
    clear H1
    replace H := Option.bind_eq_some_iff.mp H
    obtain ⟨t129, A310, H⟩ := H
    replace H : (some (t129, false, false, true, false, true)) = some (r1, r2, r3, r4, r5, r6) := H
    have A31 := Aside0.mk A310
    clear A310
    simp only [Option.some.injEq, Prod.mk.injEq] at H
    obtain ⟨rfl, rfl, rfl, rfl, rfl, rfl⟩ := H
    go_enter Try.func48, Try.ntmps48
    try go_wp2_with (first | ((with_reducible refine gate_dst (N := 7) rfl ?_); refine box_event ?hg (N := 7) ?hd (cs := F5) (t := 30) ?hr ?_; (case hd => rfl); (case hg => rfl); (case hr => first | (go_simp; done) | (go_simp; rfl)); intro gb125 hg w32 hbox hb; have n0_ := Aside0.mk (below_step (bl0 HB.out) hb); have n1_ := Aside0.mk (hbox); have n2_ := Aside0.mk ((by rw [hg]; exact (below_size (bl0 HB.out)) : w.heap.size ≤ gb125)); have n3_ := n2_; clear HB; have HB := n0_; have BK125 := n1_; have GW125 := n2_; have GE125 := n3_; clear n0_ n1_ n2_ n3_; clear hb hbox hg) | ((with_reducible refine gate_dst (N := 8) rfl ?_); refine box_event ?hg (N := 8) ?hd (cs := F5) (t := 30) ?hr ?_; (case hd => rfl); (case hg => rfl); (case hr => first | (go_simp; done) | (go_simp; rfl)); intro gb126 hg w33 hbox hb; have n0_ := Aside0.mk (blk_below (g := gb125) (o := .cells #[.bool false, .bool false, .bool false, .bool false, .bool false] 30 (0, 0)) (bv BK125.out) hb); have n1_ := Aside0.mk (below_step (bl1 HB.out GE125.out) hb); have n2_ := Aside0.mk (hbox); have n3_ := Aside0.mk ((by rw [hg]; exact (below_size (bl1 HB.out GE125.out)) : w.heap.size ≤ gb126)); have n4_ := n3_; have n5_ := Aside0.mk ((by rw [hg]; exact Nat.ne_of_lt (blk_lt (g := gb125) (o := .cells F5 30 (0, 0)) (bv BK125.out)) : gb125 ≠ gb126)); have n6_ := Aside0.mk (Ne.symm n5_.out); clear BK125; clear HB; have BK125 := n0_; have HB := n1_; have BK126 := n2_; have GW126 := n3_; have GE126 := n4_; have NB125_126 := n5_; have NB126_125 := n6_; clear n0_ n1_ n2_ n3_ n4_ n5_ n6_; clear hb hbox hg; have hnb34 := NB126_125.out; have hnc34 := NB125_126.out; obtain ⟨hcz35_0, hcz35_1, hcz35_2, hcz35_3, hcz35_4⟩ := bc5 BK126.out; obtain ⟨hfz35_0, hfz35_1, hfz35_2, hfz35_3, hfz35_4⟩ := bf5 BK126.out))
    have n0_ : Aside0 ((((((w33.setCell ⟨gb126, 0, none⟩ (.bool false)).setCell ⟨gb126, 1, none⟩ (.bool false)).setCell ⟨gb126, 2, none⟩ (.bool true)).setCell ⟨gb126, 3, none⟩ (.bool false)).setCell ⟨gb126, 4, none⟩ (.bool true)).heap[gb125]? = some (.cells #[.bool false, .bool false, .bool false, .bool false, .bool false] 30 (0, 0))) := ⟨by (with_reducible repeat first | apply bd | apply be | apply ba); refine blk_far ?_ NB125_126.out _; (with_reducible repeat first | apply bd | apply be | apply ba); refine blk_far ?_ NB125_126.out _; (with_reducible repeat first | apply bd | apply be | apply ba); refine blk_far ?_ NB125_126.out _; (with_reducible repeat first | apply bd | apply be | apply ba); refine blk_far ?_ NB125_126.out _; (with_reducible repeat first | apply bd | apply be | apply ba); refine blk_far ?_ NB125_126.out _; (with_reducible repeat first | apply bd | apply be | apply ba); exact BK125.out⟩
    have n1_ : Aside0 ((((((w33.setCell ⟨gb126, 0, none⟩ (.bool false)).setCell ⟨gb126, 1, none⟩ (.bool false)).setCell ⟨gb126, 2, none⟩ (.bool true)).setCell ⟨gb126, 3, none⟩ (.bool false)).setCell ⟨gb126, 4, none⟩ (.bool true)).heap[gb126]? = some (.cells #[.bool false, .bool false, .bool true, .bool false, .bool true] 30 (0, 0))) := ⟨by (with_reducible repeat first | apply bd | apply be | apply ba); refine blk_put (cs := #[.bool false, .bool false, .bool true, .bool false, .bool false]) ?_ 4 _ rfl; (with_reducible repeat first | apply bd | apply be | apply ba); refine blk_put (cs := #[.bool false, .bool false, .bool true, .bool false, .bool false]) ?_ 3 _ rfl; (with_reducible repeat first | apply bd | apply be | apply ba); refine blk_put (cs := F5) ?_ 2 _ rfl; (with_reducible repeat first | apply bd | apply be | apply ba); refine blk_put (cs := F5) ?_ 1 _ rfl; (with_reducible repeat first | apply bd | apply be | apply ba); refine blk_put (cs := F5) ?_ 0 _ rfl; (with_reducible repeat first | apply bd | apply be | apply ba); exact BK126.out⟩
    have n2_ : Aside0 (Below w.heap.size w (((((w33.setCell ⟨gb126, 0, none⟩ (.bool false)).setCell ⟨gb126, 1, none⟩ (.bool false)).setCell ⟨gb126, 2, none⟩ (.bool true)).setCell ⟨gb126, 3, none⟩ (.bool false)).setCell ⟨gb126, 4, none⟩ (.bool true))) := ⟨bl2 HB.out GE125.out GE126.out⟩
    (try clear BK125)
    (try clear BK126)
    (try clear HB)
    generalize (((((w33.setCell ⟨gb126, 0, none⟩ (.bool false)).setCell ⟨gb126, 1, none⟩ (.bool false)).setCell ⟨gb126, 2, none⟩ (.bool true)).setCell ⟨gb126, 3, none⟩ (.bool false)).setCell ⟨gb126, 4, none⟩ (.bool true)) = w36 at n0_ n1_ n2_ ⊢
    have BK125 := n0_
    have BK126 := n1_
    have HB := n2_
    clear n0_ n1_ n2_
    have n0_ := Aside0.mk (blk_drew BK125.out)
    have n1_ := Aside0.mk (blk_drew BK126.out)
    have n2_ := Aside0.mk (below_drew1 HB.out)
    clear BK125
    clear BK126
    clear HB
    have BK125 := n0_
    have BK126 := n1_
    have HB := n2_
    clear n0_ n1_ n2_
    refine start_ (n := 6) (S := fun w' => w'.cell? ⟨gb126, 0, none⟩ = some (.bool false) ∧ w'.cell? ⟨gb126, 1, none⟩ = some (.bool false) ∧ w'.cell? ⟨gb126, 2, none⟩ = some (.bool true) ∧ w'.cell? ⟨gb126, 3, none⟩ = some (.bool false) ∧ w'.cell? ⟨gb126, 4, none⟩ = some (.bool true)) (ds := []) (tf 0 6) (by kernel_rfl) rfl rfl ⟨(blk_cell BK126.out 0).trans rfl, (blk_cell BK126.out 1).trans rfl, (blk_cell BK126.out 2).trans rfl, (blk_cell BK126.out 3).trans rfl, (blk_cell BK126.out 4).trans rfl⟩ (fun hHeld => ?_)
    generalize w36.drew = w37 at BK125 BK126 HB hHeld ⊢
    refine pure_ (i := 0) (N := some 32) (v := ?_) (a' := ?_) (tf 1 5) rfl rfl (by kernel_rfl) (fun _ _ _ h => h) (Or.inl ⟨by rfl, ?_⟩) ?_ ?_
    rotate_left
    ·intro w'
     go_simp
     with_reducible rfl
    rotate_left
    ·simp only [Act.put, sb, sz, ss, i64_w, i32_w]
     rfl
    refine pure_ (i := 1) (N := some 33) (v := ?_) (a' := ?_) (tf 2 4) rfl rfl (by kernel_rfl) (fun _ _ _ h => h) (Or.inl ⟨by rfl, ?_⟩) ?_ ?_
    rotate_left
    ·intro w'
     go_simp
     with_reducible rfl
    rotate_left
    ·simp only [Act.put, sb, sz, ss, i64_w, i32_w]
     rfl
    refine take_ (i := 3) (N := some 35) (v := ?_) (a' := ?_) #[true, true, false, true, false, false] rfl rfl (by kernel_rfl) (fun _ _ _ h => h) (Or.inl ⟨by rfl, ?_⟩) hHeld ?_ ?_
    rotate_left
    ·rintro w' ⟨s0, s1, s2, s3, s4⟩
     go_simp
     with_reducible rfl
    rotate_left
    ·simp only [Act.put, sb, sz, ss, i64_w, i32_w]
     rfl
    refine one_ (i := 2) (N := some 34) (tf 4 2) rfl rfl (by kernel_rfl) (by decide) (fun K hK => ?_)
    refine goes_ Try.func64 (by kernel_rfl) rfl #[.int .i64 a0, .bool false] (by rfl) rfl rfl gl ?_
    with_reducible refine (format_Inf.calls a0 false t129 _ A31.out).mono ?_
    rintro e w' ⟨rfl, ⟨nd, rfl⟩⟩
    refine ⟨_, rfl, ?_⟩
    refine hK.out _ _ ⟨(blk_cell BK126.out 0).trans rfl, (blk_cell BK126.out 1).trans rfl, (blk_cell BK126.out 2).trans rfl, (blk_cell BK126.out 3).trans rfl, (blk_cell BK126.out 4).trans rfl⟩ (fun hHeld => ?_)
    clear hK K
    refine norm_ (a' := ?_) ?_ ?_
    rotate_left
    ·show Act.put _ (some 34) _ = _
     simp only [Act.put, sb, sz, ss, i64_w, i32_w]
     rfl
    refine pure_ (i := 4) (N := some 6) (v := ?_) (a' := ?_) (tf 5 1) rfl rfl (by kernel_rfl) (fun _ _ _ h => h) (Or.inl ⟨by rfl, ?_⟩) ?_ ?_
    rotate_left
    ·intro w'
     go_simp
     with_reducible rfl
    rotate_left
    ·simp only [Act.put, sb, sz, ss, i64_w, i32_w]
     rfl
    refine one_ (i := 5) (N := none) (tf 6 0) rfl rfl (by kernel_rfl) (by decide) (fun K hK => ?_)
    have hs38 : w37.cell? ⟨gb125, 0, none⟩ = some (.bool false) := (blk_cell BK125.out 0).trans rfl
    have hfs38 := blk_frozen BK125.out 0
    have hns38_1 := NB126_125.out
    have hms38_1 := NB125_126.out
    have hs39 : w37.cell? ⟨gb125, 1, none⟩ = some (.bool false) := (blk_cell BK125.out 1).trans rfl
    have hfs39 := blk_frozen BK125.out 1
    have hns39_1 := NB126_125.out
    have hms39_1 := NB125_126.out
    have hs40 : w37.cell? ⟨gb125, 2, none⟩ = some (.bool false) := (blk_cell BK125.out 2).trans rfl
    have hfs40 := blk_frozen BK125.out 2
    have hns40_1 := NB126_125.out
    have hms40_1 := NB125_126.out
    have hs41 : w37.cell? ⟨gb125, 3, none⟩ = some (.bool false) := (blk_cell BK125.out 3).trans rfl
    have hfs41 := blk_frozen BK125.out 3
    have hns41_1 := NB126_125.out
    have hms41_1 := NB125_126.out
    have hs42 : w37.cell? ⟨gb125, 4, none⟩ = some (.bool false) := (blk_cell BK125.out 4).trans rfl
    have hfs42 := blk_frozen BK125.out 4
    have hns42_1 := NB126_125.out
    have hms42_1 := NB125_126.out
    refine skip_ (w1 := ?_) (by rfl) rfl ?_ ?_
    rotate_left
    ·go_simp
     rfl
    refine hK.out _ _ ⟨(cf5 NB126_125.out (hHeld.1)), (cf5 NB126_125.out (hHeld.2.1)), (cf5 NB126_125.out (hHeld.2.2.1)), (cf5 NB126_125.out (hHeld.2.2.2.1)), (cf5 NB126_125.out (hHeld.2.2.2.2))⟩ (fun hHeld => ?_)
    clear hK K
    refine done_ (by kernel_rfl) ?_
    try go_wp2
    refine bodyPost_ret (results_tc rfl _ _ gb125 30 #[.bool false, .bool false, .bool true, .bool false, .bool true] (0, 0) _ rfl (by (with_reducible repeat first | apply bd | apply be | apply ba); refine blk_put (cs := #[.bool false, .bool false, .bool true, .bool false, .bool false]) ?_ 4 _ rfl; (with_reducible repeat first | apply bd | apply be | apply ba); refine blk_put (cs := #[.bool false, .bool false, .bool true, .bool false, .bool false]) ?_ 3 _ rfl; (with_reducible repeat first | apply bd | apply be | apply ba); refine blk_put (cs := F5) ?_ 2 _ rfl; (with_reducible repeat first | apply bd | apply be | apply ba); refine blk_put (cs := F5) ?_ 1 _ rfl; (with_reducible repeat first | apply bd | apply be | apply ba); refine blk_put (cs := F5) ?_ 0 _ rfl; (with_reducible repeat first | apply bd | apply be | apply ba); exact BK125.out) Try.underlying30 rfl (by kernel_rfl)) rfl ?_
    exact ⟨by first | rfl | (simp [errW_none, errW_some] <;> rfl) | (simp [*, errW_none, errW_some] <;> rfl), bl2 HB.out GE125.out GE126.out⟩
  ·rw [if_neg c17] at H
   have c17b0 : (a1 == 2) = false := beq_eq_false_iff_ne.mpr c17
   have c17b1 : (a1 != 2) = true := bne_iff_ne.mpr c17
   by_cases c43 : a1 = 3
   ·rw [if_pos c43] at H
    have c43b0 : (a1 == 3) = true := beq_iff_eq.mpr c43
    have c43b1 : (a1 != 3) = false := bne_eq_false_iff_eq.mpr c43
    clear c43
    by_cases c44 : a2 = true
    ·subst c44
     have H1 : ((format_Inf.f a0 true).bind fun t130 => (some (t130, false, false, true, false, true))) = some (r1, r2, r3, r4, r5, r6) := by rw [if_pos rfl] at H; exact H
     clear H
     have H := H1
     clear H1
     replace H := Option.bind_eq_some_iff.mp H
     obtain ⟨t130, A450, H⟩ := H
     replace H : (some (t130, false, false, true, false, true)) = some (r1, r2, r3, r4, r5, r6) := H
     have A45 := Aside0.mk A450
     clear A450
     simp only [Option.some.injEq, Prod.mk.injEq] at H
     obtain ⟨rfl, rfl, rfl, rfl, rfl, rfl⟩ := H
     go_enter Try.func48, Try.ntmps48
     try go_wp2_with (first | ((with_reducible refine gate_dst (N := 7) rfl ?_); refine box_event ?hg (N := 7) ?hd (cs := F5) (t := 30) ?hr ?_; (case hd => rfl); (case hg => rfl); (case hr => first | (go_simp; done) | (go_simp; rfl)); intro gb125 hg w46 hbox hb; have n0_ := Aside0.mk (below_step (bl0 HB.out) hb); have n1_ := Aside0.mk (hbox); have n2_ := Aside0.mk ((by rw [hg]; exact (below_size (bl0 HB.out)) : w.heap.size ≤ gb125)); have n3_ := n2_; clear HB; have HB := n0_; have BK125 := n1_; have GW125 := n2_; have GE125 := n3_; clear n0_ n1_ n2_ n3_; clear hb hbox hg) | ((with_reducible refine gate_dst (N := 8) rfl ?_); refine box_event ?hg (N := 8) ?hd (cs := F5) (t := 30) ?hr ?_; (case hd => rfl); (case hg => rfl); (case hr => first | (go_simp; done) | (go_simp; rfl)); intro gb126 hg w47 hbox hb; have n0_ := Aside0.mk (blk_below (g := gb125) (o := .cells #[.bool false, .bool false, .bool false, .bool false, .bool false] 30 (0, 0)) (bv BK125.out) hb); have n1_ := Aside0.mk (below_step (bl1 HB.out GE125.out) hb); have n2_ := Aside0.mk (hbox); have n3_ := Aside0.mk ((by rw [hg]; exact (below_size (bl1 HB.out GE125.out)) : w.heap.size ≤ gb126)); have n4_ := n3_; have n5_ := Aside0.mk ((by rw [hg]; exact Nat.ne_of_lt (blk_lt (g := gb125) (o := .cells F5 30 (0, 0)) (bv BK125.out)) : gb125 ≠ gb126)); have n6_ := Aside0.mk (Ne.symm n5_.out); clear BK125; clear HB; have BK125 := n0_; have HB := n1_; have BK126 := n2_; have GW126 := n3_; have GE126 := n4_; have NB125_126 := n5_; have NB126_125 := n6_; clear n0_ n1_ n2_ n3_ n4_ n5_ n6_; clear hb hbox hg; have hnb48 := NB126_125.out; have hnc48 := NB125_126.out; obtain ⟨hcz49_0, hcz49_1, hcz49_2, hcz49_3, hcz49_4⟩ := bc5 BK126.out; obtain ⟨hfz49_0, hfz49_1, hfz49_2, hfz49_3, hfz49_4⟩ := bf5 BK126.out))
     have n0_ : Aside0 ((((((w47.setCell ⟨gb126, 0, none⟩ (.bool false)).setCell ⟨gb126, 1, none⟩ (.bool false)).setCell ⟨gb126, 2, none⟩ (.bool true)).setCell ⟨gb126, 3, none⟩ (.bool false)).setCell ⟨gb126, 4, none⟩ (.bool true)).heap[gb125]? = some (.cells #[.bool false, .bool false, .bool false, .bool false, .bool false] 30 (0, 0))) := ⟨by (with_reducible repeat first | apply bd | apply be | apply ba); refine blk_far ?_ NB125_126.out _; (with_reducible repeat first | apply bd | apply be | apply ba); refine blk_far ?_ NB125_126.out _; (with_reducible repeat first | apply bd | apply be | apply ba); refine blk_far ?_ NB125_126.out _; (with_reducible repeat first | apply bd | apply be | apply ba); refine blk_far ?_ NB125_126.out _; (with_reducible repeat first | apply bd | apply be | apply ba); refine blk_far ?_ NB125_126.out _; (with_reducible repeat first | apply bd | apply be | apply ba); exact BK125.out⟩
     have n1_ : Aside0 ((((((w47.setCell ⟨gb126, 0, none⟩ (.bool false)).setCell ⟨gb126, 1, none⟩ (.bool false)).setCell ⟨gb126, 2, none⟩ (.bool true)).setCell ⟨gb126, 3, none⟩ (.bool false)).setCell ⟨gb126, 4, none⟩ (.bool true)).heap[gb126]? = some (.cells #[.bool false, .bool false, .bool true, .bool false, .bool true] 30 (0, 0))) := ⟨by (with_reducible repeat first | apply bd | apply be | apply ba); refine blk_put (cs := #[.bool false, .bool false, .bool true, .bool false, .bool false]) ?_ 4 _ rfl; (with_reducible repeat first | apply bd | apply be | apply ba); refine blk_put (cs := #[.bool false, .bool false, .bool true, .bool false, .bool false]) ?_ 3 _ rfl; (with_reducible repeat first | apply bd | apply be | apply ba); refine blk_put (cs := F5) ?_ 2 _ rfl; (with_reducible repeat first | apply bd | apply be | apply ba); refine blk_put (cs := F5) ?_ 1 _ rfl; (with_reducible repeat first | apply bd | apply be | apply ba); refine blk_put (cs := F5) ?_ 0 _ rfl; (with_reducible repeat first | apply bd | apply be | apply ba); exact BK126.out⟩
     have n2_ : Aside0 (Below w.heap.size w (((((w47.setCell ⟨gb126, 0, none⟩ (.bool false)).setCell ⟨gb126, 1, none⟩ (.bool false)).setCell ⟨gb126, 2, none⟩ (.bool true)).setCell ⟨gb126, 3, none⟩ (.bool false)).setCell ⟨gb126, 4, none⟩ (.bool true))) := ⟨bl2 HB.out GE125.out GE126.out⟩
     (try clear BK125)
     (try clear BK126)
     (try clear HB)
     generalize (((((w47.setCell ⟨gb126, 0, none⟩ (.bool false)).setCell ⟨gb126, 1, none⟩ (.bool false)).setCell ⟨gb126, 2, none⟩ (.bool true)).setCell ⟨gb126, 3, none⟩ (.bool false)).setCell ⟨gb126, 4, none⟩ (.bool true)) = w50 at n0_ n1_ n2_ ⊢
     have BK125 := n0_
     have BK126 := n1_
     have HB := n2_
     clear n0_ n1_ n2_
     have n0_ := Aside0.mk (blk_drew BK125.out)
     have n1_ := Aside0.mk (blk_drew BK126.out)
     have n2_ := Aside0.mk (below_drew1 HB.out)
     clear BK125
     clear BK126
     clear HB
     have BK125 := n0_
     have BK126 := n1_
     have HB := n2_
     clear n0_ n1_ n2_
     refine start_ (n := 6) (S := fun w' => w'.cell? ⟨gb126, 0, none⟩ = some (.bool false) ∧ w'.cell? ⟨gb126, 1, none⟩ = some (.bool false) ∧ w'.cell? ⟨gb126, 2, none⟩ = some (.bool true) ∧ w'.cell? ⟨gb126, 3, none⟩ = some (.bool false) ∧ w'.cell? ⟨gb126, 4, none⟩ = some (.bool true)) (ds := []) (tf 0 6) (by kernel_rfl) rfl rfl ⟨(blk_cell BK126.out 0).trans rfl, (blk_cell BK126.out 1).trans rfl, (blk_cell BK126.out 2).trans rfl, (blk_cell BK126.out 3).trans rfl, (blk_cell BK126.out 4).trans rfl⟩ (fun hHeld => ?_)
     generalize w50.drew = w51 at BK125 BK126 HB hHeld ⊢
     refine pure_ (i := 0) (N := some 32) (v := ?_) (a' := ?_) (tf 1 5) rfl rfl (by kernel_rfl) (fun _ _ _ h => h) (Or.inl ⟨by rfl, ?_⟩) ?_ ?_
     rotate_left
     ·intro w'
      go_simp
      with_reducible rfl
     rotate_left
     ·simp only [Act.put, sb, sz, ss, i64_w, i32_w]
      rfl
     refine pure_ (i := 1) (N := some 33) (v := ?_) (a' := ?_) (tf 2 4) rfl rfl (by kernel_rfl) (fun _ _ _ h => h) (Or.inl ⟨by rfl, ?_⟩) ?_ ?_
     rotate_left
     ·intro w'
      go_simp
      with_reducible rfl
     rotate_left
     ·simp only [Act.put, sb, sz, ss, i64_w, i32_w]
      rfl
     refine take_ (i := 3) (N := some 35) (v := ?_) (a' := ?_) #[true, true, false, true, false, false] rfl rfl (by kernel_rfl) (fun _ _ _ h => h) (Or.inl ⟨by rfl, ?_⟩) hHeld ?_ ?_
     rotate_left
     ·rintro w' ⟨s0, s1, s2, s3, s4⟩
      go_simp
      with_reducible rfl
     rotate_left
     ·simp only [Act.put, sb, sz, ss, i64_w, i32_w]
      rfl
     refine one_ (i := 2) (N := some 34) (tf 4 2) rfl rfl (by kernel_rfl) (by decide) (fun K hK => ?_)
     refine goes_ Try.func64 (by kernel_rfl) rfl #[.int .i64 a0, .bool true] (by rfl) rfl rfl gl ?_
     with_reducible refine (format_Inf.calls a0 true t130 _ A45.out).mono ?_
     rintro e w' ⟨rfl, ⟨nd, rfl⟩⟩
     refine ⟨_, rfl, ?_⟩
     refine hK.out _ _ ⟨(blk_cell BK126.out 0).trans rfl, (blk_cell BK126.out 1).trans rfl, (blk_cell BK126.out 2).trans rfl, (blk_cell BK126.out 3).trans rfl, (blk_cell BK126.out 4).trans rfl⟩ (fun hHeld => ?_)
     clear hK K
     refine norm_ (a' := ?_) ?_ ?_
     rotate_left
     ·show Act.put _ (some 34) _ = _
      simp only [Act.put, sb, sz, ss, i64_w, i32_w]
      rfl
     refine pure_ (i := 4) (N := some 6) (v := ?_) (a' := ?_) (tf 5 1) rfl rfl (by kernel_rfl) (fun _ _ _ h => h) (Or.inl ⟨by rfl, ?_⟩) ?_ ?_
     rotate_left
     ·intro w'
      go_simp
      with_reducible rfl
     rotate_left
     ·simp only [Act.put, sb, sz, ss, i64_w, i32_w]
      rfl
     refine one_ (i := 5) (N := none) (tf 6 0) rfl rfl (by kernel_rfl) (by decide) (fun K hK => ?_)
     have hs52 : w51.cell? ⟨gb125, 0, none⟩ = some (.bool false) := (blk_cell BK125.out 0).trans rfl
     have hfs52 := blk_frozen BK125.out 0
     have hns52_1 := NB126_125.out
     have hms52_1 := NB125_126.out
     have hs53 : w51.cell? ⟨gb125, 1, none⟩ = some (.bool false) := (blk_cell BK125.out 1).trans rfl
     have hfs53 := blk_frozen BK125.out 1
     have hns53_1 := NB126_125.out
     have hms53_1 := NB125_126.out
     have hs54 : w51.cell? ⟨gb125, 2, none⟩ = some (.bool false) := (blk_cell BK125.out 2).trans rfl
     have hfs54 := blk_frozen BK125.out 2
     have hns54_1 := NB126_125.out
     have hms54_1 := NB125_126.out
     have hs55 : w51.cell? ⟨gb125, 3, none⟩ = some (.bool false) := (blk_cell BK125.out 3).trans rfl
     have hfs55 := blk_frozen BK125.out 3
     have hns55_1 := NB126_125.out
     have hms55_1 := NB125_126.out
     have hs56 : w51.cell? ⟨gb125, 4, none⟩ = some (.bool false) := (blk_cell BK125.out 4).trans rfl
     have hfs56 := blk_frozen BK125.out 4
     have hns56_1 := NB126_125.out
     have hms56_1 := NB125_126.out
     refine skip_ (w1 := ?_) (by rfl) rfl ?_ ?_
     rotate_left
     ·go_simp
      rfl
     refine hK.out _ _ ⟨(cf5 NB126_125.out (hHeld.1)), (cf5 NB126_125.out (hHeld.2.1)), (cf5 NB126_125.out (hHeld.2.2.1)), (cf5 NB126_125.out (hHeld.2.2.2.1)), (cf5 NB126_125.out (hHeld.2.2.2.2))⟩ (fun hHeld => ?_)
     clear hK K
     refine done_ (by kernel_rfl) ?_
     try go_wp2
     refine bodyPost_ret (results_tc rfl _ _ gb125 30 #[.bool false, .bool false, .bool true, .bool false, .bool true] (0, 0) _ rfl (by (with_reducible repeat first | apply bd | apply be | apply ba); refine blk_put (cs := #[.bool false, .bool false, .bool true, .bool false, .bool false]) ?_ 4 _ rfl; (with_reducible repeat first | apply bd | apply be | apply ba); refine blk_put (cs := #[.bool false, .bool false, .bool true, .bool false, .bool false]) ?_ 3 _ rfl; (with_reducible repeat first | apply bd | apply be | apply ba); refine blk_put (cs := F5) ?_ 2 _ rfl; (with_reducible repeat first | apply bd | apply be | apply ba); refine blk_put (cs := F5) ?_ 1 _ rfl; (with_reducible repeat first | apply bd | apply be | apply ba); refine blk_put (cs := F5) ?_ 0 _ rfl; (with_reducible repeat first | apply bd | apply be | apply ba); exact BK125.out) Try.underlying30 rfl (by kernel_rfl)) rfl ?_
     exact ⟨by first | rfl | (simp [errW_none, errW_some] <;> rfl) | (simp [*, errW_none, errW_some] <;> rfl), bl2 HB.out GE125.out GE126.out⟩
    ·replace c44 := Bool.eq_false_iff.mpr c44
     subst c44
     have H1 : ((format_Greatest.f a0 false).bind fun t131 => (some (t131, false, false, true, false, true))) = some (r1, r2, r3, r4, r5, r6) := by rw [if_neg (show ¬ (false = true) by decide)] at H; exact H
     clear H
     have H := H1
     clear H1
     replace H := Option.bind_eq_some_iff.mp H
     obtain ⟨t131, A570, H⟩ := H
     replace H : (some (t131, false, false, true, false, true)) = some (r1, r2, r3, r4, r5, r6) := H
     have A57 := Aside0.mk A570
     clear A570
     simp only [Option.some.injEq, Prod.mk.injEq] at H
     obtain ⟨rfl, rfl, rfl, rfl, rfl, rfl⟩ := H
     go_enter Try.func48, Try.ntmps48
     try go_wp2_with (first | ((with_reducible refine gate_dst (N := 7) rfl ?_); refine box_event ?hg (N := 7) ?hd (cs := F5) (t := 30) ?hr ?_; (case hd => rfl); (case hg => rfl); (case hr => first | (go_simp; done) | (go_simp; rfl)); intro gb125 hg w58 hbox hb; have n0_ := Aside0.mk (below_step (bl0 HB.out) hb); have n1_ := Aside0.mk (hbox); have n2_ := Aside0.mk ((by rw [hg]; exact (below_size (bl0 HB.out)) : w.heap.size ≤ gb125)); have n3_ := n2_; clear HB; have HB := n0_; have BK125 := n1_; have GW125 := n2_; have GE125 := n3_; clear n0_ n1_ n2_ n3_; clear hb hbox hg) | ((with_reducible refine gate_dst (N := 8) rfl ?_); refine box_event ?hg (N := 8) ?hd (cs := F5) (t := 30) ?hr ?_; (case hd => rfl); (case hg => rfl); (case hr => first | (go_simp; done) | (go_simp; rfl)); intro gb126 hg w59 hbox hb; have n0_ := Aside0.mk (blk_below (g := gb125) (o := .cells #[.bool false, .bool false, .bool false, .bool false, .bool false] 30 (0, 0)) (bv BK125.out) hb); have n1_ := Aside0.mk (below_step (bl1 HB.out GE125.out) hb); have n2_ := Aside0.mk (hbox); have n3_ := Aside0.mk ((by rw [hg]; exact (below_size (bl1 HB.out GE125.out)) : w.heap.size ≤ gb126)); have n4_ := n3_; have n5_ := Aside0.mk ((by rw [hg]; exact Nat.ne_of_lt (blk_lt (g := gb125) (o := .cells F5 30 (0, 0)) (bv BK125.out)) : gb125 ≠ gb126)); have n6_ := Aside0.mk (Ne.symm n5_.out); clear BK125; clear HB; have BK125 := n0_; have HB := n1_; have BK126 := n2_; have GW126 := n3_; have GE126 := n4_; have NB125_126 := n5_; have NB126_125 := n6_; clear n0_ n1_ n2_ n3_ n4_ n5_ n6_; clear hb hbox hg; have hnb60 := NB126_125.out; have hnc60 := NB125_126.out; obtain ⟨hcz61_0, hcz61_1, hcz61_2, hcz61_3, hcz61_4⟩ := bc5 BK126.out; obtain ⟨hfz61_0, hfz61_1, hfz61_2, hfz61_3, hfz61_4⟩ := bf5 BK126.out))
     have n0_ : Aside0 ((((((w59.setCell ⟨gb126, 0, none⟩ (.bool false)).setCell ⟨gb126, 1, none⟩ (.bool false)).setCell ⟨gb126, 2, none⟩ (.bool true)).setCell ⟨gb126, 3, none⟩ (.bool false)).setCell ⟨gb126, 4, none⟩ (.bool true)).heap[gb125]? = some (.cells #[.bool false, .bool false, .bool false, .bool false, .bool false] 30 (0, 0))) := ⟨by (with_reducible repeat first | apply bd | apply be | apply ba); refine blk_far ?_ NB125_126.out _; (with_reducible repeat first | apply bd | apply be | apply ba); refine blk_far ?_ NB125_126.out _; (with_reducible repeat first | apply bd | apply be | apply ba); refine blk_far ?_ NB125_126.out _; (with_reducible repeat first | apply bd | apply be | apply ba); refine blk_far ?_ NB125_126.out _; (with_reducible repeat first | apply bd | apply be | apply ba); refine blk_far ?_ NB125_126.out _; (with_reducible repeat first | apply bd | apply be | apply ba); exact BK125.out⟩
     have n1_ : Aside0 ((((((w59.setCell ⟨gb126, 0, none⟩ (.bool false)).setCell ⟨gb126, 1, none⟩ (.bool false)).setCell ⟨gb126, 2, none⟩ (.bool true)).setCell ⟨gb126, 3, none⟩ (.bool false)).setCell ⟨gb126, 4, none⟩ (.bool true)).heap[gb126]? = some (.cells #[.bool false, .bool false, .bool true, .bool false, .bool true] 30 (0, 0))) := ⟨by (with_reducible repeat first | apply bd | apply be | apply ba); refine blk_put (cs := #[.bool false, .bool false, .bool true, .bool false, .bool false]) ?_ 4 _ rfl; (with_reducible repeat first | apply bd | apply be | apply ba); refine blk_put (cs := #[.bool false, .bool false, .bool true, .bool false, .bool false]) ?_ 3 _ rfl; (with_reducible repeat first | apply bd | apply be | apply ba); refine blk_put (cs := F5) ?_ 2 _ rfl; (with_reducible repeat first | apply bd | apply be | apply ba); refine blk_put (cs := F5) ?_ 1 _ rfl; (with_reducible repeat first | apply bd | apply be | apply ba); refine blk_put (cs := F5) ?_ 0 _ rfl; (with_reducible repeat first | apply bd | apply be | apply ba); exact BK126.out⟩
     have n2_ : Aside0 (Below w.heap.size w (((((w59.setCell ⟨gb126, 0, none⟩ (.bool false)).setCell ⟨gb126, 1, none⟩ (.bool false)).setCell ⟨gb126, 2, none⟩ (.bool true)).setCell ⟨gb126, 3, none⟩ (.bool false)).setCell ⟨gb126, 4, none⟩ (.bool true))) := ⟨bl2 HB.out GE125.out GE126.out⟩
     (try clear BK125)
     (try clear BK126)
     (try clear HB)
     generalize (((((w59.setCell ⟨gb126, 0, none⟩ (.bool false)).setCell ⟨gb126, 1, none⟩ (.bool false)).setCell ⟨gb126, 2, none⟩ (.bool true)).setCell ⟨gb126, 3, none⟩ (.bool false)).setCell ⟨gb126, 4, none⟩ (.bool true)) = w62 at n0_ n1_ n2_ ⊢
     have BK125 := n0_
     have BK126 := n1_
     have HB := n2_
     clear n0_ n1_ n2_
     have n0_ := Aside0.mk (blk_drew BK125.out)
     have n1_ := Aside0.mk (blk_drew BK126.out)
     have n2_ := Aside0.mk (below_drew1 HB.out)
     clear BK125
     clear BK126
     clear HB
     have BK125 := n0_
     have BK126 := n1_
     have HB := n2_
     clear n0_ n1_ n2_
     refine start_ (n := 6) (S := fun w' => w'.cell? ⟨gb126, 0, none⟩ = some (.bool false) ∧ w'.cell? ⟨gb126, 1, none⟩ = some (.bool false) ∧ w'.cell? ⟨gb126, 2, none⟩ = some (.bool true) ∧ w'.cell? ⟨gb126, 3, none⟩ = some (.bool false) ∧ w'.cell? ⟨gb126, 4, none⟩ = some (.bool true)) (ds := []) (tf 0 6) (by kernel_rfl) rfl rfl ⟨(blk_cell BK126.out 0).trans rfl, (blk_cell BK126.out 1).trans rfl, (blk_cell BK126.out 2).trans rfl, (blk_cell BK126.out 3).trans rfl, (blk_cell BK126.out 4).trans rfl⟩ (fun hHeld => ?_)
     generalize w62.drew = w63 at BK125 BK126 HB hHeld ⊢
     refine pure_ (i := 0) (N := some 28) (v := ?_) (a' := ?_) (tf 1 5) rfl rfl (by kernel_rfl) (fun _ _ _ h => h) (Or.inl ⟨by rfl, ?_⟩) ?_ ?_
     rotate_left
     ·intro w'
      go_simp
      with_reducible rfl
     rotate_left
     ·simp only [Act.put, sb, sz, ss, i64_w, i32_w]
      rfl
     refine pure_ (i := 1) (N := some 29) (v := ?_) (a' := ?_) (tf 2 4) rfl rfl (by kernel_rfl) (fun _ _ _ h => h) (Or.inl ⟨by rfl, ?_⟩) ?_ ?_
     rotate_left
     ·intro w'
      go_simp
      with_reducible rfl
     rotate_left
     ·simp only [Act.put, sb, sz, ss, i64_w, i32_w]
      rfl
     refine take_ (i := 3) (N := some 31) (v := ?_) (a' := ?_) #[true, true, false, true, false, false] rfl rfl (by kernel_rfl) (fun _ _ _ h => h) (Or.inl ⟨by rfl, ?_⟩) hHeld ?_ ?_
     rotate_left
     ·rintro w' ⟨s0, s1, s2, s3, s4⟩
      go_simp
      with_reducible rfl
     rotate_left
     ·simp only [Act.put, sb, sz, ss, i64_w, i32_w]
      rfl
     refine one_ (i := 2) (N := some 30) (tf 4 2) rfl rfl (by kernel_rfl) (by decide) (fun K hK => ?_)
     refine goes_ Try.func77 (by kernel_rfl) rfl #[.int .i64 a0, .bool false] (by rfl) rfl rfl gl ?_
     with_reducible refine (format_Greatest.calls a0 false t131 _ A57.out).mono ?_
     rintro e w' ⟨rfl, ⟨nd, rfl⟩⟩
     refine ⟨_, rfl, ?_⟩
     refine hK.out _ _ ⟨(blk_cell BK126.out 0).trans rfl, (blk_cell BK126.out 1).trans rfl, (blk_cell BK126.out 2).trans rfl, (blk_cell BK126.out 3).trans rfl, (blk_cell BK126.out 4).trans rfl⟩ (fun hHeld => ?_)
     clear hK K
     refine norm_ (a' := ?_) ?_ ?_
     rotate_left
     ·show Act.put _ (some 30) _ = _
      simp only [Act.put, sb, sz, ss, i64_w, i32_w]
      rfl
     refine pure_ (i := 4) (N := some 6) (v := ?_) (a' := ?_) (tf 5 1) rfl rfl (by kernel_rfl) (fun _ _ _ h => h) (Or.inl ⟨by rfl, ?_⟩) ?_ ?_
     rotate_left
     ·intro w'
      go_simp
      with_reducible rfl
     rotate_left
     ·simp only [Act.put, sb, sz, ss, i64_w, i32_w]
      rfl
     refine one_ (i := 5) (N := none) (tf 6 0) rfl rfl (by kernel_rfl) (by decide) (fun K hK => ?_)
     have hs64 : w63.cell? ⟨gb125, 0, none⟩ = some (.bool false) := (blk_cell BK125.out 0).trans rfl
     have hfs64 := blk_frozen BK125.out 0
     have hns64_1 := NB126_125.out
     have hms64_1 := NB125_126.out
     have hs65 : w63.cell? ⟨gb125, 1, none⟩ = some (.bool false) := (blk_cell BK125.out 1).trans rfl
     have hfs65 := blk_frozen BK125.out 1
     have hns65_1 := NB126_125.out
     have hms65_1 := NB125_126.out
     have hs66 : w63.cell? ⟨gb125, 2, none⟩ = some (.bool false) := (blk_cell BK125.out 2).trans rfl
     have hfs66 := blk_frozen BK125.out 2
     have hns66_1 := NB126_125.out
     have hms66_1 := NB125_126.out
     have hs67 : w63.cell? ⟨gb125, 3, none⟩ = some (.bool false) := (blk_cell BK125.out 3).trans rfl
     have hfs67 := blk_frozen BK125.out 3
     have hns67_1 := NB126_125.out
     have hms67_1 := NB125_126.out
     have hs68 : w63.cell? ⟨gb125, 4, none⟩ = some (.bool false) := (blk_cell BK125.out 4).trans rfl
     have hfs68 := blk_frozen BK125.out 4
     have hns68_1 := NB126_125.out
     have hms68_1 := NB125_126.out
     refine skip_ (w1 := ?_) (by rfl) rfl ?_ ?_
     rotate_left
     ·go_simp
      rfl
     refine hK.out _ _ ⟨(cf5 NB126_125.out (hHeld.1)), (cf5 NB126_125.out (hHeld.2.1)), (cf5 NB126_125.out (hHeld.2.2.1)), (cf5 NB126_125.out (hHeld.2.2.2.1)), (cf5 NB126_125.out (hHeld.2.2.2.2))⟩ (fun hHeld => ?_)
     clear hK K
     refine done_ (by kernel_rfl) ?_
     try go_wp2
     refine bodyPost_ret (results_tc rfl _ _ gb125 30 #[.bool false, .bool false, .bool true, .bool false, .bool true] (0, 0) _ rfl (by (with_reducible repeat first | apply bd | apply be | apply ba); refine blk_put (cs := #[.bool false, .bool false, .bool true, .bool false, .bool false]) ?_ 4 _ rfl; (with_reducible repeat first | apply bd | apply be | apply ba); refine blk_put (cs := #[.bool false, .bool false, .bool true, .bool false, .bool false]) ?_ 3 _ rfl; (with_reducible repeat first | apply bd | apply be | apply ba); refine blk_put (cs := F5) ?_ 2 _ rfl; (with_reducible repeat first | apply bd | apply be | apply ba); refine blk_put (cs := F5) ?_ 1 _ rfl; (with_reducible repeat first | apply bd | apply be | apply ba); refine blk_put (cs := F5) ?_ 0 _ rfl; (with_reducible repeat first | apply bd | apply be | apply ba); exact BK125.out) Try.underlying30 rfl (by kernel_rfl)) rfl ?_
     exact ⟨by first | rfl | (simp [errW_none, errW_some] <;> rfl) | (simp [*, errW_none, errW_some] <;> rfl), bl2 HB.out GE125.out GE126.out⟩
   ·rw [if_neg c43] at H
    have c43b0 : (a1 == 3) = false := beq_eq_false_iff_ne.mpr c43
    have c43b1 : (a1 != 3) = true := bne_iff_ne.mpr c43
    replace H := Option.bind_eq_some_iff.mp H
    obtain ⟨t132, A690, H⟩ := H
    replace H : (some (t132, false, false, true, false, true)) = some (r1, r2, r3, r4, r5, r6) := H
    have A69 := Aside0.mk A690
    clear A690
    simp only [Option.some.injEq, Prod.mk.injEq] at H
    obtain ⟨rfl, rfl, rfl, rfl, rfl, rfl⟩ := H
    go_enter Try.func48, Try.ntmps48
    try go_wp2_with (first | ((with_reducible refine gate_dst (N := 7) rfl ?_); refine box_event ?hg (N := 7) ?hd (cs := F5) (t := 30) ?hr ?_; (case hd => rfl); (case hg => rfl); (case hr => first | (go_simp; done) | (go_simp; rfl)); intro gb125 hg w70 hbox hb; have n0_ := Aside0.mk (below_step (bl0 HB.out) hb); have n1_ := Aside0.mk (hbox); have n2_ := Aside0.mk ((by rw [hg]; exact (below_size (bl0 HB.out)) : w.heap.size ≤ gb125)); have n3_ := n2_; clear HB; have HB := n0_; have BK125 := n1_; have GW125 := n2_; have GE125 := n3_; clear n0_ n1_ n2_ n3_; clear hb hbox hg) | ((with_reducible refine gate_dst (N := 8) rfl ?_); refine box_event ?hg (N := 8) ?hd (cs := F5) (t := 30) ?hr ?_; (case hd => rfl); (case hg => rfl); (case hr => first | (go_simp; done) | (go_simp; rfl)); intro gb126 hg w71 hbox hb; have n0_ := Aside0.mk (blk_below (g := gb125) (o := .cells #[.bool false, .bool false, .bool false, .bool false, .bool false] 30 (0, 0)) (bv BK125.out) hb); have n1_ := Aside0.mk (below_step (bl1 HB.out GE125.out) hb); have n2_ := Aside0.mk (hbox); have n3_ := Aside0.mk ((by rw [hg]; exact (below_size (bl1 HB.out GE125.out)) : w.heap.size ≤ gb126)); have n4_ := n3_; have n5_ := Aside0.mk ((by rw [hg]; exact Nat.ne_of_lt (blk_lt (g := gb125) (o := .cells F5 30 (0, 0)) (bv BK125.out)) : gb125 ≠ gb126)); have n6_ := Aside0.mk (Ne.symm n5_.out); clear BK125; clear HB; have BK125 := n0_; have HB := n1_; have BK126 := n2_; have GW126 := n3_; have GE126 := n4_; have NB125_126 := n5_; have NB126_125 := n6_; clear n0_ n1_ n2_ n3_ n4_ n5_ n6_; clear hb hbox hg; have hnb72 := NB126_125.out; have hnc72 := NB125_126.out; obtain ⟨hcz73_0, hcz73_1, hcz73_2, hcz73_3, hcz73_4⟩ := bc5 BK126.out; obtain ⟨hfz73_0, hfz73_1, hfz73_2, hfz73_3, hfz73_4⟩ := bf5 BK126.out))
    have n0_ : Aside0 ((((((w71.setCell ⟨gb126, 0, none⟩ (.bool false)).setCell ⟨gb126, 1, none⟩ (.bool false)).setCell ⟨gb126, 2, none⟩ (.bool true)).setCell ⟨gb126, 3, none⟩ (.bool false)).setCell ⟨gb126, 4, none⟩ (.bool true)).heap[gb125]? = some (.cells #[.bool false, .bool false, .bool false, .bool false, .bool false] 30 (0, 0))) := ⟨by (with_reducible repeat first | apply bd | apply be | apply ba); refine blk_far ?_ NB125_126.out _; (with_reducible repeat first | apply bd | apply be | apply ba); refine blk_far ?_ NB125_126.out _; (with_reducible repeat first | apply bd | apply be | apply ba); refine blk_far ?_ NB125_126.out _; (with_reducible repeat first | apply bd | apply be | apply ba); refine blk_far ?_ NB125_126.out _; (with_reducible repeat first | apply bd | apply be | apply ba); refine blk_far ?_ NB125_126.out _; (with_reducible repeat first | apply bd | apply be | apply ba); exact BK125.out⟩
    have n1_ : Aside0 ((((((w71.setCell ⟨gb126, 0, none⟩ (.bool false)).setCell ⟨gb126, 1, none⟩ (.bool false)).setCell ⟨gb126, 2, none⟩ (.bool true)).setCell ⟨gb126, 3, none⟩ (.bool false)).setCell ⟨gb126, 4, none⟩ (.bool true)).heap[gb126]? = some (.cells #[.bool false, .bool false, .bool true, .bool false, .bool true] 30 (0, 0))) := ⟨by (with_reducible repeat first | apply bd | apply be | apply ba); refine blk_put (cs := #[.bool false, .bool false, .bool true, .bool false, .bool false]) ?_ 4 _ rfl; (with_reducible repeat first | apply bd | apply be | apply ba); refine blk_put (cs := #[.bool false, .bool false, .bool true, .bool false, .bool false]) ?_ 3 _ rfl; (with_reducible repeat first | apply bd | apply be | apply ba); refine blk_put (cs := F5) ?_ 2 _ rfl; (with_reducible repeat first | apply bd | apply be | apply ba); refine blk_put (cs := F5) ?_ 1 _ rfl; (with_reducible repeat first | apply bd | apply be | apply ba); refine blk_put (cs := F5) ?_ 0 _ rfl; (with_reducible repeat first | apply bd | apply be | apply ba); exact BK126.out⟩
    have n2_ : Aside0 (Below w.heap.size w (((((w71.setCell ⟨gb126, 0, none⟩ (.bool false)).setCell ⟨gb126, 1, none⟩ (.bool false)).setCell ⟨gb126, 2, none⟩ (.bool true)).setCell ⟨gb126, 3, none⟩ (.bool false)).setCell ⟨gb126, 4, none⟩ (.bool true))) := ⟨bl2 HB.out GE125.out GE126.out⟩
    (try clear BK125)
    (try clear BK126)
    (try clear HB)
    generalize (((((w71.setCell ⟨gb126, 0, none⟩ (.bool false)).setCell ⟨gb126, 1, none⟩ (.bool false)).setCell ⟨gb126, 2, none⟩ (.bool true)).setCell ⟨gb126, 3, none⟩ (.bool false)).setCell ⟨gb126, 4, none⟩ (.bool true)) = w74 at n0_ n1_ n2_ ⊢
    have BK125 := n0_
    have BK126 := n1_
    have HB := n2_
    clear n0_ n1_ n2_
    have n0_ := Aside0.mk (blk_drew BK125.out)
    have n1_ := Aside0.mk (blk_drew BK126.out)
    have n2_ := Aside0.mk (below_drew1 HB.out)
    clear BK125
    clear BK126
    clear HB
    have BK125 := n0_
    have BK126 := n1_
    have HB := n2_
    clear n0_ n1_ n2_
    refine start_ (n := 6) (S := fun w' => w'.cell? ⟨gb126, 0, none⟩ = some (.bool false) ∧ w'.cell? ⟨gb126, 1, none⟩ = some (.bool false) ∧ w'.cell? ⟨gb126, 2, none⟩ = some (.bool true) ∧ w'.cell? ⟨gb126, 3, none⟩ = some (.bool false) ∧ w'.cell? ⟨gb126, 4, none⟩ = some (.bool true)) (ds := []) (tf 0 6) (by kernel_rfl) rfl rfl ⟨(blk_cell BK126.out 0).trans rfl, (blk_cell BK126.out 1).trans rfl, (blk_cell BK126.out 2).trans rfl, (blk_cell BK126.out 3).trans rfl, (blk_cell BK126.out 4).trans rfl⟩ (fun hHeld => ?_)
    generalize w74.drew = w75 at BK125 BK126 HB hHeld ⊢
    refine pure_ (i := 0) (N := some 32) (v := ?_) (a' := ?_) (tf 1 5) rfl rfl (by kernel_rfl) (fun _ _ _ h => h) (Or.inl ⟨by rfl, ?_⟩) ?_ ?_
    rotate_left
    ·intro w'
     go_simp
     with_reducible rfl
    rotate_left
    ·simp only [Act.put, sb, sz, ss, i64_w, i32_w]
     rfl
    refine pure_ (i := 1) (N := some 33) (v := ?_) (a' := ?_) (tf 2 4) rfl rfl (by kernel_rfl) (fun _ _ _ h => h) (Or.inl ⟨by rfl, ?_⟩) ?_ ?_
    rotate_left
    ·intro w'
     go_simp
     with_reducible rfl
    rotate_left
    ·simp only [Act.put, sb, sz, ss, i64_w, i32_w]
     rfl
    refine take_ (i := 3) (N := some 35) (v := ?_) (a' := ?_) #[true, true, false, true, false, false] rfl rfl (by kernel_rfl) (fun _ _ _ h => h) (Or.inl ⟨by rfl, ?_⟩) hHeld ?_ ?_
    rotate_left
    ·rintro w' ⟨s0, s1, s2, s3, s4⟩
     go_simp
     with_reducible rfl
    rotate_left
    ·simp only [Act.put, sb, sz, ss, i64_w, i32_w]
     rfl
    refine one_ (i := 2) (N := some 34) (tf 4 2) rfl rfl (by kernel_rfl) (by decide) (fun K hK => ?_)
    refine goes_ Try.func64 (by kernel_rfl) rfl #[.int .i64 a0, .bool a2] (by rfl) rfl rfl gl ?_
    with_reducible refine (format_Inf.calls a0 a2 t132 _ A69.out).mono ?_
    rintro e w' ⟨rfl, ⟨nd, rfl⟩⟩
    refine ⟨_, rfl, ?_⟩
    refine hK.out _ _ ⟨(blk_cell BK126.out 0).trans rfl, (blk_cell BK126.out 1).trans rfl, (blk_cell BK126.out 2).trans rfl, (blk_cell BK126.out 3).trans rfl, (blk_cell BK126.out 4).trans rfl⟩ (fun hHeld => ?_)
    clear hK K
    refine norm_ (a' := ?_) ?_ ?_
    rotate_left
    ·show Act.put _ (some 34) _ = _
     simp only [Act.put, sb, sz, ss, i64_w, i32_w]
     rfl
    refine pure_ (i := 4) (N := some 6) (v := ?_) (a' := ?_) (tf 5 1) rfl rfl (by kernel_rfl) (fun _ _ _ h => h) (Or.inl ⟨by rfl, ?_⟩) ?_ ?_
    rotate_left
    ·intro w'
     go_simp
     with_reducible rfl
    rotate_left
    ·simp only [Act.put, sb, sz, ss, i64_w, i32_w]
     rfl
    refine one_ (i := 5) (N := none) (tf 6 0) rfl rfl (by kernel_rfl) (by decide) (fun K hK => ?_)
    have hs76 : w75.cell? ⟨gb125, 0, none⟩ = some (.bool false) := (blk_cell BK125.out 0).trans rfl
    have hfs76 := blk_frozen BK125.out 0
    have hns76_1 := NB126_125.out
    have hms76_1 := NB125_126.out
    have hs77 : w75.cell? ⟨gb125, 1, none⟩ = some (.bool false) := (blk_cell BK125.out 1).trans rfl
    have hfs77 := blk_frozen BK125.out 1
    have hns77_1 := NB126_125.out
    have hms77_1 := NB125_126.out
    have hs78 : w75.cell? ⟨gb125, 2, none⟩ = some (.bool false) := (blk_cell BK125.out 2).trans rfl
    have hfs78 := blk_frozen BK125.out 2
    have hns78_1 := NB126_125.out
    have hms78_1 := NB125_126.out
    have hs79 : w75.cell? ⟨gb125, 3, none⟩ = some (.bool false) := (blk_cell BK125.out 3).trans rfl
    have hfs79 := blk_frozen BK125.out 3
    have hns79_1 := NB126_125.out
    have hms79_1 := NB125_126.out
    have hs80 : w75.cell? ⟨gb125, 4, none⟩ = some (.bool false) := (blk_cell BK125.out 4).trans rfl
    have hfs80 := blk_frozen BK125.out 4
    have hns80_1 := NB126_125.out
    have hms80_1 := NB125_126.out
    refine skip_ (w1 := ?_) (by rfl) rfl ?_ ?_
    rotate_left
    ·go_simp
     rfl
    refine hK.out _ _ ⟨(cf5 NB126_125.out (hHeld.1)), (cf5 NB126_125.out (hHeld.2.1)), (cf5 NB126_125.out (hHeld.2.2.1)), (cf5 NB126_125.out (hHeld.2.2.2.1)), (cf5 NB126_125.out (hHeld.2.2.2.2))⟩ (fun hHeld => ?_)
    clear hK K
    refine done_ (by kernel_rfl) ?_
    try go_wp2
    refine bodyPost_ret (results_tc rfl _ _ gb125 30 #[.bool false, .bool false, .bool true, .bool false, .bool true] (0, 0) _ rfl (by (with_reducible repeat first | apply bd | apply be | apply ba); refine blk_put (cs := #[.bool false, .bool false, .bool true, .bool false, .bool false]) ?_ 4 _ rfl; (with_reducible repeat first | apply bd | apply be | apply ba); refine blk_put (cs := #[.bool false, .bool false, .bool true, .bool false, .bool false]) ?_ 3 _ rfl; (with_reducible repeat first | apply bd | apply be | apply ba); refine blk_put (cs := F5) ?_ 2 _ rfl; (with_reducible repeat first | apply bd | apply be | apply ba); refine blk_put (cs := F5) ?_ 1 _ rfl; (with_reducible repeat first | apply bd | apply be | apply ba); refine blk_put (cs := F5) ?_ 0 _ rfl; (with_reducible repeat first | apply bd | apply be | apply ba); exact BK125.out) Try.underlying30 rfl (by kernel_rfl)) rfl ?_
    exact ⟨by first | rfl | (simp [errW_none, errW_some] <;> rfl) | (simp [*, errW_none, errW_some] <;> rfl), bl2 HB.out GE125.out GE126.out⟩

end Go.Proofs.Ytoljndjpnbdjmaa.P
