import Derived.Test.YtngkpekmgahjiaaQwtZ
import Derived.Test.YtngkpekmgahjiaaQwtM1
-- Printed by a program of this session's out of Lean's print of the translation; Lean checks it.
namespace Go.Proofs.Ytngkpekmgahjiaa.P
open Go.RowKit Go.Proofs.YtngkpekmgahjiaaW.PrintWords Go.Proofs.YtngkpekmgahjiaaW.PrintLast Go.Proofs.YtngkpekmgahjiaaW.PrintMore
attribute [local go_sem] max2_int min2_int max_two min_two max_three min_three max_four min_four
set_option linter.unusedVariables false
set_option linter.unusedSimpArgs false

/-! ### round_Pack: function 51 -/
mutual
def round_Pack.j0 : Nat → Int → Int → Bool → Int → Int → Bool → Bool → Option (Int × Bool × Bool × Bool × Bool × Bool)
 |0, _, _, _, _, _, _, _ => none
 |k + 1, x0, x1, x2, x3, x4, x5, x29 => if x29 = true then ((format_Zero.f x0 x2).bind fun t134 => (some (t134, false, false, false, false, false))) else ((format_Widths.f x0).bind fun bt135 => ((round_Unit.f k x0 x3 x4).bind fun t137 => ((round_Units.f k x4 (wrap64 (t137 - x3)) x5).bind fun bt138 => ((round_Up.f x1 x2 bt138.1 bt138.2).bind fun t140 => (if t140 = true then (round_Pack.j1 k x0 x1 x2 x3 x4 bt135.2 t137 (IntKind.u64.wrap (bt138.1 + 1)) bt138.2) else (round_Pack.j1 k x0 x1 x2 x3 x4 bt135.2 t137 bt138.1 bt138.2))))))
def round_Pack.j1 : Nat → Int → Int → Bool → Int → Int → Int → Int → Int → Int → Option (Int × Bool × Bool × Bool × Bool × Bool)
 |0, _, _, _, _, _, _, _, _, _ => none
 |k + 1, x0, x1, x2, x3, x4, x15, x16, x17, x18 => if 0 ≤ (IntKind.u64.wrap (wrap64 (x15 + 1))) then (if (shr .u64 x17 (IntKind.u64.wrap (wrap64 (x15 + 1)))) = 0 then (round_Pack.j2 k x0 x1 x2 x3 x4 x15 x16 x17 x18) else (round_Pack.j2 k x0 x1 x2 x3 x4 x15 (wrap64 (x16 + 1)) (x17 / 2) x18)) else (none)
def round_Pack.j2 : Nat → Int → Int → Bool → Int → Int → Int → Int → Int → Int → Option (Int × Bool × Bool × Bool × Bool × Bool)
 |0, _, _, _, _, _, _, _, _, _ => none
 |k + 1, x0, x1, x2, x3, x4, x15, x16, x17, x18 => (format_Least.f x0).bind fun t141 => (if 0 ≤ (IntKind.u64.wrap (x15)) then (if (shr .u64 x17 (IntKind.u64.wrap (x15))) = 0 then (round_Pack.j3 k x0 x1 x2 x3 x4 x15 x17 x18 0) else (round_Pack.j3 k x0 x1 x2 x3 x4 x15 x17 x18 (wrap64 ((wrap64 ((wrap64 (x16 + x15)) - t141)) + 1)))) else (none))
def round_Pack.j3 : Nat → Int → Int → Bool → Int → Int → Int → Int → Int → Int → Option (Int × Bool × Bool × Bool × Bool × Bool)
 |0, _, _, _, _, _, _, _, _, _ => none
 |k + 1, x0, x1, x2, x3, x4, x15, x17, x18, x19 => (format_Top.f x0).bind fun t142 => (if x19 ≥ t142 then ((round_beyond.f x0 x1 x2).bind fun bt143 => (some (bt143.1, bt143.2.1, bt143.2.2.1, bt143.2.2.2.1, bt143.2.2.2.2.1, bt143.2.2.2.2.2))) else (if x18 = 0 then ((bits_Cut.f x17 x15).bind fun t150 => ((format_Join.f x0 x2 x19 ((t150) % 4294967296)).bind fun t151 => (some (t151, false, false, false, false, (x18 != 0))))) else (if x4 = 0 then ((bits_Cut.f x17 x15).bind fun t152 => ((format_Join.f x0 x2 x19 ((t152) % 4294967296)).bind fun t153 => (some (t153, false, false, false, true, (x18 != 0))))) else ((bits_Len.f k x4).bind fun t154 => ((format_Least.f x0).bind fun t155 => ((bits_Cut.f x17 x15).bind fun t156 => ((format_Join.f x0 x2 x19 ((t156) % 4294967296)).bind fun t157 => (some (t157, false, false, false, decide ((wrap64 ((wrap64 (x3 + t154)) - 1)) < t155), (x18 != 0))))))))))
end
def round_Pack.f (k : Nat) (a0 : Int) (a1 : Int) (a2 : Bool) (a3 : Int) (a4 : Int) (a5 : Bool) : Option (Int × Bool × Bool × Bool × Bool × Bool) := if a4 = 0 then (round_Pack.j0 k a0 a1 a2 (mn (mx a3 (-10000)) 10000) a4 a5 (!a5)) else (round_Pack.j0 k a0 a1 a2 (mn (mx a3 (-10000)) 10000) a4 a5 false)
theorem round_Pack.mono_l : ∀ k, (∀ y0 y1 y2 y3 y4 y5 y6, LeO (round_Pack.j0 k y0 y1 y2 y3 y4 y5 y6) (round_Pack.j0 (k + 1) y0 y1 y2 y3 y4 y5 y6)) ∧ (∀ y0 y1 y2 y3 y4 y5 y6 y7 y8, LeO (round_Pack.j1 k y0 y1 y2 y3 y4 y5 y6 y7 y8) (round_Pack.j1 (k + 1) y0 y1 y2 y3 y4 y5 y6 y7 y8)) ∧ (∀ y0 y1 y2 y3 y4 y5 y6 y7 y8, LeO (round_Pack.j2 k y0 y1 y2 y3 y4 y5 y6 y7 y8) (round_Pack.j2 (k + 1) y0 y1 y2 y3 y4 y5 y6 y7 y8)) ∧ (∀ y0 y1 y2 y3 y4 y5 y6 y7 y8, LeO (round_Pack.j3 k y0 y1 y2 y3 y4 y5 y6 y7 y8) (round_Pack.j3 (k + 1) y0 y1 y2 y3 y4 y5 y6 y7 y8))
 |0 => ⟨fun _ _ _ _ _ _ _ r h => by simp [round_Pack.j0] at h, fun _ _ _ _ _ _ _ _ _ r h => by simp [round_Pack.j1] at h, fun _ _ _ _ _ _ _ _ _ r h => by simp [round_Pack.j2] at h, fun _ _ _ _ _ _ _ _ _ r h => by simp [round_Pack.j3] at h⟩
 |k + 1 => by
  obtain ⟨ih0, ih1, ih2, ih3⟩ := round_Pack.mono_l k
  refine ⟨?_, ?_, ?_, ?_⟩
  ·intro y0 y1 y2 y3 y4 y5 y6
   unfold round_Pack.j0
   repeat' first
   |(with_reducible exact ih0 _ _ _ _ _ _ _)
   |(with_reducible exact ih1 _ _ _ _ _ _ _ _ _)
   |(with_reducible exact ih2 _ _ _ _ _ _ _ _ _)
   |(with_reducible exact ih3 _ _ _ _ _ _ _ _ _)
   |(with_reducible exact bits_Len.mono _ _)
   |(with_reducible exact round_Unit.mono _ _ _ _)
   |(with_reducible exact round_Units.mono _ _ _ _)
   |(with_reducible exact LeO.refl _)
   |(with_reducible exact LeO.none _)
   |(with_reducible refine LeO.ite ?_ ?_)
   |(with_reducible refine LeO.bind ?_ (fun _ => ?_))
   |exact ih0 _ _ _ _ _ _ _
   |exact ih1 _ _ _ _ _ _ _ _ _
   |exact ih2 _ _ _ _ _ _ _ _ _
   |exact ih3 _ _ _ _ _ _ _ _ _
   |exact bits_Len.mono _ _
   |exact round_Unit.mono _ _ _ _
   |exact round_Units.mono _ _ _ _
   |exact LeO.none _
   |refine LeO.ite ?_ ?_
   |refine LeO.bind ?_ (fun _ => ?_)
  ·intro y0 y1 y2 y3 y4 y5 y6 y7 y8
   unfold round_Pack.j1
   repeat' first
   |(with_reducible exact ih0 _ _ _ _ _ _ _)
   |(with_reducible exact ih1 _ _ _ _ _ _ _ _ _)
   |(with_reducible exact ih2 _ _ _ _ _ _ _ _ _)
   |(with_reducible exact ih3 _ _ _ _ _ _ _ _ _)
   |(with_reducible exact bits_Len.mono _ _)
   |(with_reducible exact round_Unit.mono _ _ _ _)
   |(with_reducible exact round_Units.mono _ _ _ _)
   |(with_reducible exact LeO.refl _)
   |(with_reducible exact LeO.none _)
   |(with_reducible refine LeO.ite ?_ ?_)
   |(with_reducible refine LeO.bind ?_ (fun _ => ?_))
   |exact ih0 _ _ _ _ _ _ _
   |exact ih1 _ _ _ _ _ _ _ _ _
   |exact ih2 _ _ _ _ _ _ _ _ _
   |exact ih3 _ _ _ _ _ _ _ _ _
   |exact bits_Len.mono _ _
   |exact round_Unit.mono _ _ _ _
   |exact round_Units.mono _ _ _ _
   |exact LeO.none _
   |refine LeO.ite ?_ ?_
   |refine LeO.bind ?_ (fun _ => ?_)
  ·intro y0 y1 y2 y3 y4 y5 y6 y7 y8
   unfold round_Pack.j2
   repeat' first
   |(with_reducible exact ih0 _ _ _ _ _ _ _)
   |(with_reducible exact ih1 _ _ _ _ _ _ _ _ _)
   |(with_reducible exact ih2 _ _ _ _ _ _ _ _ _)
   |(with_reducible exact ih3 _ _ _ _ _ _ _ _ _)
   |(with_reducible exact bits_Len.mono _ _)
   |(with_reducible exact round_Unit.mono _ _ _ _)
   |(with_reducible exact round_Units.mono _ _ _ _)
   |(with_reducible exact LeO.refl _)
   |(with_reducible exact LeO.none _)
   |(with_reducible refine LeO.ite ?_ ?_)
   |(with_reducible refine LeO.bind ?_ (fun _ => ?_))
   |exact ih0 _ _ _ _ _ _ _
   |exact ih1 _ _ _ _ _ _ _ _ _
   |exact ih2 _ _ _ _ _ _ _ _ _
   |exact ih3 _ _ _ _ _ _ _ _ _
   |exact bits_Len.mono _ _
   |exact round_Unit.mono _ _ _ _
   |exact round_Units.mono _ _ _ _
   |exact LeO.none _
   |refine LeO.ite ?_ ?_
   |refine LeO.bind ?_ (fun _ => ?_)
  ·intro y0 y1 y2 y3 y4 y5 y6 y7 y8
   unfold round_Pack.j3
   repeat' first
   |(with_reducible exact ih0 _ _ _ _ _ _ _)
   |(with_reducible exact ih1 _ _ _ _ _ _ _ _ _)
   |(with_reducible exact ih2 _ _ _ _ _ _ _ _ _)
   |(with_reducible exact ih3 _ _ _ _ _ _ _ _ _)
   |(with_reducible exact bits_Len.mono _ _)
   |(with_reducible exact round_Unit.mono _ _ _ _)
   |(with_reducible exact round_Units.mono _ _ _ _)
   |(with_reducible exact LeO.refl _)
   |(with_reducible exact LeO.none _)
   |(with_reducible refine LeO.ite ?_ ?_)
   |(with_reducible refine LeO.bind ?_ (fun _ => ?_))
   |exact ih0 _ _ _ _ _ _ _
   |exact ih1 _ _ _ _ _ _ _ _ _
   |exact ih2 _ _ _ _ _ _ _ _ _
   |exact ih3 _ _ _ _ _ _ _ _ _
   |exact bits_Len.mono _ _
   |exact round_Unit.mono _ _ _ _
   |exact round_Units.mono _ _ _ _
   |exact LeO.none _
   |refine LeO.ite ?_ ?_
   |refine LeO.bind ?_ (fun _ => ?_)
theorem round_Pack.mono : ∀ a0 a1 a2 a3 a4 a5 k, LeO (round_Pack.f k a0 a1 a2 a3 a4 a5) (round_Pack.f (k + 1) a0 a1 a2 a3 a4 a5) := by
 intro a0 a1 a2 a3 a4 a5 k
 obtain ⟨ih0, ih1, ih2, ih3⟩ := round_Pack.mono_l k
 unfold round_Pack.f
 repeat' first
   |(with_reducible exact ih0 _ _ _ _ _ _ _)
   |(with_reducible exact ih1 _ _ _ _ _ _ _ _ _)
   |(with_reducible exact ih2 _ _ _ _ _ _ _ _ _)
   |(with_reducible exact ih3 _ _ _ _ _ _ _ _ _)
   |(with_reducible exact bits_Len.mono _ _)
   |(with_reducible exact round_Unit.mono _ _ _ _)
   |(with_reducible exact round_Units.mono _ _ _ _)
   |(with_reducible exact LeO.refl _)
   |(with_reducible exact LeO.none _)
   |(with_reducible refine LeO.ite ?_ ?_)
   |(with_reducible refine LeO.bind ?_ (fun _ => ?_))
   |exact ih0 _ _ _ _ _ _ _
   |exact ih1 _ _ _ _ _ _ _ _ _
   |exact ih2 _ _ _ _ _ _ _ _ _
   |exact ih3 _ _ _ _ _ _ _ _ _
   |exact bits_Len.mono _ _
   |exact round_Unit.mono _ _ _ _
   |exact round_Units.mono _ _ _ _
   |exact LeO.none _
   |refine LeO.ite ?_ ?_
   |refine LeO.bind ?_ (fun _ => ?_)
def round_Pack.T18 : Bool × List (List Nat × List Nat) := (true, [([], []), ([], []), ([], []), ([], []), ([], []), ([3, 4], [3, 4]), ([5], [5]), ([0, 1, 2, 6, 5], [0, 1, 2, 6]), ([], []), ([7, 7, 0, 1, 2, 3, 4, 5, 6, 7], [7]), ([8, 9, 0, 1, 2, 3, 4, 5, 6, 7, 8, 9], [8])])
def round_Pack.B18 : List Nat := [0, 0, 0, 0, 0, 24, 56, 127, 0, 255, 1023]
theorem round_Pack.tab18 : rtab .any (opsOf Try.f51 18) = round_Pack.T18 := by kernel_rfl
theorem round_Pack.bits18 : waitsOk round_Pack.T18.2 round_Pack.B18 = true := by kernel_rfl
set_option maxHeartbeats 8000000 in
set_option maxRecDepth 100000 in
theorem round_Pack.calls (k : Nat) (a0 : Int) (a1 : Int) (a2 : Bool) (a3 : Int) (a4 : Int) (a5 : Bool) (r1 : Int) (r2 : Bool) (r3 : Bool) (r4 : Bool) (r5 : Bool) (r6 : Bool) (w : World) (h : round_Pack.f k a0 a1 a2 a3 a4 a5 = some (r1, r2, r3, r4, r5, r6)) :
  Calls Try.prog 51 #[.int .i64 a0, .int .i64 a1, .bool a2, .int .i64 a3, .int .u64 a4, .bool a5] w fun e w' => e = .returned (.tuple #[.int .u32 r1, .agg #[.bool r2, .bool r3, .bool r4, .bool r5, .bool r6]]) ∧ Below w.heap.size w w' := by
 have hu41 := Try.underlying41
 have HB := Aside0.mk (Below.refl w.heap.size w)
 have H : (if a4 = 0 then (round_Pack.j0 k a0 a1 a2 (mn (mx a3 (-10000)) 10000) a4 a5 (!a5)) else (round_Pack.j0 k a0 a1 a2 (mn (mx a3 (-10000)) 10000) a4 a5 false)) = some (r1, r2, r3, r4, r5, r6) := h
 clear h
 obtain ⟨ji7, hji7⟩ : ∃ j_ : Int, (mx a3 (-10000)) = j_ := ⟨_, rfl⟩
 replace H : (if a4 = 0 then (round_Pack.j0 k a0 a1 a2 (mn (ji7) 10000) a4 a5 (!a5)) else (round_Pack.j0 k a0 a1 a2 (mn (ji7) 10000) a4 a5 false)) = some (r1, r2, r3, r4, r5, r6) := by first | (rw [hji7] at H; exact H) | (simp only [hji7] at H ⊢; exact H)
 have hji7_ : (if a3 < (-10000) then (-10000) else a3) = ji7 := hji7
 obtain ⟨ji8, hji8⟩ : ∃ j_ : Int, (mn (ji7) 10000) = j_ := ⟨_, rfl⟩
 replace H : (if a4 = 0 then (round_Pack.j0 k a0 a1 a2 ji8 a4 a5 (!a5)) else (round_Pack.j0 k a0 a1 a2 ji8 a4 a5 false)) = some (r1, r2, r3, r4, r5, r6) := by first | (rw [hji8] at H; exact H) | (simp only [hji8] at H ⊢; exact H)
 have hji8_ : (if 10000 < (ji7) then 10000 else (ji7)) = ji8 := hji8
 have HC9 := Aside0.mk H
 clear H
 go_enter Try.func51, Try.ntmps51
 go_upto_region 2 with (first | ((with_reducible refine gate_dst (N := 13) rfl ?_); refine box_event ?hg (N := 13) ?hd (cs := F5) (t := 41) ?hr ?_; (case hd => rfl); (case hg => rfl); (case hr => first | (go_simp; done) | (go_simp; rfl)); intro gb133 hg w10 hbox hb; have n0_ := Aside0.mk (below_step (bl0 HB.out) hb); have n1_ := Aside0.mk (hbox); have n2_ := Aside0.mk ((by rw [hg]; exact (below_size (bl0 HB.out)) : w.heap.size ≤ gb133)); have n3_ := n2_; clear HB; have HB := n0_; have BK133 := n1_; have GW133 := n2_; have GE133 := n3_; clear n0_ n1_ n2_ n3_; clear hb hbox hg))
 (try simp only [Act.put, sb, sz, ss])
 go_cut [29] (fun v29 wc => ∃ (kq : Nat) (x29_8 : Bool), v29 = .bool x29_8 ∧ Aside0 (round_Pack.j0 kq a0 a1 a2 ji8 a4 a5 x29_8 = some (r1, r2, r3, r4, r5, r6)) ∧ Aside0 (kq ≤ k) ∧ Aside0 (wc.heap[gb133]? = some (o5_ false false false false false 41)) ∧ Aside0 (Below w.heap.size w wc))
 case first =>
  have H := HC9.out
  clear HC9
  by_cases c11 : a4 = 0
  ·rw [if_pos c11] at H
   have c11b0 : (a4 == 0) = true := beq_iff_eq.mpr c11
   have c11b1 : (a4 != 0) = false := bne_eq_false_iff_eq.mpr c11
   clear c11
   (first | rw [c11b0] | (simp only [i64_w, i32_w]; rw [c11b0]) | skip)
   have H' := Aside0.mk H
   clear H
   go_wp2
   go_meet
   case rel => exact ⟨_, (!a5), (by first | rfl | (simp; done) | (simp [*]; done) | (congr 1; (try unfold wrap64); omega) | (congr 1; rw [IntKind.wrap_u64]; omega)), H', ⟨by first | omega | exact Nat.le_refl _⟩, ⟨by (with_reducible repeat first | apply bd | apply be | apply ba); exact BK133.out⟩, ⟨bl1 HB.out GE133.out⟩⟩
  ·rw [if_neg c11] at H
   have c11b0 : (a4 == 0) = false := beq_eq_false_iff_ne.mpr c11
   have c11b1 : (a4 != 0) = true := bne_iff_ne.mpr c11
   (first | rw [c11b0] | (simp only [i64_w, i32_w]; rw [c11b0]) | skip)
   have H' := Aside0.mk H
   clear H
   go_wp2
   go_meet
   case rel => exact ⟨_, (false), (by first | rfl | (simp; done) | (simp [*]; done) | (congr 1; (try unfold wrap64); omega) | (congr 1; rw [IntKind.wrap_u64]; omega)), H', ⟨by first | omega | exact Nat.le_refl _⟩, ⟨by (with_reducible repeat first | apply bd | apply be | apply ba); exact BK133.out⟩, ⟨bl1 HB.out GE133.out⟩⟩
 case rest =>
  clear HC9
  try clear c1 p2 c5 p6 c11 c11b0 c11b1
  obtain ⟨kq, x29_8, rfl, HA, HJ8, BK133, HB⟩ := hcut
  cases kq with
  |zero => exact absurd HA.out (by simp [round_Pack.j0])
  |succ kj8 =>
   have H := HA.out
   clear HA
   simp only [round_Pack.j0] at H
   by_cases c12 : x29_8 = true
   ·subst c12
    have H1 : ((format_Zero.f a0 a2).bind fun t134 => (some (t134, false, false, false, false, false))) = some (r1, r2, r3, r4, r5, r6) := by rw [if_pos rfl] at H; exact H
    clear H
    have H := H1
    clear H1
    replace H := Option.bind_eq_some_iff.mp H
    obtain ⟨t134, A130, H⟩ := H
    replace H : (some (t134, false, false, false, false, false)) = some (r1, r2, r3, r4, r5, r6) := H
    have A13 := Aside0.mk A130
    clear A130
    simp only [Option.some.injEq, Prod.mk.injEq] at H
    obtain ⟨rfl, rfl, rfl, rfl, rfl, rfl⟩ := H
    go_wp2_with (first | ((with_reducible refine gate_callee (f := 68) rfl ?_); refine goesL_ (some 32) rfl rfl Try.func68 (by kernel_rfl) rfl #[.int .i64 a0, .bool a2] rfl gl ?_; (with_reducible refine (format_Zero.calls a0 a2 t134 _ A13.out).mono ?_); rintro e w' ⟨rfl, ⟨nd, rfl⟩⟩; refine ⟨_, rfl, ?_⟩; (try (rw [drewN_self wc]; generalize hq_ : World.drewN wc _ = wc; have n0_ : Aside0 (wc.heap[gb133]? = some (o5_ false false false false false 41)) := ⟨by rw [← hq_]; exact (bv BK133.out)⟩; have n1_ : Aside0 (Below w.heap.size w wc) := ⟨by rw [← hq_]; exact (bl1 HB.out GE133.out)⟩; clear BK133 HB hq_; have BK133 := n0_; have HB := n1_; clear n0_ n1_)); obtain ⟨hcz14_0, hcz14_1, hcz14_2, hcz14_3, hcz14_4⟩ := bc5 BK133.out; obtain ⟨hfz14_0, hfz14_1, hfz14_2, hfz14_3, hfz14_4⟩ := bf5 BK133.out))
    refine bodyPost_ret (results_tc rfl _ _ gb133 41 #[.bool false, .bool false, .bool false, .bool false, .bool false] (0, 0) _ rfl (by (with_reducible repeat first | apply bd | apply be | apply ba); refine blk_put (cs := F5) ?_ 4 _ rfl; (with_reducible repeat first | apply bd | apply be | apply ba); refine blk_put (cs := F5) ?_ 3 _ rfl; (with_reducible repeat first | apply bd | apply be | apply ba); refine blk_put (cs := F5) ?_ 2 _ rfl; (with_reducible repeat first | apply bd | apply be | apply ba); refine blk_put (cs := F5) ?_ 1 _ rfl; (with_reducible repeat first | apply bd | apply be | apply ba); refine blk_put (cs := F5) ?_ 0 _ rfl; (with_reducible repeat first | apply bd | apply be | apply ba); exact BK133.out) Try.underlying41 rfl (by kernel_rfl)) rfl ?_
    exact ⟨by first | rfl | (simp [errW_none, errW_some] <;> rfl) | (simp only [← hji7, ← hji8]; first | rfl | (simp [errW_none, errW_some] <;> rfl)) | (simp [*, errW_none, errW_some] <;> rfl), bl1 HB.out GE133.out⟩
   ·replace c12 := Bool.eq_false_iff.mpr c12
    subst c12
    have H1 : ((format_Widths.f a0).bind fun bt135 => ((round_Unit.f kj8 a0 ji8 a4).bind fun t137 => ((round_Units.f kj8 a4 (wrap64 (t137 - ji8)) a5).bind fun bt138 => ((round_Up.f a1 a2 bt138.1 bt138.2).bind fun t140 => (if t140 = true then (round_Pack.j1 kj8 a0 a1 a2 ji8 a4 bt135.2 t137 (IntKind.u64.wrap (bt138.1 + 1)) bt138.2) else (round_Pack.j1 kj8 a0 a1 a2 ji8 a4 bt135.2 t137 bt138.1 bt138.2)))))) = some (r1, r2, r3, r4, r5, r6) := by rw [if_neg (show ¬ (false = true) by decide)] at H; exact H
    clear H
    have H := H1
    clear H1
    replace H := Option.bind_eq_some_iff.mp H
    obtain ⟨⟨t135, t136⟩, A150, H⟩ := H
    replace H : ((round_Unit.f kj8 a0 ji8 a4).bind fun t137 => ((round_Units.f kj8 a4 (wrap64 (t137 - ji8)) a5).bind fun bt138 => ((round_Up.f a1 a2 bt138.1 bt138.2).bind fun t140 => (if t140 = true then (round_Pack.j1 kj8 a0 a1 a2 ji8 a4 t136 t137 (IntKind.u64.wrap (bt138.1 + 1)) bt138.2) else (round_Pack.j1 kj8 a0 a1 a2 ji8 a4 t136 t137 bt138.1 bt138.2))))) = some (r1, r2, r3, r4, r5, r6) := H
    have A15 := Aside0.mk A150
    clear A150
    replace H := Option.bind_eq_some_iff.mp H
    obtain ⟨t137, A160, H⟩ := H
    replace H : ((round_Units.f kj8 a4 (wrap64 (t137 - ji8)) a5).bind fun bt138 => ((round_Up.f a1 a2 bt138.1 bt138.2).bind fun t140 => (if t140 = true then (round_Pack.j1 kj8 a0 a1 a2 ji8 a4 t136 t137 (IntKind.u64.wrap (bt138.1 + 1)) bt138.2) else (round_Pack.j1 kj8 a0 a1 a2 ji8 a4 t136 t137 bt138.1 bt138.2)))) = some (r1, r2, r3, r4, r5, r6) := H
    have A16 := Aside0.mk A160
    clear A160
    replace H := Option.bind_eq_some_iff.mp H
    obtain ⟨⟨t138, t139⟩, A170, H⟩ := H
    replace H : ((round_Up.f a1 a2 t138 t139).bind fun t140 => (if t140 = true then (round_Pack.j1 kj8 a0 a1 a2 ji8 a4 t136 t137 (IntKind.u64.wrap (t138 + 1)) t139) else (round_Pack.j1 kj8 a0 a1 a2 ji8 a4 t136 t137 t138 t139))) = some (r1, r2, r3, r4, r5, r6) := H
    have A17 := Aside0.mk A170
    clear A170
    replace H := Option.bind_eq_some_iff.mp H
    obtain ⟨t140, A180, H⟩ := H
    replace H : (if t140 = true then (round_Pack.j1 kj8 a0 a1 a2 ji8 a4 t136 t137 (IntKind.u64.wrap (t138 + 1)) t139) else (round_Pack.j1 kj8 a0 a1 a2 ji8 a4 t136 t137 t138 t139)) = some (r1, r2, r3, r4, r5, r6) := H
    have A18 := Aside0.mk A180
    clear A180
    have HC19 := Aside0.mk H
    clear H
    go_upto_if 56 with (first | ((with_reducible refine gate_callee (f := 81) rfl ?_); refine goesL_ (some 36) rfl rfl Try.func81 (by kernel_rfl) rfl #[.int .i64 a0] rfl gl ?_; (with_reducible refine (format_Widths.calls a0 t135 t136 _ A15.out).mono ?_); rintro e w' ⟨rfl, ⟨nd, rfl⟩⟩; refine ⟨_, rfl, ?_⟩) | ((with_reducible refine gate_callee (f := 82) rfl ?_); refine goesL_ (some 42) rfl rfl Try.func82 (by kernel_rfl) rfl #[.int .i64 a0, .int .i64 ji8, .int .u64 a4] rfl (by (try simp only [List.map_toArray, List.map_cons, List.map_nil]); first | done | (simp only [hji8]; rfl) | rfl | (simp only [List.length_drop, List.length_take]; rfl)) ?_; (with_reducible refine (round_Unit.calls kj8 a0 ji8 a4 t137 _ A16.out).mono ?_); rintro e w20 ⟨rfl, hb⟩; refine ⟨_, rfl, ?_⟩; have n0_ := Aside0.mk (blk_below (g := gb133) (o := o5_ false false false false false 41) (bv BK133.out) hb); have n1_ := Aside0.mk (below_step (bl1 HB.out GE133.out) hb); clear BK133; clear HB; have BK133 := n0_; have HB := n1_; clear n0_ n1_) | ((with_reducible refine gate_callee (f := 83) rfl ?_); refine goesL_ (some 49) rfl rfl Try.func83 (by kernel_rfl) rfl #[.int .u64 a4, .int .i64 (wrap64 (t137 - ji8)), .bool a5] rfl (by (try simp only [List.map_toArray, List.map_cons, List.map_nil]); first | done | (simp only [hji8]; rfl) | rfl | (simp only [List.length_drop, List.length_take]; rfl)) ?_; (with_reducible refine (round_Units.calls kj8 a4 (wrap64 (t137 - ji8)) a5 t138 t139 _ A17.out).mono ?_); rintro e w' ⟨rfl, ⟨nd, rfl⟩⟩; refine ⟨_, rfl, ?_⟩) | ((with_reducible refine gate_callee (f := 84) rfl ?_); refine goesL_ (some 56) rfl rfl Try.func84 (by kernel_rfl) rfl #[.int .i64 a1, .bool a2, .int .u64 t138, .int .i64 t139] rfl gl ?_; (with_reducible refine (round_Up.calls a1 a2 t138 t139 t140 _ A18.out).mono ?_); rintro e w' ⟨rfl, ⟨nd, rfl⟩⟩; refine ⟨_, rfl, ?_⟩))
    (try simp only [Act.put, sb, sz, ss])
    go_cut [17] (fun v17 wc => ∃ (kq : Nat) (x17_18 : Int), v17 = .int .u64 x17_18 ∧ Aside0 (round_Pack.j1 kq a0 a1 a2 ji8 a4 t136 t137 x17_18 t139 = some (r1, r2, r3, r4, r5, r6)) ∧ Aside0 (kq ≤ kj8) ∧ Aside0 (wc.heap[gb133]? = some (o5_ false false false false false 41)) ∧ Aside0 (Below w.heap.size w wc))
    case first =>
     have H := HC19.out
     clear HC19
     by_cases c21 : t140 = true
     ·subst c21
      have H1 : (round_Pack.j1 kj8 a0 a1 a2 ji8 a4 t136 t137 (IntKind.u64.wrap (t138 + 1)) t139) = some (r1, r2, r3, r4, r5, r6) := by rw [if_pos rfl] at H; exact H
      clear H
      have H := H1
      clear H1
      have H' := Aside0.mk H
      clear H
      go_wp2
      go_meet
      case rel => exact ⟨_, (IntKind.u64.wrap (t138 + 1)), (by first | rfl | (simp; done) | (simp [*]; done) | (congr 1; (try unfold wrap64); omega) | (congr 1; rw [IntKind.wrap_u64]; omega)), H', ⟨by have := HJ8.out; first | omega | exact Nat.le_refl _⟩, ⟨by (with_reducible repeat first | apply bd | apply be | apply ba); exact BK133.out⟩, ⟨bl1 HB.out GE133.out⟩⟩
     ·replace c21 := Bool.eq_false_iff.mpr c21
      subst c21
      have H1 : (round_Pack.j1 kj8 a0 a1 a2 ji8 a4 t136 t137 t138 t139) = some (r1, r2, r3, r4, r5, r6) := by rw [if_neg (show ¬ (false = true) by decide)] at H; exact H
      clear H
      have H := H1
      clear H1
      have H' := Aside0.mk H
      clear H
      go_wp2
      go_meet
      case rel => exact ⟨_, (t138), (by first | rfl | (simp; done) | (simp [*]; done) | (congr 1; (try unfold wrap64); omega) | (congr 1; rw [IntKind.wrap_u64]; omega)), H', ⟨by have := HJ8.out; first | omega | exact Nat.le_refl _⟩, ⟨by (with_reducible repeat first | apply bd | apply be | apply ba); exact BK133.out⟩, ⟨bl1 HB.out GE133.out⟩⟩
    case rest =>
     clear HC19
     try clear c1 c2 p2 c5 c6 p6 c8 c11 c11b0 c11b1 c12 c21 hcz14_0 hcz14_1 hcz14_2 hcz14_3 hcz14_4 hfz14_0 hfz14_1 hfz14_2 hfz14_3 hfz14_4 p2 p6
     obtain ⟨kq, x17_18, rfl, HA, HJ18, BK133, HB⟩ := hcut
     cases kq with
     |zero => exact absurd HA.out (by simp [round_Pack.j1])
     |succ kj18 =>
      have H := HA.out
      clear HA
      simp only [round_Pack.j1] at H
      obtain ⟨ji22, hji22⟩ : ∃ j_ : Int, (IntKind.u64.wrap (wrap64 (t136 + 1))) = j_ := ⟨_, rfl⟩
      replace H : (if 0 ≤ (ji22) then (if (shr .u64 x17_18 (ji22)) = 0 then (round_Pack.j2 kj18 a0 a1 a2 ji8 a4 t136 t137 x17_18 t139) else (round_Pack.j2 kj18 a0 a1 a2 ji8 a4 t136 (wrap64 (t137 + 1)) (x17_18 / 2) t139)) else (none)) = some (r1, r2, r3, r4, r5, r6) := by first | (rw [hji22] at H; exact H) | (simp only [hji22] at H ⊢; exact H)
      by_cases c23 : 0 ≤ (ji22)
      ·rw [if_pos c23] at H
       have c23b0 := eq_true c23
       have c23b1 : decide (0 ≤ (ji22)) = true := decide_eq_true c23
       clear c23
       obtain ⟨ji24, hji24⟩ : ∃ j_ : Int, (shr .u64 x17_18 (ji22)) = j_ := ⟨_, rfl⟩
       replace H : (if (ji24) = 0 then (round_Pack.j2 kj18 a0 a1 a2 ji8 a4 t136 t137 x17_18 t139) else (round_Pack.j2 kj18 a0 a1 a2 ji8 a4 t136 (wrap64 (t137 + 1)) (x17_18 / 2) t139)) = some (r1, r2, r3, r4, r5, r6) := by first | (rw [hji24] at H; exact H) | (simp only [hji24] at H ⊢; exact H)
       have hji24_ : (x17_18 / 2 ^ min (ji22).toNat 64) = ji24 := hji24
       have hji24z : (ji22) ≤ 64 → (x17_18 / 2 ^ (ji22).toNat) = ji24 := shr_small hji24
       have HC25 := Aside0.mk H
       clear H
       go_upto_if 64 with (fail)
       go_cut [16, 17] (fun v16 v17 wc => ∃ (kq : Nat) (x16_24 : Int) (x17_24 : Int), v16 = .int .i64 x16_24 ∧ v17 = .int .u64 x17_24 ∧ Aside0 (round_Pack.j2 kq a0 a1 a2 ji8 a4 t136 x16_24 x17_24 t139 = some (r1, r2, r3, r4, r5, r6)) ∧ Aside0 (kq ≤ kj18) ∧ Aside0 (wc.heap[gb133]? = some (o5_ false false false false false 41)) ∧ Aside0 (Below w.heap.size w wc))
       case first =>
        have H := HC25.out
        clear HC25
        by_cases c26 : (ji24) = 0
        ·rw [if_pos c26] at H
         have c26b0 : ((ji24) == 0) = true := beq_iff_eq.mpr c26
         have c26b1 : ((ji24) != 0) = false := bne_eq_false_iff_eq.mpr c26
         clear c26
         (first | rw [c26b0] | (simp only [i64_w, i32_w]; rw [c26b0]) | skip)
         have H' := Aside0.mk H
         clear H
         go_wp2
         go_meet
         case rel => exact ⟨_, (t137), (x17_18), (by first | rfl | (simp; done) | (simp [*]; done) | (congr 1; (try unfold wrap64); omega) | (congr 1; rw [IntKind.wrap_u64]; omega)), (by first | rfl | (simp; done) | (simp [*]; done) | (congr 1; (try unfold wrap64); omega) | (congr 1; rw [IntKind.wrap_u64]; omega)), H', ⟨by have := HJ8.out; have := HJ18.out; first | omega | exact Nat.le_refl _⟩, ⟨by (with_reducible repeat first | apply bd | apply be | apply ba); exact BK133.out⟩, ⟨bl1 HB.out GE133.out⟩⟩
        ·rw [if_neg c26] at H
         have c26b0 : ((ji24) == 0) = false := beq_eq_false_iff_ne.mpr c26
         have c26b1 : ((ji24) != 0) = true := bne_iff_ne.mpr c26
         (first | rw [c26b0] | (simp only [i64_w, i32_w]; rw [c26b0]) | skip)
         have H' := Aside0.mk H
         clear H
         go_wp2
         go_meet
         case rel => exact ⟨_, (wrap64 (t137 + 1)), (x17_18 / 2), (by first | rfl | (simp; done) | (simp [*]; done) | (congr 1; (try unfold wrap64); omega) | (congr 1; rw [IntKind.wrap_u64]; omega)), (by first | rfl | (simp; done) | (simp [*]; done) | (congr 1; (try unfold wrap64); omega) | (congr 1; rw [IntKind.wrap_u64]; omega)), H', ⟨by have := HJ8.out; have := HJ18.out; first | omega | exact Nat.le_refl _⟩, ⟨by (with_reducible repeat first | apply bd | apply be | apply ba); exact BK133.out⟩, ⟨bl1 HB.out GE133.out⟩⟩
       case rest =>
        clear HC25
        try clear c1 c2 p2 c5 c6 p6 c8 c11 c11b0 c11b1 c12 c21 c23 c23b0 c23b1 c26 c26b0 c26b1 hcz14_0 hcz14_1 hcz14_2 hcz14_3 hcz14_4 hfz14_0 hfz14_1 hfz14_2 hfz14_3 hfz14_4 p2 p6
        obtain ⟨kq, x16_24, x17_24, rfl, rfl, HA, HJ24, BK133, HB⟩ := hcut
        cases kq with
        |zero => exact absurd HA.out (by simp [round_Pack.j2])
        |succ kj24 =>
         have H := HA.out
         clear HA
         simp only [round_Pack.j2] at H
         replace H := Option.bind_eq_some_iff.mp H
         obtain ⟨t141, A270, H⟩ := H
         replace H : (if 0 ≤ (IntKind.u64.wrap (t136)) then (if (shr .u64 x17_24 (IntKind.u64.wrap (t136))) = 0 then (round_Pack.j3 kj24 a0 a1 a2 ji8 a4 t136 x17_24 t139 0) else (round_Pack.j3 kj24 a0 a1 a2 ji8 a4 t136 x17_24 t139 (wrap64 ((wrap64 ((wrap64 (x16_24 + t136)) - t141)) + 1)))) else (none)) = some (r1, r2, r3, r4, r5, r6) := H
         have A27 := Aside0.mk A270
         clear A270
         obtain ⟨ji28, hji28⟩ : ∃ j_ : Int, (IntKind.u64.wrap (t136)) = j_ := ⟨_, rfl⟩
         replace H : (if 0 ≤ (ji28) then (if (shr .u64 x17_24 (ji28)) = 0 then (round_Pack.j3 kj24 a0 a1 a2 ji8 a4 t136 x17_24 t139 0) else (round_Pack.j3 kj24 a0 a1 a2 ji8 a4 t136 x17_24 t139 (wrap64 ((wrap64 ((wrap64 (x16_24 + t136)) - t141)) + 1)))) else (none)) = some (r1, r2, r3, r4, r5, r6) := by first | (rw [hji28] at H; exact H) | (simp only [hji28] at H ⊢; exact H)
         (try rw [hji28] at A27)
         by_cases c29 : 0 ≤ (ji28)
         ·rw [if_pos c29] at H
          have c29b0 := eq_true c29
          have c29b1 : decide (0 ≤ (ji28)) = true := decide_eq_true c29
          clear c29
          obtain ⟨ji30, hji30⟩ : ∃ j_ : Int, (shr .u64 x17_24 (ji28)) = j_ := ⟨_, rfl⟩
          replace H : (if (ji30) = 0 then (round_Pack.j3 kj24 a0 a1 a2 ji8 a4 t136 x17_24 t139 0) else (round_Pack.j3 kj24 a0 a1 a2 ji8 a4 t136 x17_24 t139 (wrap64 ((wrap64 ((wrap64 (x16_24 + t136)) - t141)) + 1)))) = some (r1, r2, r3, r4, r5, r6) := by first | (rw [hji30] at H; exact H) | (simp only [hji30] at H ⊢; exact H)
          (try rw [hji30] at A27)
          have hji30_ : (x17_24 / 2 ^ min (ji28).toNat 64) = ji30 := hji30
          have hji30z : (ji28) ≤ 64 → (x17_24 / 2 ^ (ji28).toNat) = ji30 := shr_small hji30
          have HC31 := Aside0.mk H
          clear H
          go_upto_if 80 with (first | ((with_reducible refine gate_callee (f := 85) rfl ?_); refine goesL_ (some 73) rfl rfl Try.func85 (by kernel_rfl) rfl #[.int .i64 a0] rfl gl ?_; (with_reducible refine (format_Least.calls a0 t141 _ A27.out).mono ?_); rintro e w' ⟨rfl, ⟨nd, rfl⟩⟩; refine ⟨_, rfl, ?_⟩))
          (try simp only [Act.put, sb, sz, ss])
          go_cut [19] (fun v19 wc => ∃ (kq : Nat) (x19_30 : Int), v19 = .int .i64 x19_30 ∧ Aside0 (round_Pack.j3 kq a0 a1 a2 ji8 a4 t136 x17_24 t139 x19_30 = some (r1, r2, r3, r4, r5, r6)) ∧ Aside0 (kq ≤ kj24) ∧ Aside0 (wc.heap[gb133]? = some (o5_ false false false false false 41)) ∧ Aside0 (Below w.heap.size w wc))
          case first =>
           have H := HC31.out
           clear HC31
           by_cases c32 : (ji30) = 0
           ·rw [if_pos c32] at H
            have c32b0 : ((ji30) == 0) = true := beq_iff_eq.mpr c32
            have c32b1 : ((ji30) != 0) = false := bne_eq_false_iff_eq.mpr c32
            clear c32
            (first | rw [c32b0] | (simp only [i64_w, i32_w]; rw [c32b0]) | skip)
            have H' := Aside0.mk H
            clear H
            go_wp2
            go_meet
            case rel => exact ⟨_, (0), (by first | rfl | (simp; done) | (simp [*]; done) | (congr 1; (try unfold wrap64); omega) | (congr 1; rw [IntKind.wrap_u64]; omega)), H', ⟨by have := HJ8.out; have := HJ18.out; have := HJ24.out; first | omega | exact Nat.le_refl _⟩, ⟨by (with_reducible repeat first | apply bd | apply be | apply ba); exact BK133.out⟩, ⟨bl1 HB.out GE133.out⟩⟩
           ·rw [if_neg c32] at H
            have c32b0 : ((ji30) == 0) = false := beq_eq_false_iff_ne.mpr c32
            have c32b1 : ((ji30) != 0) = true := bne_iff_ne.mpr c32
            (first | rw [c32b0] | (simp only [i64_w, i32_w]; rw [c32b0]) | skip)
            have H' := Aside0.mk H
            clear H
            go_wp2
            go_meet
            case rel => exact ⟨_, (wrap64 ((wrap64 ((wrap64 (x16_24 + t136)) - t141)) + 1)), (by first | rfl | (simp; done) | (simp [*]; done) | (congr 1; (try unfold wrap64); omega) | (congr 1; rw [IntKind.wrap_u64]; omega)), H', ⟨by have := HJ8.out; have := HJ18.out; have := HJ24.out; first | omega | exact Nat.le_refl _⟩, ⟨by (with_reducible repeat first | apply bd | apply be | apply ba); exact BK133.out⟩, ⟨bl1 HB.out GE133.out⟩⟩
          case rest =>
           clear HC31
           try clear c1 c2 p2 c3 c5 c6 p6 c8 c11 c11b0 c11b1 c12 c21 c23 c23b0 c23b1 c26 c26b0 c26b1 c29 c29b0 c29b1 c32 c32b0 c32b1 hcz14_0 hcz14_1 hcz14_2 hcz14_3 hcz14_4 hfz14_0 hfz14_1 hfz14_2 hfz14_3 hfz14_4 p2 p6
           obtain ⟨kq, x19_30, rfl, HA, HJ30, BK133, HB⟩ := hcut
           cases kq with
           |zero => exact absurd HA.out (by simp [round_Pack.j3])
           |succ kj30 =>
            have H := HA.out
            clear HA
            simp only [round_Pack.j3] at H
            replace H := Option.bind_eq_some_iff.mp H
            obtain ⟨t142, A330, H⟩ := H
            replace H : (if x19_30 ≥ t142 then ((round_beyond.f a0 a1 a2).bind fun bt143 => (some (bt143.1, bt143.2.1, bt143.2.2.1, bt143.2.2.2.1, bt143.2.2.2.2.1, bt143.2.2.2.2.2))) else (if t139 = 0 then ((bits_Cut.f x17_24 t136).bind fun t150 => ((format_Join.f a0 a2 x19_30 ((t150) % 4294967296)).bind fun t151 => (some (t151, false, false, false, false, (t139 != 0))))) else (if a4 = 0 then ((bits_Cut.f x17_24 t136).bind fun t152 => ((format_Join.f a0 a2 x19_30 ((t152) % 4294967296)).bind fun t153 => (some (t153, false, false, false, true, (t139 != 0))))) else ((bits_Len.f kj30 a4).bind fun t154 => ((format_Least.f a0).bind fun t155 => ((bits_Cut.f x17_24 t136).bind fun t156 => ((format_Join.f a0 a2 x19_30 ((t156) % 4294967296)).bind fun t157 => (some (t157, false, false, false, decide ((wrap64 ((wrap64 (ji8 + t154)) - 1)) < t155), (t139 != 0)))))))))) = some (r1, r2, r3, r4, r5, r6) := H
            have A33 := Aside0.mk A330
            clear A330
            by_cases c34 : x19_30 ≥ t142
            ·rw [if_pos c34] at H
             have c34b0 : decide (t142 ≤ x19_30) = true := decide_eq_true c34
             clear c34
             replace H := Option.bind_eq_some_iff.mp H
             obtain ⟨⟨t143, t144, t145, t146, t147, t148⟩, A350, H⟩ := H
             replace H : (some (t143, t144, t145, t146, t147, t148)) = some (r1, r2, r3, r4, r5, r6) := H
             have A35 := Aside0.mk A350
             clear A350
             simp only [Option.some.injEq, Prod.mk.injEq] at H
             obtain ⟨rfl, rfl, rfl, rfl, rfl, rfl⟩ := H
             go_wp2_with (first | ((with_reducible refine gate_callee (f := 86) rfl ?_); refine goesL_ (some 83) rfl rfl Try.func86 (by kernel_rfl) rfl #[.int .i64 a0] rfl gl ?_; (with_reducible refine (format_Top.calls a0 t142 _ A33.out).mono ?_); rintro e w' ⟨rfl, ⟨nd, rfl⟩⟩; refine ⟨_, rfl, ?_⟩; (try (rw [drewN_self wc]; generalize hq_ : World.drewN wc _ = wc; have n0_ : Aside0 (wc.heap[gb133]? = some (o5_ false false false false false 41)) := ⟨by rw [← hq_]; exact (bv BK133.out)⟩; have n1_ : Aside0 (Below w.heap.size w wc) := ⟨by rw [← hq_]; exact (bl1 HB.out GE133.out)⟩; clear BK133 HB hq_; have BK133 := n0_; have HB := n1_; clear n0_ n1_))) | ((with_reducible refine gate_callee (f := 87) rfl ?_); refine goesL_ (some 88) rfl rfl Try.func87 (by kernel_rfl) rfl #[.int .i64 a0, .int .i64 a1, .bool a2] rfl gl ?_; (with_reducible refine (round_beyond.calls a0 a1 a2 t143 t144 t145 t146 t147 t148 _ A35.out).mono ?_); rintro e w36 ⟨rfl, hb⟩; refine ⟨_, rfl, ?_⟩; have n0_ := Aside0.mk (blk_below (g := gb133) (o := o5_ false false false false false 41) (bv BK133.out) hb); have n1_ := Aside0.mk (below_step (bl1 HB.out GE133.out) hb); clear BK133; clear HB; have BK133 := n0_; have HB := n1_; clear n0_ n1_; obtain ⟨hcz37_0, hcz37_1, hcz37_2, hcz37_3, hcz37_4⟩ := bc5 BK133.out; obtain ⟨hfz37_0, hfz37_1, hfz37_2, hfz37_3, hfz37_4⟩ := bf5 BK133.out))
             refine bodyPost_ret (results_tc rfl _ _ gb133 41 #[.bool t144, .bool t145, .bool t146, .bool t147, .bool t148] (0, 0) _ rfl (by (with_reducible repeat first | apply bd | apply be | apply ba); refine blk_put (cs := q5_ t144 t145 t146 t147 false) ?_ 4 _ rfl; (with_reducible repeat first | apply bd | apply be | apply ba); refine blk_put (cs := q5_ t144 t145 t146 false false) ?_ 3 _ rfl; (with_reducible repeat first | apply bd | apply be | apply ba); refine blk_put (cs := q5_ t144 t145 false false false) ?_ 2 _ rfl; (with_reducible repeat first | apply bd | apply be | apply ba); refine blk_put (cs := q5_ t144 false false false false) ?_ 1 _ rfl; (with_reducible repeat first | apply bd | apply be | apply ba); refine blk_put (cs := F5) ?_ 0 _ rfl; (with_reducible repeat first | apply bd | apply be | apply ba); exact BK133.out) Try.underlying41 rfl (by kernel_rfl)) rfl ?_
             exact ⟨by first | rfl | (simp [errW_none, errW_some] <;> rfl) | (simp only [← hji7, ← hji8, ← hji22, ← hji24, ← hji28, ← hji30]; first | rfl | (simp [errW_none, errW_some] <;> rfl)) | (simp [*, errW_none, errW_some] <;> rfl), bl1 HB.out GE133.out⟩
            ·rw [if_neg c34] at H
             have c34b0 : decide (t142 ≤ x19_30) = false := decide_eq_false c34
             clear c34
             by_cases c38 : t139 = 0
             ·rw [if_pos c38] at H
              have c38b0 : (t139 == 0) = true := beq_iff_eq.mpr c38
              have c38b1 : (t139 != 0) = false := bne_eq_false_iff_eq.mpr c38
              clear c38
              replace H : ((bits_Cut.f x17_24 t136).bind fun t150 => ((format_Join.f a0 a2 x19_30 ((t150) % 4294967296)).bind fun t151 => (some (t151, false, false, false, false, false)))) = some (r1, r2, r3, r4, r5, r6) := by first | exact H | (simp only [c38b0, c38b1] at H; exact H) | (simp only [c38b0, c38b1, Bool.not_true, Bool.not_false] at H; exact H)
              replace H := Option.bind_eq_some_iff.mp H
              obtain ⟨t150, A390, H⟩ := H
              replace H : ((format_Join.f a0 a2 x19_30 ((t150) % 4294967296)).bind fun t151 => (some (t151, false, false, false, false, false))) = some (r1, r2, r3, r4, r5, r6) := H
              have A39 := Aside0.mk A390
              clear A390
              replace H := Option.bind_eq_some_iff.mp H
              obtain ⟨t151, A400, H⟩ := H
              replace H : (some (t151, false, false, false, false, false)) = some (r1, r2, r3, r4, r5, r6) := H
              have A40 := Aside0.mk A400
              clear A400
              simp only [Option.some.injEq, Prod.mk.injEq] at H
              obtain ⟨rfl, rfl, rfl, rfl, rfl, rfl⟩ := H
              try go_wp2_with (first | ((with_reducible refine gate_callee (f := 86) rfl ?_); refine goesL_ (some 83) rfl rfl Try.func86 (by kernel_rfl) rfl #[.int .i64 a0] rfl gl ?_; (with_reducible refine (format_Top.calls a0 t142 _ A33.out).mono ?_); rintro e w' ⟨rfl, ⟨nd, rfl⟩⟩; refine ⟨_, rfl, ?_⟩; (try (rw [drewN_self wc]; generalize hq_ : World.drewN wc _ = wc; have n0_ : Aside0 (wc.heap[gb133]? = some (o5_ false false false false false 41)) := ⟨by rw [← hq_]; exact (bv BK133.out)⟩; have n1_ : Aside0 (Below w.heap.size w wc) := ⟨by rw [← hq_]; exact (bl1 HB.out GE133.out)⟩; clear BK133 HB hq_; have BK133 := n0_; have HB := n1_; clear n0_ n1_))) | ((with_reducible refine gate_dst (N := 20) rfl ?_); refine box_event ?hg (N := 20) ?hd (cs := F5) (t := 41) ?hr ?_; (case hd => rfl); (case hg => rfl); (case hr => first | (go_simp; done) | (go_simp; rfl)); intro gb149 hg w41 hbox hb; have n0_ := Aside0.mk (blk_below (g := gb133) (o := o5_ false false false false false 41) (bv BK133.out) hb); have n1_ := Aside0.mk (below_step (bl1 HB.out GE133.out) hb); have n2_ := Aside0.mk (hbox); have n3_ := Aside0.mk ((by rw [hg]; exact (below_size (bl1 HB.out GE133.out)) : w.heap.size ≤ gb149)); have n4_ := n3_; have n5_ := Aside0.mk ((by rw [hg]; exact Nat.ne_of_lt (blk_lt (g := gb133) (o := .cells F5 41 (0, 0)) (bv BK133.out)) : gb133 ≠ gb149)); have n6_ := Aside0.mk (Ne.symm n5_.out); clear BK133; clear HB; have BK133 := n0_; have HB := n1_; have BK149 := n2_; have GW149 := n3_; have GE149 := n4_; have NB133_149 := n5_; have NB149_133 := n6_; clear n0_ n1_ n2_ n3_ n4_ n5_ n6_; clear hb hbox hg; have hnb42 := NB149_133.out; have hnc42 := NB133_149.out; obtain ⟨hcz43_0, hcz43_1, hcz43_2, hcz43_3, hcz43_4⟩ := bc5 BK149.out; obtain ⟨hfz43_0, hfz43_1, hfz43_2, hfz43_3, hfz43_4⟩ := bf5 BK149.out))
              have n0_ : Aside0 (((((((w41.setCell ⟨gb149, 0, none⟩ (.bool false)).setCell ⟨gb149, 1, none⟩ (.bool false)).setCell ⟨gb149, 2, none⟩ (.bool false)).setCell ⟨gb149, 3, none⟩ (.bool false)).setCell ⟨gb149, 4, none⟩ (.bool false)).setCell ⟨gb149, 3, none⟩ (.bool false)).heap[gb133]? = some (o5_ false false false false false 41)) := ⟨by (with_reducible repeat first | apply bd | apply be | apply ba); refine blk_far ?_ NB133_149.out _; (with_reducible repeat first | apply bd | apply be | apply ba); refine blk_far ?_ NB133_149.out _; (with_reducible repeat first | apply bd | apply be | apply ba); refine blk_far ?_ NB133_149.out _; (with_reducible repeat first | apply bd | apply be | apply ba); refine blk_far ?_ NB133_149.out _; (with_reducible repeat first | apply bd | apply be | apply ba); refine blk_far ?_ NB133_149.out _; (with_reducible repeat first | apply bd | apply be | apply ba); refine blk_far ?_ NB133_149.out _; (with_reducible repeat first | apply bd | apply be | apply ba); exact BK133.out⟩
              have n1_ : Aside0 (((((((w41.setCell ⟨gb149, 0, none⟩ (.bool false)).setCell ⟨gb149, 1, none⟩ (.bool false)).setCell ⟨gb149, 2, none⟩ (.bool false)).setCell ⟨gb149, 3, none⟩ (.bool false)).setCell ⟨gb149, 4, none⟩ (.bool false)).setCell ⟨gb149, 3, none⟩ (.bool false)).heap[gb149]? = some (o5_ false false false false false 41)) := ⟨by (with_reducible repeat first | apply bd | apply be | apply ba); refine blk_put (cs := F5) ?_ 3 _ rfl; (with_reducible repeat first | apply bd | apply be | apply ba); refine blk_put (cs := F5) ?_ 4 _ rfl; (with_reducible repeat first | apply bd | apply be | apply ba); refine blk_put (cs := F5) ?_ 3 _ rfl; (with_reducible repeat first | apply bd | apply be | apply ba); refine blk_put (cs := F5) ?_ 2 _ rfl; (with_reducible repeat first | apply bd | apply be | apply ba); refine blk_put (cs := F5) ?_ 1 _ rfl; (with_reducible repeat first | apply bd | apply be | apply ba); refine blk_put (cs := F5) ?_ 0 _ rfl; (with_reducible repeat first | apply bd | apply be | apply ba); exact BK149.out⟩
              have n2_ : Aside0 (Below w.heap.size w ((((((w41.setCell ⟨gb149, 0, none⟩ (.bool false)).setCell ⟨gb149, 1, none⟩ (.bool false)).setCell ⟨gb149, 2, none⟩ (.bool false)).setCell ⟨gb149, 3, none⟩ (.bool false)).setCell ⟨gb149, 4, none⟩ (.bool false)).setCell ⟨gb149, 3, none⟩ (.bool false))) := ⟨bl2 HB.out GE133.out GE149.out⟩
              (try clear BK133)
              (try clear BK149)
              (try clear HB)
              generalize ((((((w41.setCell ⟨gb149, 0, none⟩ (.bool false)).setCell ⟨gb149, 1, none⟩ (.bool false)).setCell ⟨gb149, 2, none⟩ (.bool false)).setCell ⟨gb149, 3, none⟩ (.bool false)).setCell ⟨gb149, 4, none⟩ (.bool false)).setCell ⟨gb149, 3, none⟩ (.bool false)) = w44 at n0_ n1_ n2_ ⊢
              have BK133 := n0_
              have BK149 := n1_
              have HB := n2_
              clear n0_ n1_ n2_
              have n0_ := Aside0.mk (blk_drew BK133.out)
              have n1_ := Aside0.mk (blk_drew BK149.out)
              have n2_ := Aside0.mk (below_drew1 HB.out)
              clear BK133
              clear BK149
              clear HB
              have BK133 := n0_
              have BK149 := n1_
              have HB := n2_
              clear n0_ n1_ n2_
              refine start_ (n := 11) (S := fun w' => w'.cell? ⟨gb149, 0, none⟩ = some (.bool false) ∧ w'.cell? ⟨gb149, 1, none⟩ = some (.bool false) ∧ w'.cell? ⟨gb149, 2, none⟩ = some (.bool false) ∧ w'.cell? ⟨gb149, 3, none⟩ = some (.bool false) ∧ w'.cell? ⟨gb149, 4, none⟩ = some (.bool false)) (ds := []) (tf 0 11) (by kernel_rfl) rfl rfl ⟨(blk_cell BK149.out 0).trans rfl, (blk_cell BK149.out 1).trans rfl, (blk_cell BK149.out 2).trans rfl, (blk_cell BK149.out 3).trans rfl, (blk_cell BK149.out 4).trans rfl⟩ (fun hHeld => ?_); refine with_tabW round_Pack.tab18 round_Pack.bits18 (fun HT_ HW_ => ?_)
              generalize w44.drew = w45 at BK133 BK149 HB hHeld ⊢
              refine pure_ (i := 0) (N := some 111) (v := ?_) (a' := ?_) (tf 1 10) rfl rfl (any_of HT_.out (by kernel_rfl)) (fun _ _ _ h => h) (Or.inl ⟨by rfl, ?_⟩) ?_ ?_
              rotate_left
              ·intro w'
               go_simp
               with_reducible rfl
              rotate_left
              ·simp only [Act.put, sb, sz, ss, i64_w, i32_w]
               rfl
              refine pure_ (i := 1) (N := some 112) (v := ?_) (a' := ?_) (tf 2 9) rfl rfl (any_of HT_.out (by kernel_rfl)) (fun _ _ _ h => h) (Or.inl ⟨by rfl, ?_⟩) ?_ ?_
              rotate_left
              ·intro w'
               go_simp
               with_reducible rfl
              rotate_left
              ·simp only [Act.put, sb, sz, ss, i64_w, i32_w]
               rfl
              refine pure_ (i := 2) (N := some 113) (v := ?_) (a' := ?_) (tf 3 8) rfl rfl (any_of HT_.out (by kernel_rfl)) (fun _ _ _ h => h) (Or.inl ⟨by rfl, ?_⟩) ?_ ?_
              rotate_left
              ·intro w'
               go_simp
               with_reducible rfl
              rotate_left
              ·simp only [Act.put, sb, sz, ss, i64_w, i32_w]
               rfl
              refine pure_ (i := 3) (N := some 114) (v := ?_) (a' := ?_) (tf 4 7) rfl rfl (any_of HT_.out (by kernel_rfl)) (fun _ _ _ h => h) (Or.inl ⟨by rfl, ?_⟩) ?_ ?_
              rotate_left
              ·intro w'
               go_simp
               with_reducible rfl
              rotate_left
              ·simp only [Act.put, sb, sz, ss, i64_w, i32_w]
               rfl
              refine pure_ (i := 4) (N := some 115) (v := ?_) (a' := ?_) (tf 5 6) rfl rfl (any_of HT_.out (by kernel_rfl)) (fun _ _ _ h => h) (Or.inl ⟨by rfl, ?_⟩) ?_ ?_
              rotate_left
              ·intro w'
               go_simp
               with_reducible rfl
              rotate_left
              ·simp only [Act.put, sb, sz, ss, i64_w, i32_w]
               rfl
              refine take_ (i := 8) (N := some 119) (v := ?_) (a' := ?_) #[true, true, true, true, true, false, false, false, true, false, false] rfl rfl (take_ofW HT_.out HW_.out (by kernel_rfl)) (fun _ _ _ h => h) (Or.inl ⟨by rfl, ?_⟩) hHeld ?_ ?_
              rotate_left
              ·rintro w' ⟨s0, s1, s2, s3, s4⟩
               go_simp
               with_reducible rfl
              rotate_left
              ·simp only [Act.put, sb, sz, ss, i64_w, i32_w]
               rfl
              refine one_ (i := 5) (N := some 116) #[true, true, true, true, true, true, false, false, true, false, false] rfl rfl (one_of HT_.out (by kernel_rfl)) (by decide) (fun K hK => ?_)
              refine goes_ Try.func89 (by kernel_rfl) rfl #[.int .u64 x17_24, .int .i64 t136] (by rfl) rfl rfl gl ?_
              with_reducible refine (bits_Cut.calls x17_24 t136 t150 _ A39.out).mono ?_
              rintro e w' ⟨rfl, ⟨nd, rfl⟩⟩
              refine ⟨_, rfl, ?_⟩
              refine hK.out _ _ ⟨(blk_cell BK149.out 0).trans rfl, (blk_cell BK149.out 1).trans rfl, (blk_cell BK149.out 2).trans rfl, (blk_cell BK149.out 3).trans rfl, (blk_cell BK149.out 4).trans rfl⟩ (fun hHeld => ?_)
              clear hK K
              refine norm_ (a' := ?_) ?_ ?_
              rotate_left
              ·show Act.put _ (some 116) _ = _
               simp only [Act.put, sb, sz, ss, i64_w, i32_w]
               rfl
              refine pure_ (i := 6) (N := some 117) (v := ?_) (a' := ?_) #[true, true, true, true, true, true, true, false, true, false, false] rfl rfl (any_of HT_.out (by kernel_rfl)) (fun _ _ _ h => h) (Or.inl ⟨by rfl, ?_⟩) ?_ ?_
              rotate_left
              ·intro w'
               go_simp
               with_reducible rfl
              rotate_left
              ·simp only [Act.put, sb, sz, ss, i64_w, i32_w]
               rfl
              refine one_ (i := 7) (N := some 118) (tf 9 2) rfl rfl (one_of HT_.out (by kernel_rfl)) (by decide) (fun K hK => ?_)
              refine goes_ Try.func88 (by kernel_rfl) rfl #[.int .i64 a0, .bool a2, .int .i64 x19_30, .int .u32 ((t150) % 4294967296)] (by rfl) rfl rfl gl ?_
              with_reducible refine (format_Join.calls a0 a2 x19_30 ((t150) % 4294967296) t151 _ A40.out).mono ?_
              rintro e w' ⟨rfl, ⟨nd, rfl⟩⟩
              refine ⟨_, rfl, ?_⟩
              refine hK.out _ _ ⟨(blk_cell BK149.out 0).trans rfl, (blk_cell BK149.out 1).trans rfl, (blk_cell BK149.out 2).trans rfl, (blk_cell BK149.out 3).trans rfl, (blk_cell BK149.out 4).trans rfl⟩ (fun hHeld => ?_)
              clear hK K
              refine norm_ (a' := ?_) ?_ ?_
              rotate_left
              ·show Act.put _ (some 118) _ = _
               simp only [Act.put, sb, sz, ss, i64_w, i32_w]
               rfl
              refine pure_ (i := 9) (N := some 12) (v := ?_) (a' := ?_) (tf 10 1) rfl rfl (any_of HT_.out (by kernel_rfl)) (fun _ _ _ h => h) (Or.inl ⟨by rfl, ?_⟩) ?_ ?_
              rotate_left
              ·intro w'
               go_simp
               with_reducible rfl
              rotate_left
              ·simp only [Act.put, sb, sz, ss, i64_w, i32_w]
               rfl
              refine one_ (i := 10) (N := none) (tf 11 0) rfl rfl (one_of HT_.out (by kernel_rfl)) (by decide) (fun K hK => ?_)
              have hs46 : w45.cell? ⟨gb133, 0, none⟩ = some (.bool false) := (blk_cell BK133.out 0).trans rfl
              have hfs46 := blk_frozen BK133.out 0
              have hns46_1 := NB149_133.out
              have hms46_1 := NB133_149.out
              have hs47 : w45.cell? ⟨gb133, 1, none⟩ = some (.bool false) := (blk_cell BK133.out 1).trans rfl
              have hfs47 := blk_frozen BK133.out 1
              have hns47_1 := NB149_133.out
              have hms47_1 := NB133_149.out
              have hs48 : w45.cell? ⟨gb133, 2, none⟩ = some (.bool false) := (blk_cell BK133.out 2).trans rfl
              have hfs48 := blk_frozen BK133.out 2
              have hns48_1 := NB149_133.out
              have hms48_1 := NB133_149.out
              have hs49 : w45.cell? ⟨gb133, 3, none⟩ = some (.bool false) := (blk_cell BK133.out 3).trans rfl
              have hfs49 := blk_frozen BK133.out 3
              have hns49_1 := NB149_133.out
              have hms49_1 := NB133_149.out
              have hs50 : w45.cell? ⟨gb133, 4, none⟩ = some (.bool false) := (blk_cell BK133.out 4).trans rfl
              have hfs50 := blk_frozen BK133.out 4
              have hns50_1 := NB149_133.out
              have hms50_1 := NB133_149.out
              refine skip_ (w1 := ?_) (by rfl) rfl ?_ ?_
              rotate_left
              ·go_simp
               rfl
              refine hK.out _ _ ⟨(cf5 NB149_133.out (hHeld.1)), (cf5 NB149_133.out (hHeld.2.1)), (cf5 NB149_133.out (hHeld.2.2.1)), (cf5 NB149_133.out (hHeld.2.2.2.1)), (cf5 NB149_133.out (hHeld.2.2.2.2))⟩ (fun hHeld => ?_)
              clear hK K
              refine done_ (done_of HT_.out (by kernel_rfl)) ?_
              try go_wp2
              refine bodyPost_ret (results_tc rfl _ _ gb133 41 #[.bool false, .bool false, .bool false, .bool false, .bool false] (0, 0) _ rfl (by (with_reducible repeat first | apply bd | apply be | apply ba); refine blk_put (cs := F5) ?_ 4 _ rfl; (with_reducible repeat first | apply bd | apply be | apply ba); refine blk_put (cs := F5) ?_ 3 _ rfl; (with_reducible repeat first | apply bd | apply be | apply ba); refine blk_put (cs := F5) ?_ 2 _ rfl; (with_reducible repeat first | apply bd | apply be | apply ba); refine blk_put (cs := F5) ?_ 1 _ rfl; (with_reducible repeat first | apply bd | apply be | apply ba); refine blk_put (cs := F5) ?_ 0 _ rfl; (with_reducible repeat first | apply bd | apply be | apply ba); exact BK133.out) Try.underlying41 rfl (by kernel_rfl)) rfl ?_
              exact ⟨by first | rfl | (simp [errW_none, errW_some] <;> rfl) | (simp only [← hji7, ← hji8, ← hji22, ← hji24, ← hji28, ← hji30]; first | rfl | (simp [errW_none, errW_some] <;> rfl)) | (simp [*, errW_none, errW_some] <;> rfl), bl2 HB.out GE133.out GE149.out⟩
             ·rw [if_neg c38] at H
              have c38b0 : (t139 == 0) = false := beq_eq_false_iff_ne.mpr c38
              have c38b1 : (t139 != 0) = true := bne_iff_ne.mpr c38
              replace H : (if a4 = 0 then ((bits_Cut.f x17_24 t136).bind fun t152 => ((format_Join.f a0 a2 x19_30 ((t152) % 4294967296)).bind fun t153 => (some (t153, false, false, false, true, true)))) else ((bits_Len.f kj30 a4).bind fun t154 => ((format_Least.f a0).bind fun t155 => ((bits_Cut.f x17_24 t136).bind fun t156 => ((format_Join.f a0 a2 x19_30 ((t156) % 4294967296)).bind fun t157 => (some (t157, false, false, false, decide ((wrap64 ((wrap64 (ji8 + t154)) - 1)) < t155), true))))))) = some (r1, r2, r3, r4, r5, r6) := by first | exact H | (simp only [c38b0, c38b1] at H; exact H) | (simp only [c38b0, c38b1, Bool.not_true, Bool.not_false] at H; exact H)
              by_cases c51 : a4 = 0
              ·rw [if_pos c51] at H
               have c51b0 : (a4 == 0) = true := beq_iff_eq.mpr c51
               have c51b1 : (a4 != 0) = false := bne_eq_false_iff_eq.mpr c51
               clear c51
               replace H := Option.bind_eq_some_iff.mp H
               obtain ⟨t152, A520, H⟩ := H
               replace H : ((format_Join.f a0 a2 x19_30 ((t152) % 4294967296)).bind fun t153 => (some (t153, false, false, false, true, true))) = some (r1, r2, r3, r4, r5, r6) := H
               have A52 := Aside0.mk A520
               clear A520
               replace H := Option.bind_eq_some_iff.mp H
               obtain ⟨t153, A530, H⟩ := H
               replace H : (some (t153, false, false, false, true, true)) = some (r1, r2, r3, r4, r5, r6) := H
               have A53 := Aside0.mk A530
               clear A530
               simp only [Option.some.injEq, Prod.mk.injEq] at H
               obtain ⟨rfl, rfl, rfl, rfl, rfl, rfl⟩ := H
               try go_wp2_with (first | ((with_reducible refine gate_callee (f := 86) rfl ?_); refine goesL_ (some 83) rfl rfl Try.func86 (by kernel_rfl) rfl #[.int .i64 a0] rfl gl ?_; (with_reducible refine (format_Top.calls a0 t142 _ A33.out).mono ?_); rintro e w' ⟨rfl, ⟨nd, rfl⟩⟩; refine ⟨_, rfl, ?_⟩; (try (rw [drewN_self wc]; generalize hq_ : World.drewN wc _ = wc; have n0_ : Aside0 (wc.heap[gb133]? = some (o5_ false false false false false 41)) := ⟨by rw [← hq_]; exact (bv BK133.out)⟩; have n1_ : Aside0 (Below w.heap.size w wc) := ⟨by rw [← hq_]; exact (bl1 HB.out GE133.out)⟩; clear BK133 HB hq_; have BK133 := n0_; have HB := n1_; clear n0_ n1_))) | ((with_reducible refine gate_dst (N := 20) rfl ?_); refine box_event ?hg (N := 20) ?hd (cs := F5) (t := 41) ?hr ?_; (case hd => rfl); (case hg => rfl); (case hr => first | (go_simp; done) | (go_simp; rfl)); intro gb149 hg w54 hbox hb; have n0_ := Aside0.mk (blk_below (g := gb133) (o := o5_ false false false false false 41) (bv BK133.out) hb); have n1_ := Aside0.mk (below_step (bl1 HB.out GE133.out) hb); have n2_ := Aside0.mk (hbox); have n3_ := Aside0.mk ((by rw [hg]; exact (below_size (bl1 HB.out GE133.out)) : w.heap.size ≤ gb149)); have n4_ := n3_; have n5_ := Aside0.mk ((by rw [hg]; exact Nat.ne_of_lt (blk_lt (g := gb133) (o := .cells F5 41 (0, 0)) (bv BK133.out)) : gb133 ≠ gb149)); have n6_ := Aside0.mk (Ne.symm n5_.out); clear BK133; clear HB; have BK133 := n0_; have HB := n1_; have BK149 := n2_; have GW149 := n3_; have GE149 := n4_; have NB133_149 := n5_; have NB149_133 := n6_; clear n0_ n1_ n2_ n3_ n4_ n5_ n6_; clear hb hbox hg; have hnb55 := NB149_133.out; have hnc55 := NB133_149.out; obtain ⟨hcz56_0, hcz56_1, hcz56_2, hcz56_3, hcz56_4⟩ := bc5 BK149.out; obtain ⟨hfz56_0, hfz56_1, hfz56_2, hfz56_3, hfz56_4⟩ := bf5 BK149.out))
               have n0_ : Aside0 (((((((w54.setCell ⟨gb149, 0, none⟩ (.bool false)).setCell ⟨gb149, 1, none⟩ (.bool false)).setCell ⟨gb149, 2, none⟩ (.bool false)).setCell ⟨gb149, 3, none⟩ (.bool false)).setCell ⟨gb149, 4, none⟩ (.bool true)).setCell ⟨gb149, 3, none⟩ (.bool true)).heap[gb133]? = some (o5_ false false false false false 41)) := ⟨by (with_reducible repeat first | apply bd | apply be | apply ba); refine blk_far ?_ NB133_149.out _; (with_reducible repeat first | apply bd | apply be | apply ba); refine blk_far ?_ NB133_149.out _; (with_reducible repeat first | apply bd | apply be | apply ba); refine blk_far ?_ NB133_149.out _; (with_reducible repeat first | apply bd | apply be | apply ba); refine blk_far ?_ NB133_149.out _; (with_reducible repeat first | apply bd | apply be | apply ba); refine blk_far ?_ NB133_149.out _; (with_reducible repeat first | apply bd | apply be | apply ba); refine blk_far ?_ NB133_149.out _; (with_reducible repeat first | apply bd | apply be | apply ba); exact BK133.out⟩
               have n1_ : Aside0 (((((((w54.setCell ⟨gb149, 0, none⟩ (.bool false)).setCell ⟨gb149, 1, none⟩ (.bool false)).setCell ⟨gb149, 2, none⟩ (.bool false)).setCell ⟨gb149, 3, none⟩ (.bool false)).setCell ⟨gb149, 4, none⟩ (.bool true)).setCell ⟨gb149, 3, none⟩ (.bool true)).heap[gb149]? = some (o5_ false false false true true 41)) := ⟨by (with_reducible repeat first | apply bd | apply be | apply ba); refine blk_put (cs := q5_ false false false false true) ?_ 3 _ rfl; (with_reducible repeat first | apply bd | apply be | apply ba); refine blk_put (cs := F5) ?_ 4 _ rfl; (with_reducible repeat first | apply bd | apply be | apply ba); refine blk_put (cs := F5) ?_ 3 _ rfl; (with_reducible repeat first | apply bd | apply be | apply ba); refine blk_put (cs := F5) ?_ 2 _ rfl; (with_reducible repeat first | apply bd | apply be | apply ba); refine blk_put (cs := F5) ?_ 1 _ rfl; (with_reducible repeat first | apply bd | apply be | apply ba); refine blk_put (cs := F5) ?_ 0 _ rfl; (with_reducible repeat first | apply bd | apply be | apply ba); exact BK149.out⟩
               have n2_ : Aside0 (Below w.heap.size w ((((((w54.setCell ⟨gb149, 0, none⟩ (.bool false)).setCell ⟨gb149, 1, none⟩ (.bool false)).setCell ⟨gb149, 2, none⟩ (.bool false)).setCell ⟨gb149, 3, none⟩ (.bool false)).setCell ⟨gb149, 4, none⟩ (.bool true)).setCell ⟨gb149, 3, none⟩ (.bool true))) := ⟨bl2 HB.out GE133.out GE149.out⟩
               (try clear BK133)
               (try clear BK149)
               (try clear HB)
               generalize ((((((w54.setCell ⟨gb149, 0, none⟩ (.bool false)).setCell ⟨gb149, 1, none⟩ (.bool false)).setCell ⟨gb149, 2, none⟩ (.bool false)).setCell ⟨gb149, 3, none⟩ (.bool false)).setCell ⟨gb149, 4, none⟩ (.bool true)).setCell ⟨gb149, 3, none⟩ (.bool true)) = w57 at n0_ n1_ n2_ ⊢
               have BK133 := n0_
               have BK149 := n1_
               have HB := n2_
               clear n0_ n1_ n2_
               have n0_ := Aside0.mk (blk_drew BK133.out)
               have n1_ := Aside0.mk (blk_drew BK149.out)
               have n2_ := Aside0.mk (below_drew1 HB.out)
               clear BK133
               clear BK149
               clear HB
               have BK133 := n0_
               have BK149 := n1_
               have HB := n2_
               clear n0_ n1_ n2_
               refine start_ (n := 11) (S := fun w' => w'.cell? ⟨gb149, 0, none⟩ = some (.bool false) ∧ w'.cell? ⟨gb149, 1, none⟩ = some (.bool false) ∧ w'.cell? ⟨gb149, 2, none⟩ = some (.bool false) ∧ w'.cell? ⟨gb149, 3, none⟩ = some (.bool true) ∧ w'.cell? ⟨gb149, 4, none⟩ = some (.bool true)) (ds := []) (tf 0 11) (by kernel_rfl) rfl rfl ⟨(blk_cell BK149.out 0).trans rfl, (blk_cell BK149.out 1).trans rfl, (blk_cell BK149.out 2).trans rfl, (blk_cell BK149.out 3).trans rfl, (blk_cell BK149.out 4).trans rfl⟩ (fun hHeld => ?_); refine with_tabW round_Pack.tab18 round_Pack.bits18 (fun HT_ HW_ => ?_)
               generalize w57.drew = w58 at BK133 BK149 HB hHeld ⊢
               refine pure_ (i := 0) (N := some 111) (v := ?_) (a' := ?_) (tf 1 10) rfl rfl (any_of HT_.out (by kernel_rfl)) (fun _ _ _ h => h) (Or.inl ⟨by rfl, ?_⟩) ?_ ?_
               rotate_left
               ·intro w'
                go_simp
                with_reducible rfl
               rotate_left
               ·simp only [Act.put, sb, sz, ss, i64_w, i32_w]
                rfl
               refine pure_ (i := 1) (N := some 112) (v := ?_) (a' := ?_) (tf 2 9) rfl rfl (any_of HT_.out (by kernel_rfl)) (fun _ _ _ h => h) (Or.inl ⟨by rfl, ?_⟩) ?_ ?_
               rotate_left
               ·intro w'
                go_simp
                with_reducible rfl
               rotate_left
               ·simp only [Act.put, sb, sz, ss, i64_w, i32_w]
                rfl
               refine pure_ (i := 2) (N := some 113) (v := ?_) (a' := ?_) (tf 3 8) rfl rfl (any_of HT_.out (by kernel_rfl)) (fun _ _ _ h => h) (Or.inl ⟨by rfl, ?_⟩) ?_ ?_
               rotate_left
               ·intro w'
                go_simp
                with_reducible rfl
               rotate_left
               ·simp only [Act.put, sb, sz, ss, i64_w, i32_w]
                rfl
               refine pure_ (i := 3) (N := some 114) (v := ?_) (a' := ?_) (tf 4 7) rfl rfl (any_of HT_.out (by kernel_rfl)) (fun _ _ _ h => h) (Or.inl ⟨by rfl, ?_⟩) ?_ ?_
               rotate_left
               ·intro w'
                go_simp
                with_reducible rfl
               rotate_left
               ·simp only [Act.put, sb, sz, ss, i64_w, i32_w]
                rfl
               refine pure_ (i := 4) (N := some 115) (v := ?_) (a' := ?_) (tf 5 6) rfl rfl (any_of HT_.out (by kernel_rfl)) (fun _ _ _ h => h) (Or.inl ⟨by rfl, ?_⟩) ?_ ?_
               rotate_left
               ·intro w'
                go_simp
                with_reducible rfl
               rotate_left
               ·simp only [Act.put, sb, sz, ss, i64_w, i32_w]
                rfl
               refine take_ (i := 8) (N := some 119) (v := ?_) (a' := ?_) #[true, true, true, true, true, false, false, false, true, false, false] rfl rfl (take_ofW HT_.out HW_.out (by kernel_rfl)) (fun _ _ _ h => h) (Or.inl ⟨by rfl, ?_⟩) hHeld ?_ ?_
               rotate_left
               ·rintro w' ⟨s0, s1, s2, s3, s4⟩
                go_simp
                with_reducible rfl
               rotate_left
               ·simp only [Act.put, sb, sz, ss, i64_w, i32_w]
                rfl
               refine one_ (i := 5) (N := some 116) #[true, true, true, true, true, true, false, false, true, false, false] rfl rfl (one_of HT_.out (by kernel_rfl)) (by decide) (fun K hK => ?_)
               refine goes_ Try.func89 (by kernel_rfl) rfl #[.int .u64 x17_24, .int .i64 t136] (by rfl) rfl rfl gl ?_
               with_reducible refine (bits_Cut.calls x17_24 t136 t152 _ A52.out).mono ?_
               rintro e w' ⟨rfl, ⟨nd, rfl⟩⟩
               refine ⟨_, rfl, ?_⟩
               refine hK.out _ _ ⟨(blk_cell BK149.out 0).trans rfl, (blk_cell BK149.out 1).trans rfl, (blk_cell BK149.out 2).trans rfl, (blk_cell BK149.out 3).trans rfl, (blk_cell BK149.out 4).trans rfl⟩ (fun hHeld => ?_)
               clear hK K
               refine norm_ (a' := ?_) ?_ ?_
               rotate_left
               ·show Act.put _ (some 116) _ = _
                simp only [Act.put, sb, sz, ss, i64_w, i32_w]
                rfl
               refine pure_ (i := 6) (N := some 117) (v := ?_) (a' := ?_) #[true, true, true, true, true, true, true, false, true, false, false] rfl rfl (any_of HT_.out (by kernel_rfl)) (fun _ _ _ h => h) (Or.inl ⟨by rfl, ?_⟩) ?_ ?_
               rotate_left
               ·intro w'
                go_simp
                with_reducible rfl
               rotate_left
               ·simp only [Act.put, sb, sz, ss, i64_w, i32_w]
                rfl
               refine one_ (i := 7) (N := some 118) (tf 9 2) rfl rfl (one_of HT_.out (by kernel_rfl)) (by decide) (fun K hK => ?_)
               refine goes_ Try.func88 (by kernel_rfl) rfl #[.int .i64 a0, .bool a2, .int .i64 x19_30, .int .u32 ((t152) % 4294967296)] (by rfl) rfl rfl gl ?_
               with_reducible refine (format_Join.calls a0 a2 x19_30 ((t152) % 4294967296) t153 _ A53.out).mono ?_
               rintro e w' ⟨rfl, ⟨nd, rfl⟩⟩
               refine ⟨_, rfl, ?_⟩
               refine hK.out _ _ ⟨(blk_cell BK149.out 0).trans rfl, (blk_cell BK149.out 1).trans rfl, (blk_cell BK149.out 2).trans rfl, (blk_cell BK149.out 3).trans rfl, (blk_cell BK149.out 4).trans rfl⟩ (fun hHeld => ?_)
               clear hK K
               refine norm_ (a' := ?_) ?_ ?_
               rotate_left
               ·show Act.put _ (some 118) _ = _
                simp only [Act.put, sb, sz, ss, i64_w, i32_w]
                rfl
               refine pure_ (i := 9) (N := some 12) (v := ?_) (a' := ?_) (tf 10 1) rfl rfl (any_of HT_.out (by kernel_rfl)) (fun _ _ _ h => h) (Or.inl ⟨by rfl, ?_⟩) ?_ ?_
               rotate_left
               ·intro w'
                go_simp
                with_reducible rfl
               rotate_left
               ·simp only [Act.put, sb, sz, ss, i64_w, i32_w]
                rfl
               refine one_ (i := 10) (N := none) (tf 11 0) rfl rfl (one_of HT_.out (by kernel_rfl)) (by decide) (fun K hK => ?_)
               have hs59 : w58.cell? ⟨gb133, 0, none⟩ = some (.bool false) := (blk_cell BK133.out 0).trans rfl
               have hfs59 := blk_frozen BK133.out 0
               have hns59_1 := NB149_133.out
               have hms59_1 := NB133_149.out
               have hs60 : w58.cell? ⟨gb133, 1, none⟩ = some (.bool false) := (blk_cell BK133.out 1).trans rfl
               have hfs60 := blk_frozen BK133.out 1
               have hns60_1 := NB149_133.out
               have hms60_1 := NB133_149.out
               have hs61 : w58.cell? ⟨gb133, 2, none⟩ = some (.bool false) := (blk_cell BK133.out 2).trans rfl
               have hfs61 := blk_frozen BK133.out 2
               have hns61_1 := NB149_133.out
               have hms61_1 := NB133_149.out
               have hs62 : w58.cell? ⟨gb133, 3, none⟩ = some (.bool false) := (blk_cell BK133.out 3).trans rfl
               have hfs62 := blk_frozen BK133.out 3
               have hns62_1 := NB149_133.out
               have hms62_1 := NB133_149.out
               have hs63 : w58.cell? ⟨gb133, 4, none⟩ = some (.bool false) := (blk_cell BK133.out 4).trans rfl
               have hfs63 := blk_frozen BK133.out 4
               have hns63_1 := NB149_133.out
               have hms63_1 := NB133_149.out
               refine skip_ (w1 := ?_) (by rfl) rfl ?_ ?_
               rotate_left
               ·go_simp
                rfl
               refine hK.out _ _ ⟨(cf5 NB149_133.out (hHeld.1)), (cf5 NB149_133.out (hHeld.2.1)), (cf5 NB149_133.out (hHeld.2.2.1)), (cf5 NB149_133.out (hHeld.2.2.2.1)), (cf5 NB149_133.out (hHeld.2.2.2.2))⟩ (fun hHeld => ?_)
               clear hK K
               refine done_ (done_of HT_.out (by kernel_rfl)) ?_
               try go_wp2
               refine bodyPost_ret (results_tc rfl _ _ gb133 41 #[.bool false, .bool false, .bool false, .bool true, .bool true] (0, 0) _ rfl (by (with_reducible repeat first | apply bd | apply be | apply ba); refine blk_put (cs := q5_ false false false true false) ?_ 4 _ rfl; (with_reducible repeat first | apply bd | apply be | apply ba); refine blk_put (cs := F5) ?_ 3 _ rfl; (with_reducible repeat first | apply bd | apply be | apply ba); refine blk_put (cs := F5) ?_ 2 _ rfl; (with_reducible repeat first | apply bd | apply be | apply ba); refine blk_put (cs := F5) ?_ 1 _ rfl; (with_reducible repeat first | apply bd | apply be | apply ba); refine blk_put (cs := F5) ?_ 0 _ rfl; (with_reducible repeat first | apply bd | apply be | apply ba); exact BK133.out) Try.underlying41 rfl (by kernel_rfl)) rfl ?_
               exact ⟨by first | rfl | (simp [errW_none, errW_some] <;> rfl) | (simp only [← hji7, ← hji8, ← hji22, ← hji24, ← hji28, ← hji30]; first | rfl | (simp [errW_none, errW_some] <;> rfl)) | (simp [*, errW_none, errW_some] <;> rfl), bl2 HB.out GE133.out GE149.out⟩
              ·rw [if_neg c51] at H
               have c51b0 : (a4 == 0) = false := beq_eq_false_iff_ne.mpr c51
               have c51b1 : (a4 != 0) = true := bne_iff_ne.mpr c51
               replace H := Option.bind_eq_some_iff.mp H
               obtain ⟨t154, A640, H⟩ := H
               replace H : ((format_Least.f a0).bind fun t155 => ((bits_Cut.f x17_24 t136).bind fun t156 => ((format_Join.f a0 a2 x19_30 ((t156) % 4294967296)).bind fun t157 => (some (t157, false, false, false, decide ((wrap64 ((wrap64 (ji8 + t154)) - 1)) < t155), true))))) = some (r1, r2, r3, r4, r5, r6) := H
               have A64 := Aside0.mk A640
               clear A640
               replace H := Option.bind_eq_some_iff.mp H
               obtain ⟨t155, A650, H⟩ := H
               replace H : ((bits_Cut.f x17_24 t136).bind fun t156 => ((format_Join.f a0 a2 x19_30 ((t156) % 4294967296)).bind fun t157 => (some (t157, false, false, false, decide ((wrap64 ((wrap64 (ji8 + t154)) - 1)) < t155), true)))) = some (r1, r2, r3, r4, r5, r6) := H
               have A65 := Aside0.mk A650
               clear A650
               replace H := Option.bind_eq_some_iff.mp H
               obtain ⟨t156, A660, H⟩ := H
               replace H : ((format_Join.f a0 a2 x19_30 ((t156) % 4294967296)).bind fun t157 => (some (t157, false, false, false, decide ((wrap64 ((wrap64 (ji8 + t154)) - 1)) < t155), true))) = some (r1, r2, r3, r4, r5, r6) := H
               have A66 := Aside0.mk A660
               clear A660
               replace H := Option.bind_eq_some_iff.mp H
               obtain ⟨t157, A670, H⟩ := H
               replace H : (some (t157, false, false, false, decide ((wrap64 ((wrap64 (ji8 + t154)) - 1)) < t155), true)) = some (r1, r2, r3, r4, r5, r6) := H
               have A67 := Aside0.mk A670
               clear A670
               simp only [Option.some.injEq, Prod.mk.injEq] at H
               obtain ⟨rfl, rfl, rfl, rfl, rfl, rfl⟩ := H
               try go_wp2_with (first | ((with_reducible refine gate_callee (f := 86) rfl ?_); refine goesL_ (some 83) rfl rfl Try.func86 (by kernel_rfl) rfl #[.int .i64 a0] rfl gl ?_; (with_reducible refine (format_Top.calls a0 t142 _ A33.out).mono ?_); rintro e w' ⟨rfl, ⟨nd, rfl⟩⟩; refine ⟨_, rfl, ?_⟩; (try (rw [drewN_self wc]; generalize hq_ : World.drewN wc _ = wc; have n0_ : Aside0 (wc.heap[gb133]? = some (o5_ false false false false false 41)) := ⟨by rw [← hq_]; exact (bv BK133.out)⟩; have n1_ : Aside0 (Below w.heap.size w wc) := ⟨by rw [← hq_]; exact (bl1 HB.out GE133.out)⟩; clear BK133 HB hq_; have BK133 := n0_; have HB := n1_; clear n0_ n1_))) | ((with_reducible refine gate_dst (N := 20) rfl ?_); refine box_event ?hg (N := 20) ?hd (cs := F5) (t := 41) ?hr ?_; (case hd => rfl); (case hg => rfl); (case hr => first | (go_simp; done) | (go_simp; rfl)); intro gb149 hg w68 hbox hb; have n0_ := Aside0.mk (blk_below (g := gb133) (o := o5_ false false false false false 41) (bv BK133.out) hb); have n1_ := Aside0.mk (below_step (bl1 HB.out GE133.out) hb); have n2_ := Aside0.mk (hbox); have n3_ := Aside0.mk ((by rw [hg]; exact (below_size (bl1 HB.out GE133.out)) : w.heap.size ≤ gb149)); have n4_ := n3_; have n5_ := Aside0.mk ((by rw [hg]; exact Nat.ne_of_lt (blk_lt (g := gb133) (o := .cells F5 41 (0, 0)) (bv BK133.out)) : gb133 ≠ gb149)); have n6_ := Aside0.mk (Ne.symm n5_.out); clear BK133; clear HB; have BK133 := n0_; have HB := n1_; have BK149 := n2_; have GW149 := n3_; have GE149 := n4_; have NB133_149 := n5_; have NB149_133 := n6_; clear n0_ n1_ n2_ n3_ n4_ n5_ n6_; clear hb hbox hg; have hnb69 := NB149_133.out; have hnc69 := NB133_149.out; obtain ⟨hcz70_0, hcz70_1, hcz70_2, hcz70_3, hcz70_4⟩ := bc5 BK149.out; obtain ⟨hfz70_0, hfz70_1, hfz70_2, hfz70_3, hfz70_4⟩ := bf5 BK149.out) | ((with_reducible refine gate_store (t := 41) (p := 20) rfl ?_); refine store_event (t := 41) (p := 20) (v := ?vo_w71) (w1 := (((((w68.setCell ⟨gb149, 0, none⟩ (.bool false)).setCell ⟨gb149, 1, none⟩ (.bool false)).setCell ⟨gb149, 2, none⟩ (.bool false)).setCell ⟨gb149, 3, none⟩ (.bool false)).setCell ⟨gb149, 4, none⟩ (.bool true))) ?hg ?ho ?hn ?hr ?_; (case ho => rfl); (case hg => rfl); (case hn => rfl); (case hr => first | (go_simp; done) | (go_simp; rfl)); intro w71 hw; have n0_ : Aside0 (w71.heap[gb133]? = some (o5_ false false false false false 41)) := ⟨(by rw [hw]; exact (by (with_reducible repeat first | apply bd | apply be | apply ba); refine blk_far ?_ NB133_149.out _; (with_reducible repeat first | apply bd | apply be | apply ba); refine blk_far ?_ NB133_149.out _; (with_reducible repeat first | apply bd | apply be | apply ba); refine blk_far ?_ NB133_149.out _; (with_reducible repeat first | apply bd | apply be | apply ba); refine blk_far ?_ NB133_149.out _; (with_reducible repeat first | apply bd | apply be | apply ba); refine blk_far ?_ NB133_149.out _; (with_reducible repeat first | apply bd | apply be | apply ba); exact BK133.out))⟩; have n1_ : Aside0 (w71.heap[gb149]? = some (o5_ false false false false true 41)) := ⟨(by rw [hw]; exact (by (with_reducible repeat first | apply bd | apply be | apply ba); refine blk_put (cs := F5) ?_ 4 _ rfl; (with_reducible repeat first | apply bd | apply be | apply ba); refine blk_put (cs := F5) ?_ 3 _ rfl; (with_reducible repeat first | apply bd | apply be | apply ba); refine blk_put (cs := F5) ?_ 2 _ rfl; (with_reducible repeat first | apply bd | apply be | apply ba); refine blk_put (cs := F5) ?_ 1 _ rfl; (with_reducible repeat first | apply bd | apply be | apply ba); refine blk_put (cs := F5) ?_ 0 _ rfl; (with_reducible repeat first | apply bd | apply be | apply ba); exact BK149.out))⟩; have n2_ : Aside0 (Below w.heap.size w w71) := ⟨(by rw [hw]; exact (bl2 HB.out GE133.out GE149.out))⟩; clear hw; clear BK133; clear BK149; clear HB; have BK133 := n0_; have BK149 := n1_; have HB := n2_; clear n0_ n1_ n2_; obtain ⟨hcz72_0, hcz72_1, hcz72_2, hcz72_3, hcz72_4⟩ := bc5 BK149.out; obtain ⟨hfz72_0, hfz72_1, hfz72_2, hfz72_3, hfz72_4⟩ := bf5 BK149.out) | (go_at_call 69; (with_reducible refine (bits_Len.calls kj30 a4 t154 _ A64.out).mono ?_); rintro e w' ⟨rfl, ⟨nd, rfl⟩⟩; (try (rw [drewN_self w71]; generalize hq_ : World.drewN w71 _ = w71; have n0_ : Aside0 (w71.heap[gb133]? = some (o5_ false false false false false 41)) := ⟨by rw [← hq_]; exact (bv BK133.out)⟩; have n1_ : Aside0 (w71.heap[gb149]? = some (o5_ false false false false true 41)) := ⟨by rw [← hq_]; exact (bv BK149.out)⟩; have n2_ : Aside0 (Below w.heap.size w w71) := ⟨by rw [← hq_]; exact (bl2 HB.out GE133.out GE149.out)⟩; clear BK133 BK149 HB hq_; have BK133 := n0_; have BK149 := n1_; have HB := n2_; clear n0_ n1_ n2_))) | (go_at_call 85; (with_reducible refine (format_Least.calls a0 t155 _ A65.out).mono ?_); rintro e w' ⟨rfl, ⟨nd, rfl⟩⟩; (try (rw [drewN_self w71]; generalize hq_ : World.drewN w71 _ = w71; have n0_ : Aside0 (w71.heap[gb133]? = some (o5_ false false false false false 41)) := ⟨by rw [← hq_]; exact (bv BK133.out)⟩; have n1_ : Aside0 (w71.heap[gb149]? = some (o5_ false false false false true 41)) := ⟨by rw [← hq_]; exact (bv BK149.out)⟩; have n2_ : Aside0 (Below w.heap.size w w71) := ⟨by rw [← hq_]; exact (bl2 HB.out GE133.out GE149.out)⟩; clear BK133 BK149 HB hq_; have BK133 := n0_; have BK149 := n1_; have HB := n2_; clear n0_ n1_ n2_)); obtain ⟨hcz73_0, hcz73_1, hcz73_2, hcz73_3, hcz73_4⟩ := bc5 BK149.out; obtain ⟨hfz73_0, hfz73_1, hfz73_2, hfz73_3, hfz73_4⟩ := bf5 BK149.out))
               have n0_ : Aside0 ((w71.setCell ⟨gb149, 3, none⟩ (.bool (decide ((wrap64 ((wrap64 (ji8 + t154)) - 1)) < t155)))).heap[gb133]? = some (o5_ false false false false false 41)) := ⟨by (with_reducible repeat first | apply bd | apply be | apply ba); refine blk_far ?_ NB133_149.out _; (with_reducible repeat first | apply bd | apply be | apply ba); exact BK133.out⟩
               have n1_ : Aside0 ((w71.setCell ⟨gb149, 3, none⟩ (.bool (decide ((wrap64 ((wrap64 (ji8 + t154)) - 1)) < t155)))).heap[gb149]? = some (.cells #[.bool false, .bool false, .bool false, .bool (decide ((wrap64 ((wrap64 (ji8 + t154)) - 1)) < t155)), .bool true] 41 (0, 0))) := ⟨by (with_reducible repeat first | apply bd | apply be | apply ba); refine blk_put (cs := q5_ false false false false true) ?_ 3 _ rfl; (with_reducible repeat first | apply bd | apply be | apply ba); exact BK149.out⟩
               have n2_ : Aside0 (Below w.heap.size w (w71.setCell ⟨gb149, 3, none⟩ (.bool (decide ((wrap64 ((wrap64 (ji8 + t154)) - 1)) < t155))))) := ⟨bl2 HB.out GE133.out GE149.out⟩
               (try clear BK133)
               (try clear BK149)
               (try clear HB)
               generalize (w71.setCell ⟨gb149, 3, none⟩ (.bool (decide ((wrap64 ((wrap64 (ji8 + t154)) - 1)) < t155)))) = w74 at n0_ n1_ n2_ ⊢
               have BK133 := n0_
               have BK149 := n1_
               have HB := n2_
               clear n0_ n1_ n2_
               have n0_ := Aside0.mk (blk_drew BK133.out)
               have n1_ := Aside0.mk (blk_drew BK149.out)
               have n2_ := Aside0.mk (below_drew1 HB.out)
               clear BK133
               clear BK149
               clear HB
               have BK133 := n0_
               have BK149 := n1_
               have HB := n2_
               clear n0_ n1_ n2_
               refine start_ (n := 11) (S := fun w' => w'.cell? ⟨gb149, 0, none⟩ = some (.bool false) ∧ w'.cell? ⟨gb149, 1, none⟩ = some (.bool false) ∧ w'.cell? ⟨gb149, 2, none⟩ = some (.bool false) ∧ w'.cell? ⟨gb149, 3, none⟩ = some (.bool (decide ((wrap64 ((wrap64 (ji8 + t154)) - 1)) < t155))) ∧ w'.cell? ⟨gb149, 4, none⟩ = some (.bool true)) (ds := []) (tf 0 11) (by kernel_rfl) rfl rfl ⟨(blk_cell BK149.out 0).trans rfl, (blk_cell BK149.out 1).trans rfl, (blk_cell BK149.out 2).trans rfl, (blk_cell BK149.out 3).trans rfl, (blk_cell BK149.out 4).trans rfl⟩ (fun hHeld => ?_); refine with_tabW round_Pack.tab18 round_Pack.bits18 (fun HT_ HW_ => ?_)
               generalize w74.drew = w75 at BK133 BK149 HB hHeld ⊢
               refine pure_ (i := 0) (N := some 111) (v := ?_) (a' := ?_) (tf 1 10) rfl rfl (any_of HT_.out (by kernel_rfl)) (fun _ _ _ h => h) (Or.inl ⟨by rfl, ?_⟩) ?_ ?_
               rotate_left
               ·intro w'
                go_simp
                with_reducible rfl
               rotate_left
               ·simp only [Act.put, sb, sz, ss, i64_w, i32_w]
                rfl
               refine pure_ (i := 1) (N := some 112) (v := ?_) (a' := ?_) (tf 2 9) rfl rfl (any_of HT_.out (by kernel_rfl)) (fun _ _ _ h => h) (Or.inl ⟨by rfl, ?_⟩) ?_ ?_
               rotate_left
               ·intro w'
                go_simp
                with_reducible rfl
               rotate_left
               ·simp only [Act.put, sb, sz, ss, i64_w, i32_w]
                rfl
               refine pure_ (i := 2) (N := some 113) (v := ?_) (a' := ?_) (tf 3 8) rfl rfl (any_of HT_.out (by kernel_rfl)) (fun _ _ _ h => h) (Or.inl ⟨by rfl, ?_⟩) ?_ ?_
               rotate_left
               ·intro w'
                go_simp
                with_reducible rfl
               rotate_left
               ·simp only [Act.put, sb, sz, ss, i64_w, i32_w]
                rfl
               refine pure_ (i := 3) (N := some 114) (v := ?_) (a' := ?_) (tf 4 7) rfl rfl (any_of HT_.out (by kernel_rfl)) (fun _ _ _ h => h) (Or.inl ⟨by rfl, ?_⟩) ?_ ?_
               rotate_left
               ·intro w'
                go_simp
                with_reducible rfl
               rotate_left
               ·simp only [Act.put, sb, sz, ss, i64_w, i32_w]
                rfl
               refine pure_ (i := 4) (N := some 115) (v := ?_) (a' := ?_) (tf 5 6) rfl rfl (any_of HT_.out (by kernel_rfl)) (fun _ _ _ h => h) (Or.inl ⟨by rfl, ?_⟩) ?_ ?_
               rotate_left
               ·intro w'
                go_simp
                with_reducible rfl
               rotate_left
               ·simp only [Act.put, sb, sz, ss, i64_w, i32_w]
                rfl
               refine take_ (i := 8) (N := some 119) (v := ?_) (a' := ?_) #[true, true, true, true, true, false, false, false, true, false, false] rfl rfl (take_ofW HT_.out HW_.out (by kernel_rfl)) (fun _ _ _ h => h) (Or.inl ⟨by rfl, ?_⟩) hHeld ?_ ?_
               rotate_left
               ·rintro w' ⟨s0, s1, s2, s3, s4⟩
                go_simp
                with_reducible rfl
               rotate_left
               ·simp only [Act.put, sb, sz, ss, i64_w, i32_w]
                rfl
               refine one_ (i := 5) (N := some 116) #[true, true, true, true, true, true, false, false, true, false, false] rfl rfl (one_of HT_.out (by kernel_rfl)) (by decide) (fun K hK => ?_)
               refine goes_ Try.func89 (by kernel_rfl) rfl #[.int .u64 x17_24, .int .i64 t136] (by rfl) rfl rfl gl ?_
               with_reducible refine (bits_Cut.calls x17_24 t136 t156 _ A66.out).mono ?_
               rintro e w' ⟨rfl, ⟨nd, rfl⟩⟩
               refine ⟨_, rfl, ?_⟩
               refine hK.out _ _ ⟨(blk_cell BK149.out 0).trans rfl, (blk_cell BK149.out 1).trans rfl, (blk_cell BK149.out 2).trans rfl, (blk_cell BK149.out 3).trans rfl, (blk_cell BK149.out 4).trans rfl⟩ (fun hHeld => ?_)
               clear hK K
               refine norm_ (a' := ?_) ?_ ?_
               rotate_left
               ·show Act.put _ (some 116) _ = _
                simp only [Act.put, sb, sz, ss, i64_w, i32_w]
                rfl
               refine pure_ (i := 6) (N := some 117) (v := ?_) (a' := ?_) #[true, true, true, true, true, true, true, false, true, false, false] rfl rfl (any_of HT_.out (by kernel_rfl)) (fun _ _ _ h => h) (Or.inl ⟨by rfl, ?_⟩) ?_ ?_
               rotate_left
               ·intro w'
                go_simp
                with_reducible rfl
               rotate_left
               ·simp only [Act.put, sb, sz, ss, i64_w, i32_w]
                rfl
               refine one_ (i := 7) (N := some 118) (tf 9 2) rfl rfl (one_of HT_.out (by kernel_rfl)) (by decide) (fun K hK => ?_)
               refine goes_ Try.func88 (by kernel_rfl) rfl #[.int .i64 a0, .bool a2, .int .i64 x19_30, .int .u32 ((t156) % 4294967296)] (by rfl) rfl rfl gl ?_
               with_reducible refine (format_Join.calls a0 a2 x19_30 ((t156) % 4294967296) t157 _ A67.out).mono ?_
               rintro e w' ⟨rfl, ⟨nd, rfl⟩⟩
               refine ⟨_, rfl, ?_⟩
               refine hK.out _ _ ⟨(blk_cell BK149.out 0).trans rfl, (blk_cell BK149.out 1).trans rfl, (blk_cell BK149.out 2).trans rfl, (blk_cell BK149.out 3).trans rfl, (blk_cell BK149.out 4).trans rfl⟩ (fun hHeld => ?_)
               clear hK K
               refine norm_ (a' := ?_) ?_ ?_
               rotate_left
               ·show Act.put _ (some 118) _ = _
                simp only [Act.put, sb, sz, ss, i64_w, i32_w]
                rfl
               refine pure_ (i := 9) (N := some 12) (v := ?_) (a' := ?_) (tf 10 1) rfl rfl (any_of HT_.out (by kernel_rfl)) (fun _ _ _ h => h) (Or.inl ⟨by rfl, ?_⟩) ?_ ?_
               rotate_left
               ·intro w'
                go_simp
                with_reducible rfl
               rotate_left
               ·simp only [Act.put, sb, sz, ss, i64_w, i32_w]
                rfl
               refine one_ (i := 10) (N := none) (tf 11 0) rfl rfl (one_of HT_.out (by kernel_rfl)) (by decide) (fun K hK => ?_)
               have hs76 : w75.cell? ⟨gb133, 0, none⟩ = some (.bool false) := (blk_cell BK133.out 0).trans rfl
               have hfs76 := blk_frozen BK133.out 0
               have hns76_1 := NB149_133.out
               have hms76_1 := NB133_149.out
               have hs77 : w75.cell? ⟨gb133, 1, none⟩ = some (.bool false) := (blk_cell BK133.out 1).trans rfl
               have hfs77 := blk_frozen BK133.out 1
               have hns77_1 := NB149_133.out
               have hms77_1 := NB133_149.out
               have hs78 : w75.cell? ⟨gb133, 2, none⟩ = some (.bool false) := (blk_cell BK133.out 2).trans rfl
               have hfs78 := blk_frozen BK133.out 2
               have hns78_1 := NB149_133.out
               have hms78_1 := NB133_149.out
               have hs79 : w75.cell? ⟨gb133, 3, none⟩ = some (.bool false) := (blk_cell BK133.out 3).trans rfl
               have hfs79 := blk_frozen BK133.out 3
               have hns79_1 := NB149_133.out
               have hms79_1 := NB133_149.out
               have hs80 : w75.cell? ⟨gb133, 4, none⟩ = some (.bool false) := (blk_cell BK133.out 4).trans rfl
               have hfs80 := blk_frozen BK133.out 4
               have hns80_1 := NB149_133.out
               have hms80_1 := NB133_149.out
               refine skip_ (w1 := ?_) (by rfl) rfl ?_ ?_
               rotate_left
               ·go_simp
                rfl
               refine hK.out _ _ ⟨(cf5 NB149_133.out (hHeld.1)), (cf5 NB149_133.out (hHeld.2.1)), (cf5 NB149_133.out (hHeld.2.2.1)), (cf5 NB149_133.out (hHeld.2.2.2.1)), (cf5 NB149_133.out (hHeld.2.2.2.2))⟩ (fun hHeld => ?_)
               clear hK K
               refine done_ (done_of HT_.out (by kernel_rfl)) ?_
               try go_wp2
               refine bodyPost_ret (results_tc rfl _ _ gb133 41 #[.bool false, .bool false, .bool false, .bool (decide ((wrap64 ((wrap64 (ji8 + t154)) - 1)) < t155)), .bool true] (0, 0) _ rfl (by (with_reducible repeat first | apply bd | apply be | apply ba); refine blk_put (cs := #[.bool false, .bool false, .bool false, .bool (decide ((wrap64 ((wrap64 (ji8 + t154)) - 1)) < t155)), .bool false]) ?_ 4 _ rfl; (with_reducible repeat first | apply bd | apply be | apply ba); refine blk_put (cs := F5) ?_ 3 _ rfl; (with_reducible repeat first | apply bd | apply be | apply ba); refine blk_put (cs := F5) ?_ 2 _ rfl; (with_reducible repeat first | apply bd | apply be | apply ba); refine blk_put (cs := F5) ?_ 1 _ rfl; (with_reducible repeat first | apply bd | apply be | apply ba); refine blk_put (cs := F5) ?_ 0 _ rfl; (with_reducible repeat first | apply bd | apply be | apply ba); exact BK133.out) Try.underlying41 rfl (by kernel_rfl)) rfl ?_
               exact ⟨by first | rfl | (simp [errW_none, errW_some] <;> rfl) | (simp only [← hji7, ← hji8, ← hji22, ← hji24, ← hji28, ← hji30]; first | rfl | (simp [errW_none, errW_some] <;> rfl)) | (simp [*, errW_none, errW_some] <;> rfl), bl2 HB.out GE133.out GE149.out⟩
         ·rw [if_neg c29] at H
          exact absurd H (by simp)
      ·rw [if_neg c23] at H
       exact absurd H (by simp)


/-! ### format_Parts: function 98 -/
def format_Parts.f (a0 : Int) (a1 : Int) : Option (Bool × Int × Int) := (format_Widths.f a0).bind fun bt158 => (if 0 ≤ (IntKind.u64.wrap (wrap64 (bt158.1 + bt158.2))) then (if 0 ≤ (IntKind.u64.wrap (bt158.2)) then (if 0 ≤ (IntKind.u64.wrap (bt158.1)) then (some (((Go.bits .and .u32 (shr .u32 a1 (IntKind.u64.wrap (wrap64 (bt158.1 + bt158.2)))) 1) == 1), wrap64 (Go.bits .and .u32 (shr .u32 a1 (IntKind.u64.wrap (bt158.2))) (((shl .u32 1 (IntKind.u64.wrap (bt158.1))) - 1) % 4294967296)), Go.bits .and .u32 a1 (((shl .u32 1 (IntKind.u64.wrap (bt158.2))) - 1) % 4294967296))) else (none)) else (none)) else (none))
set_option maxHeartbeats 8000000 in
set_option maxRecDepth 100000 in
theorem format_Parts.calls (a0 : Int) (a1 : Int) (r1 : Bool) (r2 : Int) (r3 : Int) (w : World) (h : format_Parts.f a0 a1 = some (r1, r2, r3)) :
  Calls Try.prog 98 #[.int .i64 a0, .int .u32 a1] w fun e w' => e = .returned (.tuple #[.bool r1, .int .i64 r2, .int .u32 r3]) ∧ Drawn0 w w' := by
 have H : ((format_Widths.f a0).bind fun bt158 => (if 0 ≤ (IntKind.u64.wrap (wrap64 (bt158.1 + bt158.2))) then (if 0 ≤ (IntKind.u64.wrap (bt158.2)) then (if 0 ≤ (IntKind.u64.wrap (bt158.1)) then (some (((Go.bits .and .u32 (shr .u32 a1 (IntKind.u64.wrap (wrap64 (bt158.1 + bt158.2)))) 1) == 1), wrap64 (Go.bits .and .u32 (shr .u32 a1 (IntKind.u64.wrap (bt158.2))) (((shl .u32 1 (IntKind.u64.wrap (bt158.1))) - 1) % 4294967296)), Go.bits .and .u32 a1 (((shl .u32 1 (IntKind.u64.wrap (bt158.2))) - 1) % 4294967296))) else (none)) else (none)) else (none))) = some (r1, r2, r3) := h
 clear h
 replace H := Option.bind_eq_some_iff.mp H
 obtain ⟨⟨t158, t159⟩, A30, H⟩ := H
 replace H : (if 0 ≤ (IntKind.u64.wrap (wrap64 (t158 + t159))) then (if 0 ≤ (IntKind.u64.wrap (t159)) then (if 0 ≤ (IntKind.u64.wrap (t158)) then (some (((Go.bits .and .u32 (shr .u32 a1 (IntKind.u64.wrap (wrap64 (t158 + t159)))) 1) == 1), wrap64 (Go.bits .and .u32 (shr .u32 a1 (IntKind.u64.wrap (t159))) (((shl .u32 1 (IntKind.u64.wrap (t158))) - 1) % 4294967296)), Go.bits .and .u32 a1 (((shl .u32 1 (IntKind.u64.wrap (t159))) - 1) % 4294967296))) else (none)) else (none)) else (none)) = some (r1, r2, r3) := H
 have A3 := Aside0.mk A30
 clear A30
 obtain ⟨ji4, hji4⟩ : ∃ j_ : Int, (IntKind.u64.wrap (wrap64 (t158 + t159))) = j_ := ⟨_, rfl⟩
 replace H : (if 0 ≤ (ji4) then (if 0 ≤ (IntKind.u64.wrap (t159)) then (if 0 ≤ (IntKind.u64.wrap (t158)) then (some (((Go.bits .and .u32 (shr .u32 a1 (ji4)) 1) == 1), wrap64 (Go.bits .and .u32 (shr .u32 a1 (IntKind.u64.wrap (t159))) (((shl .u32 1 (IntKind.u64.wrap (t158))) - 1) % 4294967296)), Go.bits .and .u32 a1 (((shl .u32 1 (IntKind.u64.wrap (t159))) - 1) % 4294967296))) else (none)) else (none)) else (none)) = some (r1, r2, r3) := by first | (rw [hji4] at H; exact H) | (simp only [hji4] at H ⊢; exact H)
 (try rw [hji4] at A3)
 by_cases c5 : 0 ≤ (ji4)
 ·rw [if_pos c5] at H
  have c5b0 := eq_true c5
  have c5b1 : decide (0 ≤ (ji4)) = true := decide_eq_true c5
  clear c5
  obtain ⟨ji6, hji6⟩ : ∃ j_ : Int, (shr .u32 a1 (ji4)) = j_ := ⟨_, rfl⟩
  replace H : (if 0 ≤ (IntKind.u64.wrap (t159)) then (if 0 ≤ (IntKind.u64.wrap (t158)) then (some (((Go.bits .and .u32 (ji6) 1) == 1), wrap64 (Go.bits .and .u32 (shr .u32 a1 (IntKind.u64.wrap (t159))) (((shl .u32 1 (IntKind.u64.wrap (t158))) - 1) % 4294967296)), Go.bits .and .u32 a1 (((shl .u32 1 (IntKind.u64.wrap (t159))) - 1) % 4294967296))) else (none)) else (none)) = some (r1, r2, r3) := by first | (rw [hji6] at H; exact H) | (simp only [hji6] at H ⊢; exact H)
  (try rw [hji6] at A3)
  have hji6_ : (a1 / 2 ^ min (ji4).toNat 32) = ji6 := hji6
  have hji6z : (ji4) ≤ 32 → (a1 / 2 ^ (ji4).toNat) = ji6 := shr_small hji6
  obtain ⟨ji7, hji7⟩ : ∃ j_ : Int, (IntKind.u64.wrap (t159)) = j_ := ⟨_, rfl⟩
  replace H : (if 0 ≤ (ji7) then (if 0 ≤ (IntKind.u64.wrap (t158)) then (some (((Go.bits .and .u32 (ji6) 1) == 1), wrap64 (Go.bits .and .u32 (shr .u32 a1 (ji7)) (((shl .u32 1 (IntKind.u64.wrap (t158))) - 1) % 4294967296)), Go.bits .and .u32 a1 (((shl .u32 1 (ji7)) - 1) % 4294967296))) else (none)) else (none)) = some (r1, r2, r3) := by first | (rw [hji7] at H; exact H) | (simp only [hji7] at H ⊢; exact H)
  (try rw [hji7] at A3)
  by_cases c8 : 0 ≤ (ji7)
  ·rw [if_pos c8] at H
   have c8b0 := eq_true c8
   have c8b1 : decide (0 ≤ (ji7)) = true := decide_eq_true c8
   clear c8
   obtain ⟨ji9, hji9⟩ : ∃ j_ : Int, (shr .u32 a1 (ji7)) = j_ := ⟨_, rfl⟩
   replace H : (if 0 ≤ (IntKind.u64.wrap (t158)) then (some (((Go.bits .and .u32 (ji6) 1) == 1), wrap64 (Go.bits .and .u32 (ji9) (((shl .u32 1 (IntKind.u64.wrap (t158))) - 1) % 4294967296)), Go.bits .and .u32 a1 (((shl .u32 1 (ji7)) - 1) % 4294967296))) else (none)) = some (r1, r2, r3) := by first | (rw [hji9] at H; exact H) | (simp only [hji9] at H ⊢; exact H)
   (try rw [hji9] at A3)
   have hji9_ : (a1 / 2 ^ min (ji7).toNat 32) = ji9 := hji9
   have hji9z : (ji7) ≤ 32 → (a1 / 2 ^ (ji7).toNat) = ji9 := shr_small hji9
   obtain ⟨ji10, hji10⟩ : ∃ j_ : Int, (IntKind.u64.wrap (t158)) = j_ := ⟨_, rfl⟩
   replace H : (if 0 ≤ (ji10) then (some (((Go.bits .and .u32 (ji6) 1) == 1), wrap64 (Go.bits .and .u32 (ji9) (((shl .u32 1 (ji10)) - 1) % 4294967296)), Go.bits .and .u32 a1 (((shl .u32 1 (ji7)) - 1) % 4294967296))) else (none)) = some (r1, r2, r3) := by first | (rw [hji10] at H; exact H) | (simp only [hji10] at H ⊢; exact H)
   (try rw [hji10] at A3)
   by_cases c11 : 0 ≤ (ji10)
   ·rw [if_pos c11] at H
    have c11b0 := eq_true c11
    have c11b1 : decide (0 ≤ (ji10)) = true := decide_eq_true c11
    clear c11
    obtain ⟨ji12, hji12⟩ : ∃ j_ : Int, (shl .u32 1 (ji10)) = j_ := ⟨_, rfl⟩
    replace H : (some (((Go.bits .and .u32 (ji6) 1) == 1), wrap64 (Go.bits .and .u32 (ji9) (((ji12) - 1) % 4294967296)), Go.bits .and .u32 a1 (((shl .u32 1 (ji7)) - 1) % 4294967296))) = some (r1, r2, r3) := by first | (rw [hji12] at H; exact H) | (simp only [hji12] at H ⊢; exact H)
    (try rw [hji12] at A3)
    have hji12_ : (IntKind.u32.wrap (1 * 2 ^ min (ji10).toNat 32)) = ji12 := hji12
    have hji12z : (ji10) ≤ 32 → (IntKind.u32.wrap (1 * 2 ^ (ji10).toNat)) = ji12 := shl_small hji12
    have hji12u : (IntKind.u32.wrap (2 ^ min (ji10).toNat 32)) = ji12 := by have h_ := hji12_; rw [Int.one_mul] at h_; exact h_
    have hji12v : (ji10) ≤ 32 → (IntKind.u32.wrap (2 ^ (ji10).toNat)) = ji12 := fun hle_ => by have h_ := hji12z hle_; rw [Int.one_mul] at h_; exact h_
    obtain ⟨ji13, hji13⟩ : ∃ j_ : Int, (((ji12) - 1) % 4294967296) = j_ := ⟨_, rfl⟩
    replace H : (some (((Go.bits .and .u32 (ji6) 1) == 1), wrap64 (Go.bits .and .u32 (ji9) (ji13)), Go.bits .and .u32 a1 (((shl .u32 1 (ji7)) - 1) % 4294967296))) = some (r1, r2, r3) := by first | (rw [hji13] at H; exact H) | (simp only [hji13] at H ⊢; exact H)
    (try rw [hji13] at A3)
    have hji13l : 0 ≤ ji13 := by rw [← hji13]; exact Int.emod_nonneg _ (by decide)
    have hji13h : ji13 ≤ 4294967295 := by have := Int.emod_lt_of_pos (((ji12) - 1)) (show (0 : Int) < 4294967296 by decide); omega
    have hji13w : (IntKind.u32.wrap ((ji12) - 1)) = ji13 := (u32_w _).trans hji13
    (try (have hji13_ := hji13; simp only [Int.add_emod_emod, Int.emod_add_emod, Int.sub_emod_emod, Int.emod_sub_emod] at hji13_))
    have c14b0 := eq_true (of_decide_eq_true (by first | (with_reducible assumption) | assumption) : 0 ≤ (ji7))
    obtain ⟨ji15, hji15⟩ : ∃ j_ : Int, (shl .u32 1 (ji7)) = j_ := ⟨_, rfl⟩
    replace H : (some (((Go.bits .and .u32 (ji6) 1) == 1), wrap64 (Go.bits .and .u32 (ji9) (ji13)), Go.bits .and .u32 a1 (((ji15) - 1) % 4294967296))) = some (r1, r2, r3) := by first | (rw [hji15] at H; exact H) | (simp only [hji15] at H ⊢; exact H)
    (try rw [hji15] at A3)
    have hji15_ : (IntKind.u32.wrap (1 * 2 ^ min (ji7).toNat 32)) = ji15 := hji15
    have hji15z : (ji7) ≤ 32 → (IntKind.u32.wrap (1 * 2 ^ (ji7).toNat)) = ji15 := shl_small hji15
    have hji15u : (IntKind.u32.wrap (2 ^ min (ji7).toNat 32)) = ji15 := by have h_ := hji15_; rw [Int.one_mul] at h_; exact h_
    have hji15v : (ji7) ≤ 32 → (IntKind.u32.wrap (2 ^ (ji7).toNat)) = ji15 := fun hle_ => by have h_ := hji15z hle_; rw [Int.one_mul] at h_; exact h_
    obtain ⟨ji16, hji16⟩ : ∃ j_ : Int, (((ji15) - 1) % 4294967296) = j_ := ⟨_, rfl⟩
    replace H : (some (((Go.bits .and .u32 (ji6) 1) == 1), wrap64 (Go.bits .and .u32 (ji9) (ji13)), Go.bits .and .u32 a1 (ji16))) = some (r1, r2, r3) := by first | (rw [hji16] at H; exact H) | (simp only [hji16] at H ⊢; exact H)
    (try rw [hji16] at A3)
    have hji16l : 0 ≤ ji16 := by rw [← hji16]; exact Int.emod_nonneg _ (by decide)
    have hji16h : ji16 ≤ 4294967295 := by have := Int.emod_lt_of_pos (((ji15) - 1)) (show (0 : Int) < 4294967296 by decide); omega
    have hji16w : (IntKind.u32.wrap ((ji15) - 1)) = ji16 := (u32_w _).trans hji16
    (try (have hji16_ := hji16; simp only [Int.add_emod_emod, Int.emod_add_emod, Int.sub_emod_emod, Int.emod_sub_emod] at hji16_))
    simp only [Option.some.injEq, Prod.mk.injEq] at H
    obtain ⟨rfl, rfl, rfl⟩ := H
    go_enter Try.func98, Try.ntmps98
    go_wp2_with (first | ((with_reducible refine gate_callee (f := 81) rfl ?_); refine goesL_ (some 11) rfl rfl Try.func81 (by kernel_rfl) rfl #[.int .i64 a0] rfl gl ?_; (with_reducible refine (format_Widths.calls a0 t158 t159 _ A3.out).mono ?_); rintro e w' ⟨rfl, ⟨nd, rfl⟩⟩; refine ⟨_, rfl, ?_⟩))
    go_ret3
    exact ⟨by first | rfl | (simp; done) | (simp only [← hji4, ← hji6, ← hji7, ← hji9, ← hji10, ← hji12, ← hji13, ← hji15, ← hji16] <;> (first | rfl | (simp; done))) | (simp [*]; done) | (congr 1; (try unfold wrap64); omega) | (congr 1; rw [IntKind.wrap_u64]; omega), by repeat (first | exact Drawn0.refl _ | apply Drawn0.step)⟩
   ·rw [if_neg c11] at H
    exact absurd H (by simp)
  ·rw [if_neg c8] at H
   exact absurd H (by simp)
 ·rw [if_neg c5] at H
  exact absurd H (by simp)

/-! ### format_Class: function 65 -/
def format_Class.j0 : Nat → Int → Int → Int → Int → Bool → Option (Int)
 |0, _, _, _, _, _ => none
 |k + 1, x0, x6, x8, x9, x22 => if x22 = true then (some 0) else (if x8 = 0 then (some 1) else ((format_Top.f x0).bind fun t165 => (if x8 < t165 then (some 2) else (if x9 = 0 then (some 3) else (if 0 ≤ (IntKind.u64.wrap (wrap64 (x6 - 1))) then (if (shr .u32 x9 (IntKind.u64.wrap (wrap64 (x6 - 1)))) = 1 then (some 4) else (some 5)) else (none))))))
def format_Class.f (k : Nat) (a0 : Int) (a1 : Int) : Option (Int) := (format_Widths.f a0).bind fun bt160 => ((format_Parts.f a0 a1).bind fun bt162 => (if bt162.2.1 = 0 then (format_Class.j0 k a0 bt160.2 bt162.2.1 bt162.2.2 (bt162.2.2 == 0)) else (format_Class.j0 k a0 bt160.2 bt162.2.1 bt162.2.2 false)))
theorem format_Class.mono_l : ∀ k, (∀ y0 y1 y2 y3 y4, LeO (format_Class.j0 k y0 y1 y2 y3 y4) (format_Class.j0 (k + 1) y0 y1 y2 y3 y4))
 |0 => fun _ _ _ _ _ r h => by simp [format_Class.j0] at h
 |k + 1 => by
  have ih0 := format_Class.mono_l k
  ·intro y0 y1 y2 y3 y4
   unfold format_Class.j0
   repeat' first
   |(with_reducible exact ih0 _ _ _ _ _)
   |(with_reducible exact LeO.refl _)
   |(with_reducible exact LeO.none _)
   |(with_reducible refine LeO.ite ?_ ?_)
   |(with_reducible refine LeO.bind ?_ (fun _ => ?_))
   |exact ih0 _ _ _ _ _
   |exact LeO.none _
   |refine LeO.ite ?_ ?_
   |refine LeO.bind ?_ (fun _ => ?_)
theorem format_Class.mono : ∀ a0 a1 k, LeO (format_Class.f k a0 a1) (format_Class.f (k + 1) a0 a1) := by
 intro a0 a1 k
 have ih0 := format_Class.mono_l k
 unfold format_Class.f
 repeat' first
   |(with_reducible exact ih0 _ _ _ _ _)
   |(with_reducible exact LeO.refl _)
   |(with_reducible exact LeO.none _)
   |(with_reducible refine LeO.ite ?_ ?_)
   |(with_reducible refine LeO.bind ?_ (fun _ => ?_))
   |exact ih0 _ _ _ _ _
   |exact LeO.none _
   |refine LeO.ite ?_ ?_
   |refine LeO.bind ?_ (fun _ => ?_)
set_option maxHeartbeats 8000000 in
set_option maxRecDepth 100000 in
theorem format_Class.calls (k : Nat) (a0 : Int) (a1 : Int) (r : Int) (w : World) (h : format_Class.f k a0 a1 = some r) :
  Calls Try.prog 65 #[.int .i64 a0, .int .u32 a1] w fun e w' => e = .returned (.int .i64 r) ∧ Drawn0 w w' := by
 have H : ((format_Widths.f a0).bind fun bt160 => ((format_Parts.f a0 a1).bind fun bt162 => (if bt162.2.1 = 0 then (format_Class.j0 k a0 bt160.2 bt162.2.1 bt162.2.2 (bt162.2.2 == 0)) else (format_Class.j0 k a0 bt160.2 bt162.2.1 bt162.2.2 false)))) = some r := h
 clear h
 replace H := Option.bind_eq_some_iff.mp H
 obtain ⟨⟨t160, t161⟩, A30, H⟩ := H
 replace H : ((format_Parts.f a0 a1).bind fun bt162 => (if bt162.2.1 = 0 then (format_Class.j0 k a0 t161 bt162.2.1 bt162.2.2 (bt162.2.2 == 0)) else (format_Class.j0 k a0 t161 bt162.2.1 bt162.2.2 false))) = some r := H
 have A3 := Aside0.mk A30
 clear A30
 replace H := Option.bind_eq_some_iff.mp H
 obtain ⟨⟨t162, t163, t164⟩, A40, H⟩ := H
 replace H : (if t163 = 0 then (format_Class.j0 k a0 t161 t163 t164 (t164 == 0)) else (format_Class.j0 k a0 t161 t163 t164 false)) = some r := H
 have A4 := Aside0.mk A40
 clear A40
 have HC5 := Aside0.mk H
 clear H
 go_enter Try.func65, Try.ntmps65
 go_upto_region 3 with (first | ((with_reducible refine gate_callee (f := 81) rfl ?_); refine goesL_ (some 12) rfl rfl Try.func81 (by kernel_rfl) rfl #[.int .i64 a0] rfl gl ?_; (with_reducible refine (format_Widths.calls a0 t160 t161 _ A3.out).mono ?_); rintro e w' ⟨rfl, ⟨nd, rfl⟩⟩; refine ⟨_, rfl, ?_⟩) | ((with_reducible refine gate_callee (f := 98) rfl ?_); refine goesL_ (some 18) rfl rfl Try.func98 (by kernel_rfl) rfl #[.int .i64 a0, .int .u32 a1] rfl gl ?_; (with_reducible refine (format_Parts.calls a0 a1 t162 t163 t164 _ A4.out).mono ?_); rintro e w' ⟨rfl, ⟨nd, rfl⟩⟩; refine ⟨_, rfl, ?_⟩))
 (try simp only [Act.put, sb, sz, ss])
 go_cut [22] (fun v22 wc => ∃ (kq : Nat) (x22_4 : Bool), v22 = .bool x22_4 ∧ Aside0 (format_Class.j0 kq a0 t161 t163 t164 x22_4 = some r) ∧ Aside0 (kq ≤ k) ∧ Drawn0 w wc)
 case first =>
  have H := HC5.out
  clear HC5
  by_cases c6 : t163 = 0
  ·rw [if_pos c6] at H
   have c6b0 : (t163 == 0) = true := beq_iff_eq.mpr c6
   have c6b1 : (t163 != 0) = false := bne_eq_false_iff_eq.mpr c6
   clear c6
   (first | rw [c6b0] | (simp only [i64_w, i32_w]; rw [c6b0]) | skip)
   have H' := Aside0.mk H
   clear H
   go_wp2
   go_meet
   case rel => exact ⟨_, ((t164 == 0)), (by first | rfl | (simp; done) | (simp [*]; done) | (congr 1; (try unfold wrap64); omega) | (congr 1; rw [IntKind.wrap_u64]; omega)), H', ⟨by first | omega | exact Nat.le_refl _⟩, by repeat (first | exact Drawn0.refl _ | apply Drawn0.step)⟩
  ·rw [if_neg c6] at H
   have c6b0 : (t163 == 0) = false := beq_eq_false_iff_ne.mpr c6
   have c6b1 : (t163 != 0) = true := bne_iff_ne.mpr c6
   (first | rw [c6b0] | (simp only [i64_w, i32_w]; rw [c6b0]) | skip)
   have H' := Aside0.mk H
   clear H
   go_wp2
   go_meet
   case rel => exact ⟨_, (false), (by first | rfl | (simp; done) | (simp [*]; done) | (congr 1; (try unfold wrap64); omega) | (congr 1; rw [IntKind.wrap_u64]; omega)), H', ⟨by first | omega | exact Nat.le_refl _⟩, by repeat (first | exact Drawn0.refl _ | apply Drawn0.step)⟩
 case rest =>
  clear HC5
  try clear p2 c6 c6b0 c6b1 p6
  obtain ⟨kq, x22_4, rfl, HA, HJ4, ⟨mc4, rfl⟩⟩ := hcut
  cases kq with
  |zero => exact absurd HA.out (by simp [format_Class.j0])
  |succ kj4 =>
   have H := HA.out
   clear HA
   simp only [format_Class.j0] at H
   by_cases c7 : x22_4 = true
   ·subst c7
    have H1 : (some 0) = some r := by rw [if_pos rfl] at H; exact H
    clear H
    have H := H1
    clear H1
    obtain rfl := Option.some.inj H
    go_wp2
    go_ret
    exact ⟨by first | rfl | (simp; done) | (simp [*]; done) | (congr 1; (try unfold wrap64); omega) | (congr 1; rw [IntKind.wrap_u64]; omega), by repeat (first | exact Drawn0.refl _ | apply Drawn0.step)⟩
   ·replace c7 := Bool.eq_false_iff.mpr c7
    subst c7
    have H1 : (if t163 = 0 then (some 1) else ((format_Top.f a0).bind fun t165 => (if t163 < t165 then (some 2) else (if t164 = 0 then (some 3) else (if 0 ≤ (IntKind.u64.wrap (wrap64 (t161 - 1))) then (if (shr .u32 t164 (IntKind.u64.wrap (wrap64 (t161 - 1)))) = 1 then (some 4) else (some 5)) else (none)))))) = some r := by rw [if_neg (show ¬ (false = true) by decide)] at H; exact H
    clear H
    have H := H1
    clear H1
    by_cases c8 : t163 = 0
    ·rw [if_pos c8] at H
     have c8b0 : (t163 == 0) = true := beq_iff_eq.mpr c8
     have c8b1 : (t163 != 0) = false := bne_eq_false_iff_eq.mpr c8
     clear c8
     obtain rfl := Option.some.inj H
     go_wp2
     go_ret
     exact ⟨by first | rfl | (simp; done) | (simp [*]; done) | (congr 1; (try unfold wrap64); omega) | (congr 1; rw [IntKind.wrap_u64]; omega), by repeat (first | exact Drawn0.refl _ | apply Drawn0.step)⟩
    ·rw [if_neg c8] at H
     have c8b0 : (t163 == 0) = false := beq_eq_false_iff_ne.mpr c8
     have c8b1 : (t163 != 0) = true := bne_iff_ne.mpr c8
     replace H := Option.bind_eq_some_iff.mp H
     obtain ⟨t165, A90, H⟩ := H
     replace H : (if t163 < t165 then (some 2) else (if t164 = 0 then (some 3) else (if 0 ≤ (IntKind.u64.wrap (wrap64 (t161 - 1))) then (if (shr .u32 t164 (IntKind.u64.wrap (wrap64 (t161 - 1)))) = 1 then (some 4) else (some 5)) else (none)))) = some r := H
     have A9 := Aside0.mk A90
     clear A90
     by_cases c10 : t163 < t165
     ·rw [if_pos c10] at H
      have c10b0 : decide (t163 < t165) = true := decide_eq_true c10
      clear c10
      obtain rfl := Option.some.inj H
      go_wp2_with (first | ((with_reducible refine gate_callee (f := 86) rfl ?_); refine goesL_ (some 35) rfl rfl Try.func86 (by kernel_rfl) rfl #[.int .i64 a0] rfl gl ?_; (with_reducible refine (format_Top.calls a0 t165 _ A9.out).mono ?_); rintro e w' ⟨rfl, ⟨nd, rfl⟩⟩; refine ⟨_, rfl, ?_⟩))
      go_ret
      exact ⟨by first | rfl | (simp; done) | (simp [*]; done) | (congr 1; (try unfold wrap64); omega) | (congr 1; rw [IntKind.wrap_u64]; omega), by repeat (first | exact Drawn0.refl _ | apply Drawn0.step)⟩
     ·rw [if_neg c10] at H
      have c10b0 : decide (t163 < t165) = false := decide_eq_false c10
      clear c10
      by_cases c11 : t164 = 0
      ·rw [if_pos c11] at H
       have c11b0 : (t164 == 0) = true := beq_iff_eq.mpr c11
       have c11b1 : (t164 != 0) = false := bne_eq_false_iff_eq.mpr c11
       clear c11
       obtain rfl := Option.some.inj H
       go_wp2_with (first | ((with_reducible refine gate_callee (f := 86) rfl ?_); refine goesL_ (some 35) rfl rfl Try.func86 (by kernel_rfl) rfl #[.int .i64 a0] rfl gl ?_; (with_reducible refine (format_Top.calls a0 t165 _ A9.out).mono ?_); rintro e w' ⟨rfl, ⟨nd, rfl⟩⟩; refine ⟨_, rfl, ?_⟩))
       go_ret
       exact ⟨by first | rfl | (simp; done) | (simp [*]; done) | (congr 1; (try unfold wrap64); omega) | (congr 1; rw [IntKind.wrap_u64]; omega), by repeat (first | exact Drawn0.refl _ | apply Drawn0.step)⟩
      ·rw [if_neg c11] at H
       have c11b0 : (t164 == 0) = false := beq_eq_false_iff_ne.mpr c11
       have c11b1 : (t164 != 0) = true := bne_iff_ne.mpr c11
       obtain ⟨ji12, hji12⟩ : ∃ j_ : Int, (IntKind.u64.wrap (wrap64 (t161 - 1))) = j_ := ⟨_, rfl⟩
       replace H : (if 0 ≤ (ji12) then (if (shr .u32 t164 (ji12)) = 1 then (some 4) else (some 5)) else (none)) = some r := by first | (rw [hji12] at H; exact H) | (simp only [hji12] at H ⊢; exact H)
       (try rw [hji12] at A9)
       by_cases c13 : 0 ≤ (ji12)
       ·rw [if_pos c13] at H
        have c13b0 := eq_true c13
        have c13b1 : decide (0 ≤ (ji12)) = true := decide_eq_true c13
        clear c13
        obtain ⟨ji14, hji14⟩ : ∃ j_ : Int, (shr .u32 t164 (ji12)) = j_ := ⟨_, rfl⟩
        replace H : (if (ji14) = 1 then (some 4) else (some 5)) = some r := by first | (rw [hji14] at H; exact H) | (simp only [hji14] at H ⊢; exact H)
        (try rw [hji14] at A9)
        have hji14_ : (t164 / 2 ^ min (ji12).toNat 32) = ji14 := hji14
        have hji14z : (ji12) ≤ 32 → (t164 / 2 ^ (ji12).toNat) = ji14 := shr_small hji14
        by_cases c15 : (ji14) = 1
        ·rw [if_pos c15] at H
         have c15b0 : ((ji14) == 1) = true := beq_iff_eq.mpr c15
         have c15b1 : ((ji14) != 1) = false := bne_eq_false_iff_eq.mpr c15
         clear c15
         obtain rfl := Option.some.inj H
         go_wp2_with (first | ((with_reducible refine gate_callee (f := 86) rfl ?_); refine goesL_ (some 35) rfl rfl Try.func86 (by kernel_rfl) rfl #[.int .i64 a0] rfl gl ?_; (with_reducible refine (format_Top.calls a0 t165 _ A9.out).mono ?_); rintro e w' ⟨rfl, ⟨nd, rfl⟩⟩; refine ⟨_, rfl, ?_⟩))
         go_ret
         exact ⟨by first | rfl | (simp; done) | (simp only [← hji12, ← hji14] <;> (first | rfl | (simp; done))) | (simp [*]; done) | (congr 1; (try unfold wrap64); omega) | (congr 1; rw [IntKind.wrap_u64]; omega), by repeat (first | exact Drawn0.refl _ | apply Drawn0.step)⟩
        ·rw [if_neg c15] at H
         have c15b0 : ((ji14) == 1) = false := beq_eq_false_iff_ne.mpr c15
         have c15b1 : ((ji14) != 1) = true := bne_iff_ne.mpr c15
         obtain rfl := Option.some.inj H
         go_wp2_with (first | ((with_reducible refine gate_callee (f := 86) rfl ?_); refine goesL_ (some 35) rfl rfl Try.func86 (by kernel_rfl) rfl #[.int .i64 a0] rfl gl ?_; (with_reducible refine (format_Top.calls a0 t165 _ A9.out).mono ?_); rintro e w' ⟨rfl, ⟨nd, rfl⟩⟩; refine ⟨_, rfl, ?_⟩))
         go_ret
         exact ⟨by first | rfl | (simp; done) | (simp only [← hji12, ← hji14] <;> (first | rfl | (simp; done))) | (simp [*]; done) | (congr 1; (try unfold wrap64); omega) | (congr 1; rw [IntKind.wrap_u64]; omega), by repeat (first | exact Drawn0.refl _ | apply Drawn0.step)⟩
       ·rw [if_neg c13] at H
        exact absurd H (by simp)

/-! ### format_Nan: function 99 -/
def format_Nan.f (a0 : Int) : Option (Int) := (format_Widths.f a0).bind fun bt166 => ((format_Top.f a0).bind fun t168 => (if 0 ≤ (IntKind.u64.wrap (wrap64 (bt166.2 - 1))) then ((format_Join.f a0 false t168 (shl .u32 1 (IntKind.u64.wrap (wrap64 (bt166.2 - 1))))).bind fun t169 => (some t169)) else (none)))
set_option maxHeartbeats 8000000 in
set_option maxRecDepth 100000 in
theorem format_Nan.calls (a0 : Int) (r : Int) (w : World) (h : format_Nan.f a0 = some r) :
  Calls Try.prog 99 #[.int .i64 a0] w fun e w' => e = .returned (.int .u32 r) ∧ Drawn0 w w' := by
 have H : ((format_Widths.f a0).bind fun bt166 => ((format_Top.f a0).bind fun t168 => (if 0 ≤ (IntKind.u64.wrap (wrap64 (bt166.2 - 1))) then ((format_Join.f a0 false t168 (shl .u32 1 (IntKind.u64.wrap (wrap64 (bt166.2 - 1))))).bind fun t169 => (some t169)) else (none)))) = some r := h
 clear h
 replace H := Option.bind_eq_some_iff.mp H
 obtain ⟨⟨t166, t167⟩, A20, H⟩ := H
 replace H : ((format_Top.f a0).bind fun t168 => (if 0 ≤ (IntKind.u64.wrap (wrap64 (t167 - 1))) then ((format_Join.f a0 false t168 (shl .u32 1 (IntKind.u64.wrap (wrap64 (t167 - 1))))).bind fun t169 => (some t169)) else (none))) = some r := H
 have A2 := Aside0.mk A20
 clear A20
 replace H := Option.bind_eq_some_iff.mp H
 obtain ⟨t168, A30, H⟩ := H
 replace H : (if 0 ≤ (IntKind.u64.wrap (wrap64 (t167 - 1))) then ((format_Join.f a0 false t168 (shl .u32 1 (IntKind.u64.wrap (wrap64 (t167 - 1))))).bind fun t169 => (some t169)) else (none)) = some r := H
 have A3 := Aside0.mk A30
 clear A30
 obtain ⟨ji4, hji4⟩ : ∃ j_ : Int, (IntKind.u64.wrap (wrap64 (t167 - 1))) = j_ := ⟨_, rfl⟩
 replace H : (if 0 ≤ (ji4) then ((format_Join.f a0 false t168 (shl .u32 1 (ji4))).bind fun t169 => (some t169)) else (none)) = some r := by first | (rw [hji4] at H; exact H) | (simp only [hji4] at H ⊢; exact H)
 (try rw [hji4] at A2)
 (try rw [hji4] at A3)
 by_cases c5 : 0 ≤ (ji4)
 ·rw [if_pos c5] at H
  have c5b0 := eq_true c5
  have c5b1 : decide (0 ≤ (ji4)) = true := decide_eq_true c5
  clear c5
  obtain ⟨ji6, hji6⟩ : ∃ j_ : Int, (shl .u32 1 (ji4)) = j_ := ⟨_, rfl⟩
  replace H : ((format_Join.f a0 false t168 (ji6)).bind fun t169 => (some t169)) = some r := by first | (rw [hji6] at H; exact H) | (simp only [hji6] at H ⊢; exact H)
  (try rw [hji6] at A2)
  (try rw [hji6] at A3)
  have hji6_ : (IntKind.u32.wrap (1 * 2 ^ min (ji4).toNat 32)) = ji6 := hji6
  have hji6z : (ji4) ≤ 32 → (IntKind.u32.wrap (1 * 2 ^ (ji4).toNat)) = ji6 := shl_small hji6
  have hji6u : (IntKind.u32.wrap (2 ^ min (ji4).toNat 32)) = ji6 := by have h_ := hji6_; rw [Int.one_mul] at h_; exact h_
  have hji6v : (ji4) ≤ 32 → (IntKind.u32.wrap (2 ^ (ji4).toNat)) = ji6 := fun hle_ => by have h_ := hji6z hle_; rw [Int.one_mul] at h_; exact h_
  replace H := Option.bind_eq_some_iff.mp H
  obtain ⟨t169, A70, H⟩ := H
  replace H : (some t169) = some r := H
  have A7 := Aside0.mk A70
  clear A70
  obtain rfl := Option.some.inj H
  go_enter Try.func99, Try.ntmps99
  go_wp2_with (first | ((with_reducible refine gate_callee (f := 81) rfl ?_); refine goesL_ (some 7) rfl rfl Try.func81 (by kernel_rfl) rfl #[.int .i64 a0] rfl gl ?_; (with_reducible refine (format_Widths.calls a0 t166 t167 _ A2.out).mono ?_); rintro e w' ⟨rfl, ⟨nd, rfl⟩⟩; refine ⟨_, rfl, ?_⟩) | ((with_reducible refine gate_callee (f := 86) rfl ?_); refine goesL_ (some 12) rfl rfl Try.func86 (by kernel_rfl) rfl #[.int .i64 a0] rfl gl ?_; (with_reducible refine (format_Top.calls a0 t168 _ A3.out).mono ?_); rintro e w' ⟨rfl, ⟨nd, rfl⟩⟩; refine ⟨_, rfl, ?_⟩) | ((with_reducible refine gate_callee (f := 88) rfl ?_); refine goesL_ (some 17) rfl rfl Try.func88 (by kernel_rfl) rfl #[.int .i64 a0, .bool false, .int .i64 t168, .int .u32 ji6] rfl (by (try simp only [List.map_toArray, List.map_cons, List.map_nil]); first | done | (simp only [hji6]; rfl) | rfl | (simp only [List.length_drop, List.length_take]; rfl)) ?_; (with_reducible refine (format_Join.calls a0 false t168 ji6 t169 _ A7.out).mono ?_); rintro e w' ⟨rfl, ⟨nd, rfl⟩⟩; refine ⟨_, rfl, ?_⟩))
  go_ret
  exact ⟨by first | rfl | (simp; done) | (simp only [← hji4, ← hji6] <;> (first | rfl | (simp; done))) | (simp [*]; done) | (congr 1; (try unfold wrap64); omega) | (congr 1; rw [IntKind.wrap_u64]; omega), by repeat (first | exact Drawn0.refl _ | apply Drawn0.step)⟩
 ·rw [if_neg c5] at H
  exact absurd H (by simp)


/-! ### sum_Nans: function 63 -/
def sum_Nans.l0 : Nat → Int → Bool → List Int → Int → Int → Bool → Bool → Bool → Bool → Bool → Option (Int × Bool × Bool × Bool × Bool × Bool × Bool)
 |0, _, _, _, _, _, _, _, _, _, _ => none
 |k + 1, x0, x7, x12, x13, x14, x172000, x172001, x172002, x172003, x172004 => if x14 < x13 then (if 0 ≤ x14 then (if x14 < (x12.length : Int) then ((format_Class.f k x0 (rd x12 x14)).bind fun t173 => (if x7 = true then (if x172000 = true then (sum_Nans.l0 k x0 true x12 x13 (wrap64 (x14 + 1)) true x172001 x172002 x172003 x172004) else (sum_Nans.l0 k x0 true x12 x13 (wrap64 (x14 + 1)) (t173 == 5) x172001 x172002 x172003 x172004)) else (if x172000 = true then (sum_Nans.l0 k x0 (decide (t173 ≥ 4)) x12 x13 (wrap64 (x14 + 1)) true x172001 x172002 x172003 x172004) else (sum_Nans.l0 k x0 (decide (t173 ≥ 4)) x12 x13 (wrap64 (x14 + 1)) (t173 == 5) x172001 x172002 x172003 x172004)))) else (none)) else (none)) else ((format_Nan.f x0).bind fun t174 => (some (t174, x172000, x172001, x172002, x172003, x172004, x7)))
def sum_Nans.f (k : Nat) (a0 : Int) (l1 : List Int) : Option (Int × Bool × Bool × Bool × Bool × Bool × Bool) := sum_Nans.l0 k a0 false l1 (l1.length : Int) 0 false false false false false
theorem sum_Nans.mono_l : ∀ k, (∀ y0 y1 y2 y3 y4 y5 y6 y7 y8 y9, LeO (sum_Nans.l0 k y0 y1 y2 y3 y4 y5 y6 y7 y8 y9) (sum_Nans.l0 (k + 1) y0 y1 y2 y3 y4 y5 y6 y7 y8 y9))
 |0 => fun _ _ _ _ _ _ _ _ _ _ r h => by simp [sum_Nans.l0] at h
 |k + 1 => by
  have ih0 := sum_Nans.mono_l k
  ·intro y0 y1 y2 y3 y4 y5 y6 y7 y8 y9
   unfold sum_Nans.l0
   repeat' first
   |(with_reducible exact ih0 _ _ _ _ _ _ _ _ _ _)
   |(with_reducible exact format_Class.mono _ _ _)
   |(with_reducible exact LeO.refl _)
   |(with_reducible exact LeO.none _)
   |(with_reducible refine LeO.ite ?_ ?_)
   |(with_reducible refine LeO.bind ?_ (fun _ => ?_))
   |exact ih0 _ _ _ _ _ _ _ _ _ _
   |exact format_Class.mono _ _ _
   |exact LeO.none _
   |refine LeO.ite ?_ ?_
   |refine LeO.bind ?_ (fun _ => ?_)
theorem sum_Nans.mono : ∀ a0 a1 k, LeO (sum_Nans.f k a0 a1) (sum_Nans.f (k + 1) a0 a1) := by
 intro a0 a1 k
 have ih0 := sum_Nans.mono_l k
 unfold sum_Nans.f
 repeat' first
   |(with_reducible exact ih0 _ _ _ _ _ _ _ _ _ _)
   |(with_reducible exact format_Class.mono _ _ _)
   |(with_reducible exact LeO.refl _)
   |(with_reducible exact LeO.none _)
   |(with_reducible refine LeO.ite ?_ ?_)
   |(with_reducible refine LeO.bind ?_ (fun _ => ?_))
   |exact ih0 _ _ _ _ _ _ _ _ _ _
   |exact format_Class.mono _ _ _
   |exact LeO.none _
   |refine LeO.ite ?_ ?_
   |refine LeO.bind ?_ (fun _ => ?_)
set_option maxHeartbeats 8000000 in
set_option maxRecDepth 100000 in
theorem sum_Nans.calls (k : Nat) (a0 : Int) (A1 : Option Addr) (c1 : Nat) (l1 : List Int) (r1 : Int) (r2 : Bool) (r3 : Bool) (r4 : Bool) (r5 : Bool) (r6 : Bool) (r7 : Bool) (w : World) (hr1 : Kd.C (Kd.int .u32) w A1 l1.length l1) (hc1 : l1.length ≤ c1) (h : sum_Nans.f k a0 l1 = some (r1, r2, r3, r4, r5, r6, r7)) :
  Calls Try.prog 63 #[.int .i64 a0, .slice A1 l1.length c1] w fun e w' => e = .returned (.tuple #[.int .u32 r1, .agg #[.bool r2, .bool r3, .bool r4, .bool r5, .bool r6], .bool r7]) ∧ Below w.heap.size w w' := by
 have hu41 := Try.underlying41
 have HR1 := Aside0.mk hr1
 have HC1 := Aside0.mk hc1
 clear hr1 hc1
 have HB := Aside0.mk (Below.refl w.heap.size w)
 have H : (sum_Nans.l0 k a0 false l1 (l1.length : Int) 0 false false false false false) = some (r1, r2, r3, r4, r5, r6, r7) := h
 clear h
 have H' := Aside0.mk H
 clear H
 go_enter Try.func63, Try.ntmps63
 go_wp2_with (first | ((with_reducible refine gate_dst (N := 5) rfl ?_); refine box_event ?hg (N := 5) ?hd (cs := F5) (t := 41) ?hr ?_; (case hd => rfl); (case hg => rfl); (case hr => first | (go_simp; done) | (go_simp; rfl)); intro gb170 hg w3 hbox hb; have n0_ := Aside0.mk (below_step (bl0 HB.out) hb); have n1_ := Aside0.mk (hbox); have n2_ := Aside0.mk ((by rw [hg]; exact (below_size (bl0 HB.out)) : w.heap.size ≤ gb170)); have n3_ := n2_; clear HB; have HB := n0_; have BK170 := n1_; have GW170 := n2_; have GE170 := n3_; clear n0_ n1_ n2_ n3_; clear hb hbox hg) | ((with_reducible refine gate_dst (N := 8) rfl ?_); refine box_event ?hg (N := 8) ?hd (cs := F5) (t := 41) ?hr ?_; (case hd => rfl); (case hg => rfl); (case hr => first | (go_simp; done) | (go_simp; rfl)); intro gb171 hg w4 hbox hb; have n0_ := Aside0.mk (blk_below (g := gb170) (o := o5_ false false false false false 41) (bv BK170.out) hb); have n1_ := Aside0.mk (below_step (bl1 HB.out GE170.out) hb); have n2_ := Aside0.mk (hbox); have n3_ := Aside0.mk ((by rw [hg]; exact (below_size (bl1 HB.out GE170.out)) : w.heap.size ≤ gb171)); have n4_ := n3_; have n5_ := Aside0.mk ((by rw [hg]; exact Nat.ne_of_lt (blk_lt (g := gb170) (o := .cells F5 41 (0, 0)) (bv BK170.out)) : gb170 ≠ gb171)); have n6_ := Aside0.mk (Ne.symm n5_.out); clear BK170; clear HB; have BK170 := n0_; have HB := n1_; have BK171 := n2_; have GW171 := n3_; have GE171 := n4_; have NB170_171 := n5_; have NB171_170 := n6_; clear n0_ n1_ n2_ n3_ n4_ n5_ n6_; clear hb hbox hg))
 go_loopg [7, 14] k (fun kq v7 v14 w' => ∃ (x7_1 : Bool) (x14_1 : Int) (x172000_1 : Bool), v7 = .bool x7_1 ∧ v14 = .int .i64 x14_1 ∧ Aside0 (sum_Nans.l0 kq a0 x7_1 l1 (l1.length : Int) x14_1 x172000_1 false false false false = some (r1, r2, r3, r4, r5, r6, r7)) ∧ Aside0 (kq ≤ k) ∧ Aside0 (w'.heap[gb170]? = some (o5_ false false false false false 41)) ∧ Aside0 (w'.heap[gb171]? = some (o5_ x172000_1 false false false false 41)) ∧ Aside0 (Below w.heap.size w w'))
 case atStart => exact ⟨(false), (0), (false), (by first | rfl | (simp; done) | (simp [*]; done) | (congr 1; (try unfold wrap64); omega) | (congr 1; rw [IntKind.wrap_u64]; omega)), (by first | rfl | (simp; done) | (simp [*]; done) | (congr 1; (try unfold wrap64); omega) | (congr 1; rw [IntKind.wrap_u64]; omega)), H', ⟨Nat.le_refl _⟩, ⟨by (with_reducible repeat first | apply bd | apply be | apply ba); exact BK170.out⟩, ⟨by (with_reducible repeat first | apply bd | apply be | apply ba); exact BK171.out⟩, ⟨bl2 HB.out GE170.out GE171.out⟩⟩
 case round =>
  clear H'
  try clear c1 p2
  obtain ⟨x7_1, x14_1, x172000_1, rfl, rfl, HA, HK1, BK170, BK171, HB⟩ := hrel
  cases gk with
  |zero => exact absurd HA.out (by simp [sum_Nans.l0])
  |succ k1 =>
   have H := HA.out
   clear HA
   simp only [sum_Nans.l0] at H
   by_cases c5 : x14_1 < (l1.length : Int)
   ·rw [if_pos c5] at H
    have c5b0 : decide (x14_1 < (l1.length : Int)) = true := decide_eq_true c5
    clear c5
    by_cases c6 : 0 ≤ x14_1
    ·rw [if_pos c6] at H
     have c6b0 : decide (0 ≤ x14_1) = true := decide_eq_true c6
     clear c6
     by_cases c7 : x14_1 < (l1.length : Int)
     ·rw [if_pos c7] at H
      have c7b0 : decide (x14_1 < (l1.length : Int)) = true := decide_eq_true c7
      clear c7
      replace H := Option.bind_eq_some_iff.mp H
      obtain ⟨t173, A80, H⟩ := H
      replace H : (if x7_1 = true then (if x172000_1 = true then (sum_Nans.l0 k1 a0 true l1 (l1.length : Int) (wrap64 (x14_1 + 1)) true false false false false) else (sum_Nans.l0 k1 a0 true l1 (l1.length : Int) (wrap64 (x14_1 + 1)) (t173 == 5) false false false false)) else (if x172000_1 = true then (sum_Nans.l0 k1 a0 (decide (t173 ≥ 4)) l1 (l1.length : Int) (wrap64 (x14_1 + 1)) true false false false false) else (sum_Nans.l0 k1 a0 (decide (t173 ≥ 4)) l1 (l1.length : Int) (wrap64 (x14_1 + 1)) (t173 == 5) false false false false))) = some (r1, r2, r3, r4, r5, r6, r7) := H
      have A8 := Aside0.mk A80
      clear A80
      by_cases c9 : x7_1 = true
      ·subst c9
       have H1 : (if x172000_1 = true then (sum_Nans.l0 k1 a0 true l1 (l1.length : Int) (wrap64 (x14_1 + 1)) true false false false false) else (sum_Nans.l0 k1 a0 true l1 (l1.length : Int) (wrap64 (x14_1 + 1)) (t173 == 5) false false false false)) = some (r1, r2, r3, r4, r5, r6, r7) := by rw [if_pos rfl] at H; exact H
       clear H
       have H := H1
       clear H1
       by_cases c10 : x172000_1 = true
       ·subst c10
        have H1 : (sum_Nans.l0 k1 a0 true l1 (l1.length : Int) (wrap64 (x14_1 + 1)) true false false false false) = some (r1, r2, r3, r4, r5, r6, r7) := by rw [if_pos rfl] at H; exact H
        clear H
        have H := H1
        clear H1
        have H' := Aside0.mk H
        clear H
        have p172 : 0 ≤ (x14_1 : Int) := of_decide_eq_true (by first | (with_reducible assumption) | assumption)
        have q172 : x14_1 < (l1.length : Int) := of_decide_eq_true (by first | (with_reducible assumption) | assumption)
        obtain ⟨ad172, e172, hx172_0⟩ := Kd.at_int HR1.out x14_1 p172 q172
        cases e172
        replace hx172_0 := (HB.out.cell (World.block_lt_of_cell? w _ hx172_0)).trans hx172_0
        replace p172 := eq_true p172
        replace q172 := eq_true q172
        go_wp2_with (first | ((with_reducible refine gate_callee (f := 65) rfl ?_); refine goesL_ (some 20) rfl rfl Try.func65 (by kernel_rfl) rfl #[.int .i64 a0, .int .u32 (rd l1 x14_1)] rfl gl ?_; (with_reducible refine (format_Class.calls k1 a0 (rd l1 x14_1) t173 _ A8.out).mono ?_); rintro e w' ⟨rfl, ⟨nd, rfl⟩⟩; refine ⟨_, rfl, ?_⟩; (try (rw [drewN_self wr]; generalize hq_ : World.drewN wr _ = wr; have n0_ : Aside0 (wr.heap[gb170]? = some (o5_ false false false false false 41)) := ⟨by rw [← hq_]; exact (bv BK170.out)⟩; have n1_ : Aside0 (wr.heap[gb171]? = some (o5_ true false false false false 41)) := ⟨by rw [← hq_]; exact (bv BK171.out)⟩; have n2_ : Aside0 (Below w.heap.size w wr) := ⟨by rw [← hq_]; exact (bl2 HB.out GE170.out GE171.out)⟩; clear BK170 BK171 HB hq_; have BK170 := n0_; have BK171 := n1_; have HB := n2_; clear n0_ n1_ n2_)); have hnb11 := NB171_170.out; have hnc11 := NB170_171.out; obtain ⟨hcz12_0, hcz12_1, hcz12_2, hcz12_3, hcz12_4⟩ := bc5 BK171.out; obtain ⟨hfz12_0, hfz12_1, hfz12_2, hfz12_3, hfz12_4⟩ := bf5 BK171.out))
        go_roundg k1
        case measure => have := HK1.out; omega
        case rel => exact ⟨(true), (wrap64 (x14_1 + 1)), (true), (by first | rfl | (simp; done) | (simp [*]; done) | (congr 1; (try unfold wrap64); omega) | (congr 1; rw [IntKind.wrap_u64]; omega)), (by first | rfl | (simp; done) | (simp [*]; done) | (congr 1; (try unfold wrap64); omega) | (congr 1; rw [IntKind.wrap_u64]; omega)), H', ⟨by have := HK1.out; omega⟩, ⟨by (with_reducible repeat first | apply bd | apply be | apply ba); refine blk_far ?_ NB170_171.out _; (with_reducible repeat first | apply bd | apply be | apply ba); exact BK170.out⟩, ⟨by (with_reducible repeat first | apply bd | apply be | apply ba); refine blk_put (cs := q5_ true false false false false) ?_ 0 _ rfl; (with_reducible repeat first | apply bd | apply be | apply ba); exact BK171.out⟩, ⟨bl2 HB.out GE170.out GE171.out⟩⟩
       ·replace c10 := Bool.eq_false_iff.mpr c10
        subst c10
        have H1 : (sum_Nans.l0 k1 a0 true l1 (l1.length : Int) (wrap64 (x14_1 + 1)) (t173 == 5) false false false false) = some (r1, r2, r3, r4, r5, r6, r7) := by rw [if_neg (show ¬ (false = true) by decide)] at H; exact H
        clear H
        have H := H1
        clear H1
        have H' := Aside0.mk H
        clear H
        have p172 : 0 ≤ (x14_1 : Int) := of_decide_eq_true (by first | (with_reducible assumption) | assumption)
        have q172 : x14_1 < (l1.length : Int) := of_decide_eq_true (by first | (with_reducible assumption) | assumption)
        obtain ⟨ad172, e172, hx172_0⟩ := Kd.at_int HR1.out x14_1 p172 q172
        cases e172
        replace hx172_0 := (HB.out.cell (World.block_lt_of_cell? w _ hx172_0)).trans hx172_0
        replace p172 := eq_true p172
        replace q172 := eq_true q172
        go_wp2_with (first | ((with_reducible refine gate_callee (f := 65) rfl ?_); refine goesL_ (some 20) rfl rfl Try.func65 (by kernel_rfl) rfl #[.int .i64 a0, .int .u32 (rd l1 x14_1)] rfl gl ?_; (with_reducible refine (format_Class.calls k1 a0 (rd l1 x14_1) t173 _ A8.out).mono ?_); rintro e w' ⟨rfl, ⟨nd, rfl⟩⟩; refine ⟨_, rfl, ?_⟩; (try (rw [drewN_self wr]; generalize hq_ : World.drewN wr _ = wr; have n0_ : Aside0 (wr.heap[gb170]? = some (o5_ false false false false false 41)) := ⟨by rw [← hq_]; exact (bv BK170.out)⟩; have n1_ : Aside0 (wr.heap[gb171]? = some (o5_ false false false false false 41)) := ⟨by rw [← hq_]; exact (bv BK171.out)⟩; have n2_ : Aside0 (Below w.heap.size w wr) := ⟨by rw [← hq_]; exact (bl2 HB.out GE170.out GE171.out)⟩; clear BK170 BK171 HB hq_; have BK170 := n0_; have BK171 := n1_; have HB := n2_; clear n0_ n1_ n2_)); have hnb13 := NB171_170.out; have hnc13 := NB170_171.out; obtain ⟨hcz14_0, hcz14_1, hcz14_2, hcz14_3, hcz14_4⟩ := bc5 BK171.out; obtain ⟨hfz14_0, hfz14_1, hfz14_2, hfz14_3, hfz14_4⟩ := bf5 BK171.out))
        go_roundg k1
        case measure => have := HK1.out; omega
        case rel => exact ⟨(true), (wrap64 (x14_1 + 1)), ((t173 == 5)), (by first | rfl | (simp; done) | (simp [*]; done) | (congr 1; (try unfold wrap64); omega) | (congr 1; rw [IntKind.wrap_u64]; omega)), (by first | rfl | (simp; done) | (simp [*]; done) | (congr 1; (try unfold wrap64); omega) | (congr 1; rw [IntKind.wrap_u64]; omega)), H', ⟨by have := HK1.out; omega⟩, ⟨by (with_reducible repeat first | apply bd | apply be | apply ba); refine blk_far ?_ NB170_171.out _; (with_reducible repeat first | apply bd | apply be | apply ba); exact BK170.out⟩, ⟨by (with_reducible repeat first | apply bd | apply be | apply ba); refine blk_put (cs := F5) ?_ 0 _ rfl; (with_reducible repeat first | apply bd | apply be | apply ba); exact BK171.out⟩, ⟨bl2 HB.out GE170.out GE171.out⟩⟩
      ·replace c9 := Bool.eq_false_iff.mpr c9
       subst c9
       have H1 : (if x172000_1 = true then (sum_Nans.l0 k1 a0 (decide (t173 ≥ 4)) l1 (l1.length : Int) (wrap64 (x14_1 + 1)) true false false false false) else (sum_Nans.l0 k1 a0 (decide (t173 ≥ 4)) l1 (l1.length : Int) (wrap64 (x14_1 + 1)) (t173 == 5) false false false false)) = some (r1, r2, r3, r4, r5, r6, r7) := by rw [if_neg (show ¬ (false = true) by decide)] at H; exact H
       clear H
       have H := H1
       clear H1
       by_cases c15 : x172000_1 = true
       ·subst c15
        have H1 : (sum_Nans.l0 k1 a0 (decide (t173 ≥ 4)) l1 (l1.length : Int) (wrap64 (x14_1 + 1)) true false false false false) = some (r1, r2, r3, r4, r5, r6, r7) := by rw [if_pos rfl] at H; exact H
        clear H
        have H := H1
        clear H1
        have H' := Aside0.mk H
        clear H
        have p172 : 0 ≤ (x14_1 : Int) := of_decide_eq_true (by first | (with_reducible assumption) | assumption)
        have q172 : x14_1 < (l1.length : Int) := of_decide_eq_true (by first | (with_reducible assumption) | assumption)
        obtain ⟨ad172, e172, hx172_0⟩ := Kd.at_int HR1.out x14_1 p172 q172
        cases e172
        replace hx172_0 := (HB.out.cell (World.block_lt_of_cell? w _ hx172_0)).trans hx172_0
        replace p172 := eq_true p172
        replace q172 := eq_true q172
        go_wp2_with (first | ((with_reducible refine gate_callee (f := 65) rfl ?_); refine goesL_ (some 20) rfl rfl Try.func65 (by kernel_rfl) rfl #[.int .i64 a0, .int .u32 (rd l1 x14_1)] rfl gl ?_; (with_reducible refine (format_Class.calls k1 a0 (rd l1 x14_1) t173 _ A8.out).mono ?_); rintro e w' ⟨rfl, ⟨nd, rfl⟩⟩; refine ⟨_, rfl, ?_⟩; (try (rw [drewN_self wr]; generalize hq_ : World.drewN wr _ = wr; have n0_ : Aside0 (wr.heap[gb170]? = some (o5_ false false false false false 41)) := ⟨by rw [← hq_]; exact (bv BK170.out)⟩; have n1_ : Aside0 (wr.heap[gb171]? = some (o5_ true false false false false 41)) := ⟨by rw [← hq_]; exact (bv BK171.out)⟩; have n2_ : Aside0 (Below w.heap.size w wr) := ⟨by rw [← hq_]; exact (bl2 HB.out GE170.out GE171.out)⟩; clear BK170 BK171 HB hq_; have BK170 := n0_; have BK171 := n1_; have HB := n2_; clear n0_ n1_ n2_)); have hnb16 := NB171_170.out; have hnc16 := NB170_171.out; obtain ⟨hcz17_0, hcz17_1, hcz17_2, hcz17_3, hcz17_4⟩ := bc5 BK171.out; obtain ⟨hfz17_0, hfz17_1, hfz17_2, hfz17_3, hfz17_4⟩ := bf5 BK171.out))
        go_roundg k1
        case measure => have := HK1.out; omega
        case rel => exact ⟨(decide (t173 ≥ 4)), (wrap64 (x14_1 + 1)), (true), (by first | rfl | (simp; done) | (simp [*]; done) | (congr 1; (try unfold wrap64); omega) | (congr 1; rw [IntKind.wrap_u64]; omega)), (by first | rfl | (simp; done) | (simp [*]; done) | (congr 1; (try unfold wrap64); omega) | (congr 1; rw [IntKind.wrap_u64]; omega)), H', ⟨by have := HK1.out; omega⟩, ⟨by (with_reducible repeat first | apply bd | apply be | apply ba); refine blk_far ?_ NB170_171.out _; (with_reducible repeat first | apply bd | apply be | apply ba); exact BK170.out⟩, ⟨by (with_reducible repeat first | apply bd | apply be | apply ba); refine blk_put (cs := q5_ true false false false false) ?_ 0 _ rfl; (with_reducible repeat first | apply bd | apply be | apply ba); exact BK171.out⟩, ⟨bl2 HB.out GE170.out GE171.out⟩⟩
       ·replace c15 := Bool.eq_false_iff.mpr c15
        subst c15
        have H1 : (sum_Nans.l0 k1 a0 (decide (t173 ≥ 4)) l1 (l1.length : Int) (wrap64 (x14_1 + 1)) (t173 == 5) false false false false) = some (r1, r2, r3, r4, r5, r6, r7) := by rw [if_neg (show ¬ (false = true) by decide)] at H; exact H
        clear H
        have H := H1
        clear H1
        have H' := Aside0.mk H
        clear H
        have p172 : 0 ≤ (x14_1 : Int) := of_decide_eq_true (by first | (with_reducible assumption) | assumption)
        have q172 : x14_1 < (l1.length : Int) := of_decide_eq_true (by first | (with_reducible assumption) | assumption)
        obtain ⟨ad172, e172, hx172_0⟩ := Kd.at_int HR1.out x14_1 p172 q172
        cases e172
        replace hx172_0 := (HB.out.cell (World.block_lt_of_cell? w _ hx172_0)).trans hx172_0
        replace p172 := eq_true p172
        replace q172 := eq_true q172
        go_wp2_with (first | ((with_reducible refine gate_callee (f := 65) rfl ?_); refine goesL_ (some 20) rfl rfl Try.func65 (by kernel_rfl) rfl #[.int .i64 a0, .int .u32 (rd l1 x14_1)] rfl gl ?_; (with_reducible refine (format_Class.calls k1 a0 (rd l1 x14_1) t173 _ A8.out).mono ?_); rintro e w' ⟨rfl, ⟨nd, rfl⟩⟩; refine ⟨_, rfl, ?_⟩; (try (rw [drewN_self wr]; generalize hq_ : World.drewN wr _ = wr; have n0_ : Aside0 (wr.heap[gb170]? = some (o5_ false false false false false 41)) := ⟨by rw [← hq_]; exact (bv BK170.out)⟩; have n1_ : Aside0 (wr.heap[gb171]? = some (o5_ false false false false false 41)) := ⟨by rw [← hq_]; exact (bv BK171.out)⟩; have n2_ : Aside0 (Below w.heap.size w wr) := ⟨by rw [← hq_]; exact (bl2 HB.out GE170.out GE171.out)⟩; clear BK170 BK171 HB hq_; have BK170 := n0_; have BK171 := n1_; have HB := n2_; clear n0_ n1_ n2_)); have hnb18 := NB171_170.out; have hnc18 := NB170_171.out; obtain ⟨hcz19_0, hcz19_1, hcz19_2, hcz19_3, hcz19_4⟩ := bc5 BK171.out; obtain ⟨hfz19_0, hfz19_1, hfz19_2, hfz19_3, hfz19_4⟩ := bf5 BK171.out))
        go_roundg k1
        case measure => have := HK1.out; omega
        case rel => exact ⟨(decide (t173 ≥ 4)), (wrap64 (x14_1 + 1)), ((t173 == 5)), (by first | rfl | (simp; done) | (simp [*]; done) | (congr 1; (try unfold wrap64); omega) | (congr 1; rw [IntKind.wrap_u64]; omega)), (by first | rfl | (simp; done) | (simp [*]; done) | (congr 1; (try unfold wrap64); omega) | (congr 1; rw [IntKind.wrap_u64]; omega)), H', ⟨by have := HK1.out; omega⟩, ⟨by (with_reducible repeat first | apply bd | apply be | apply ba); refine blk_far ?_ NB170_171.out _; (with_reducible repeat first | apply bd | apply be | apply ba); exact BK170.out⟩, ⟨by (with_reducible repeat first | apply bd | apply be | apply ba); refine blk_put (cs := F5) ?_ 0 _ rfl; (with_reducible repeat first | apply bd | apply be | apply ba); exact BK171.out⟩, ⟨bl2 HB.out GE170.out GE171.out⟩⟩
     ·rw [if_neg c7] at H
      exact absurd H (by simp)
    ·rw [if_neg c6] at H
     exact absurd H (by simp)
   ·rw [if_neg c5] at H
    have c5b0 : decide (x14_1 < (l1.length : Int)) = false := decide_eq_false c5
    clear c5
    replace H := Option.bind_eq_some_iff.mp H
    obtain ⟨t174, A200, H⟩ := H
    replace H : (some (t174, x172000_1, false, false, false, false, x7_1)) = some (r1, r2, r3, r4, r5, r6, r7) := H
    have A20 := Aside0.mk A200
    clear A200
    simp only [Option.some.injEq, Prod.mk.injEq] at H
    obtain ⟨rfl, rfl, rfl, rfl, rfl, rfl, rfl⟩ := H
    try go_wp2
    have n0_ := Aside0.mk (blk_drew BK170.out)
    have n1_ := Aside0.mk (blk_drew BK171.out)
    have n2_ := Aside0.mk (below_drew1 HB.out)
    clear BK170
    clear BK171
    clear HB
    have BK170 := n0_
    have BK171 := n1_
    have HB := n2_
    clear n0_ n1_ n2_
    refine start_ (n := 7) (S := fun w' => w'.cell? ⟨gb171, 0, none⟩ = some (.bool x172000_1) ∧ w'.cell? ⟨gb171, 1, none⟩ = some (.bool false) ∧ w'.cell? ⟨gb171, 2, none⟩ = some (.bool false) ∧ w'.cell? ⟨gb171, 3, none⟩ = some (.bool false) ∧ w'.cell? ⟨gb171, 4, none⟩ = some (.bool false)) (ds := []) (tf 0 7) (by kernel_rfl) rfl rfl ⟨(blk_cell BK171.out 0).trans rfl, (blk_cell BK171.out 1).trans rfl, (blk_cell BK171.out 2).trans rfl, (blk_cell BK171.out 3).trans rfl, (blk_cell BK171.out 4).trans rfl⟩ (fun hHeld => ?_)
    generalize wr.drew = w21 at BK170 BK171 HB hHeld ⊢
    refine pure_ (i := 0) (N := some 34) (v := ?_) (a' := ?_) (tf 1 6) rfl rfl (by kernel_rfl) (fun _ _ _ h => h) (Or.inl ⟨by rfl, ?_⟩) ?_ ?_
    rotate_left
    ·intro w'
     go_simp
     with_reducible rfl
    rotate_left
    ·simp only [Act.put, sb, sz, ss, i64_w, i32_w]
     rfl
    refine pure_ (i := 3) (N := some 37) (v := ?_) (a' := ?_) #[true, false, false, true, false, false, false] rfl rfl (by kernel_rfl) (fun _ _ _ h => h) (Or.inl ⟨by rfl, ?_⟩) ?_ ?_
    rotate_left
    ·intro w'
     go_simp
     with_reducible rfl
    rotate_left
    ·simp only [Act.put, sb, sz, ss, i64_w, i32_w]
     rfl
    refine take_ (i := 2) (N := some 36) (v := ?_) (a' := ?_) #[true, false, true, true, false, false, false] rfl rfl (by kernel_rfl) (fun _ _ _ h => h) (Or.inl ⟨by rfl, ?_⟩) hHeld ?_ ?_
    rotate_left
    ·rintro w' ⟨s0, s1, s2, s3, s4⟩
     go_simp
     with_reducible rfl
    rotate_left
    ·simp only [Act.put, sb, sz, ss, i64_w, i32_w]
     rfl
    refine one_ (i := 1) (N := some 35) (tf 4 3) rfl rfl (by kernel_rfl) (by decide) (fun K hK => ?_)
    refine goes_ Try.func99 (by kernel_rfl) rfl #[.int .i64 a0] (by rfl) rfl rfl gl ?_
    with_reducible refine (format_Nan.calls a0 t174 _ A20.out).mono ?_
    rintro e w' ⟨rfl, ⟨nd, rfl⟩⟩
    refine ⟨_, rfl, ?_⟩
    refine hK.out _ _ ⟨(blk_cell BK171.out 0).trans rfl, (blk_cell BK171.out 1).trans rfl, (blk_cell BK171.out 2).trans rfl, (blk_cell BK171.out 3).trans rfl, (blk_cell BK171.out 4).trans rfl⟩ (fun hHeld => ?_)
    clear hK K
    refine norm_ (a' := ?_) ?_ ?_
    rotate_left
    ·show Act.put _ (some 35) _ = _
     simp only [Act.put, sb, sz, ss, i64_w, i32_w]
     rfl
    refine pure_ (i := 4) (N := some 4) (v := ?_) (a' := ?_) (tf 5 2) rfl rfl (by kernel_rfl) (fun _ _ _ h => h) (Or.inl ⟨by rfl, ?_⟩) ?_ ?_
    rotate_left
    ·intro w'
     go_simp
     with_reducible rfl
    rotate_left
    ·simp only [Act.put, sb, sz, ss, i64_w, i32_w]
     rfl
    refine one_ (i := 5) (N := none) (tf 6 1) rfl rfl (by kernel_rfl) (by decide) (fun K hK => ?_)
    have hs22 : w21.cell? ⟨gb170, 0, none⟩ = some (.bool false) := (blk_cell BK170.out 0).trans rfl
    have hfs22 := blk_frozen BK170.out 0
    have hns22_1 := NB171_170.out
    have hms22_1 := NB170_171.out
    have hs23 : w21.cell? ⟨gb170, 1, none⟩ = some (.bool false) := (blk_cell BK170.out 1).trans rfl
    have hfs23 := blk_frozen BK170.out 1
    have hns23_1 := NB171_170.out
    have hms23_1 := NB170_171.out
    have hs24 : w21.cell? ⟨gb170, 2, none⟩ = some (.bool false) := (blk_cell BK170.out 2).trans rfl
    have hfs24 := blk_frozen BK170.out 2
    have hns24_1 := NB171_170.out
    have hms24_1 := NB170_171.out
    have hs25 : w21.cell? ⟨gb170, 3, none⟩ = some (.bool false) := (blk_cell BK170.out 3).trans rfl
    have hfs25 := blk_frozen BK170.out 3
    have hns25_1 := NB171_170.out
    have hms25_1 := NB170_171.out
    have hs26 : w21.cell? ⟨gb170, 4, none⟩ = some (.bool false) := (blk_cell BK170.out 4).trans rfl
    have hfs26 := blk_frozen BK170.out 4
    have hns26_1 := NB171_170.out
    have hms26_1 := NB170_171.out
    refine skip_ (w1 := ?_) (by rfl) rfl ?_ ?_
    rotate_left
    ·go_simp
     rfl
    refine hK.out _ _ ⟨(cf5 NB171_170.out (hHeld.1)), (cf5 NB171_170.out (hHeld.2.1)), (cf5 NB171_170.out (hHeld.2.2.1)), (cf5 NB171_170.out (hHeld.2.2.2.1)), (cf5 NB171_170.out (hHeld.2.2.2.2))⟩ (fun hHeld => ?_)
    clear hK K
    refine pure_ (i := 6) (N := some 6) (v := ?_) (a' := ?_) (tf 7 0) rfl rfl (by kernel_rfl) (fun _ _ _ h => h) (Or.inl ⟨by rfl, ?_⟩) ?_ ?_
    rotate_left
    ·intro w'
     go_simp
     with_reducible rfl
    rotate_left
    ·simp only [Act.put, sb, sz, ss, i64_w, i32_w]
     rfl
    refine done_ (by kernel_rfl) ?_
    try go_wp2
    refine bodyPost_ret (results_list (rs := [.tmp 4, .cell 5 41, .tmp 6]) rfl (by simp) (.tmp (.cell gb170 41 #[.bool x172000_1, .bool false, .bool false, .bool false, .bool false] (0, 0) _ rfl (by (with_reducible repeat first | apply bd | apply be | apply ba); refine blk_put (cs := q5_ x172000_1 false false false false) ?_ 4 _ rfl; (with_reducible repeat first | apply bd | apply be | apply ba); refine blk_put (cs := q5_ x172000_1 false false false false) ?_ 3 _ rfl; (with_reducible repeat first | apply bd | apply be | apply ba); refine blk_put (cs := q5_ x172000_1 false false false false) ?_ 2 _ rfl; (with_reducible repeat first | apply bd | apply be | apply ba); refine blk_put (cs := q5_ x172000_1 false false false false) ?_ 1 _ rfl; (with_reducible repeat first | apply bd | apply be | apply ba); refine blk_put (cs := F5) ?_ 0 _ rfl; (with_reducible repeat first | apply bd | apply be | apply ba); exact BK170.out) Try.underlying41 rfl (by kernel_rfl) (.tmp .nil)))) rfl ?_
    exact ⟨by first | rfl | (simp [errW_none, errW_some] <;> rfl) | (simp [*, errW_none, errW_some] <;> rfl), bl2 HB.out GE170.out GE171.out⟩

/-! ### format_IsZero: function 74 -/
def format_IsZero.f (k : Nat) (a0 : Int) (a1 : Int) : Option (Bool) := (format_Class.f k a0 a1).bind fun t175 => (some (t175 == 0))
theorem format_IsZero.mono : ∀ a0 a1 k, LeO (format_IsZero.f k a0 a1) (format_IsZero.f (k + 1) a0 a1) := by
 intro a0 a1 k
 unfold format_IsZero.f
 repeat' first
   |(with_reducible exact format_Class.mono _ _ _)
   |(with_reducible exact LeO.refl _)
   |(with_reducible exact LeO.none _)
   |(with_reducible refine LeO.ite ?_ ?_)
   |(with_reducible refine LeO.bind ?_ (fun _ => ?_))
   |exact format_Class.mono _ _ _
   |exact LeO.none _
   |refine LeO.ite ?_ ?_
   |refine LeO.bind ?_ (fun _ => ?_)
set_option maxHeartbeats 8000000 in
set_option maxRecDepth 100000 in
theorem format_IsZero.calls (k : Nat) (a0 : Int) (a1 : Int) (r : Bool) (w : World) (h : format_IsZero.f k a0 a1 = some r) :
  Calls Try.prog 74 #[.int .i64 a0, .int .u32 a1] w fun e w' => e = .returned (.bool r) ∧ Drawn0 w w' := by
 have H : ((format_Class.f k a0 a1).bind fun t175 => (some (t175 == 0))) = some r := h
 clear h
 replace H := Option.bind_eq_some_iff.mp H
 obtain ⟨t175, A30, H⟩ := H
 replace H : (some (t175 == 0)) = some r := H
 have A3 := Aside0.mk A30
 clear A30
 obtain rfl := Option.some.inj H
 go_enter Try.func74, Try.ntmps74
 go_wp2_with (first | ((with_reducible refine gate_callee (f := 65) rfl ?_); refine goesL_ (some 7) rfl rfl Try.func65 (by kernel_rfl) rfl #[.int .i64 a0, .int .u32 a1] rfl gl ?_; (with_reducible refine (format_Class.calls k a0 a1 t175 _ A3.out).mono ?_); rintro e w' ⟨rfl, ⟨nd, rfl⟩⟩; refine ⟨_, rfl, ?_⟩))
 go_ret
 exact ⟨by first | rfl | (simp; done) | (simp [*]; done) | (congr 1; (try unfold wrap64); omega) | (congr 1; rw [IntKind.wrap_u64]; omega), by repeat (first | exact Drawn0.refl _ | apply Drawn0.step)⟩

/-! ### format_IsInf: function 75 -/
def format_IsInf.f (k : Nat) (a0 : Int) (a1 : Int) : Option (Bool) := (format_Class.f k a0 a1).bind fun t176 => (some (t176 == 3))
theorem format_IsInf.mono : ∀ a0 a1 k, LeO (format_IsInf.f k a0 a1) (format_IsInf.f (k + 1) a0 a1) := by
 intro a0 a1 k
 unfold format_IsInf.f
 repeat' first
   |(with_reducible exact format_Class.mono _ _ _)
   |(with_reducible exact LeO.refl _)
   |(with_reducible exact LeO.none _)
   |(with_reducible refine LeO.ite ?_ ?_)
   |(with_reducible refine LeO.bind ?_ (fun _ => ?_))
   |exact format_Class.mono _ _ _
   |exact LeO.none _
   |refine LeO.ite ?_ ?_
   |refine LeO.bind ?_ (fun _ => ?_)
set_option maxHeartbeats 8000000 in
set_option maxRecDepth 100000 in
theorem format_IsInf.calls (k : Nat) (a0 : Int) (a1 : Int) (r : Bool) (w : World) (h : format_IsInf.f k a0 a1 = some r) :
  Calls Try.prog 75 #[.int .i64 a0, .int .u32 a1] w fun e w' => e = .returned (.bool r) ∧ Drawn0 w w' := by
 have H : ((format_Class.f k a0 a1).bind fun t176 => (some (t176 == 3))) = some r := h
 clear h
 replace H := Option.bind_eq_some_iff.mp H
 obtain ⟨t176, A30, H⟩ := H
 replace H : (some (t176 == 3)) = some r := H
 have A3 := Aside0.mk A30
 clear A30
 obtain rfl := Option.some.inj H
 go_enter Try.func75, Try.ntmps75
 go_wp2_with (first | ((with_reducible refine gate_callee (f := 65) rfl ?_); refine goesL_ (some 7) rfl rfl Try.func65 (by kernel_rfl) rfl #[.int .i64 a0, .int .u32 a1] rfl gl ?_; (with_reducible refine (format_Class.calls k a0 a1 t176 _ A3.out).mono ?_); rintro e w' ⟨rfl, ⟨nd, rfl⟩⟩; refine ⟨_, rfl, ?_⟩))
 go_ret
 exact ⟨by first | rfl | (simp; done) | (simp [*]; done) | (congr 1; (try unfold wrap64); omega) | (congr 1; rw [IntKind.wrap_u64]; omega), by repeat (first | exact Drawn0.refl _ | apply Drawn0.step)⟩

/-! ### format_Mask: function 80 -/
def format_Mask.f (a0 : Int) : Option (Int) := (format_Widths.f a0).bind fun bt177 => (if 0 ≤ (IntKind.u64.wrap (wrap64 ((wrap64 (bt177.1 + bt177.2)) + 1))) then (some (((shl .u32 1 (IntKind.u64.wrap (wrap64 ((wrap64 (bt177.1 + bt177.2)) + 1)))) - 1) % 4294967296)) else (none))
set_option maxHeartbeats 8000000 in
set_option maxRecDepth 100000 in
theorem format_Mask.calls (a0 : Int) (r : Int) (w : World) (h : format_Mask.f a0 = some r) :
  Calls Try.prog 80 #[.int .i64 a0] w fun e w' => e = .returned (.int .u32 r) ∧ Drawn0 w w' := by
 have H : ((format_Widths.f a0).bind fun bt177 => (if 0 ≤ (IntKind.u64.wrap (wrap64 ((wrap64 (bt177.1 + bt177.2)) + 1))) then (some (((shl .u32 1 (IntKind.u64.wrap (wrap64 ((wrap64 (bt177.1 + bt177.2)) + 1)))) - 1) % 4294967296)) else (none))) = some r := h
 clear h
 replace H := Option.bind_eq_some_iff.mp H
 obtain ⟨⟨t177, t178⟩, A20, H⟩ := H
 replace H : (if 0 ≤ (IntKind.u64.wrap (wrap64 ((wrap64 (t177 + t178)) + 1))) then (some (((shl .u32 1 (IntKind.u64.wrap (wrap64 ((wrap64 (t177 + t178)) + 1)))) - 1) % 4294967296)) else (none)) = some r := H
 have A2 := Aside0.mk A20
 clear A20
 obtain ⟨ji3, hji3⟩ : ∃ j_ : Int, (IntKind.u64.wrap (wrap64 ((wrap64 (t177 + t178)) + 1))) = j_ := ⟨_, rfl⟩
 replace H : (if 0 ≤ (ji3) then (some (((shl .u32 1 (ji3)) - 1) % 4294967296)) else (none)) = some r := by first | (rw [hji3] at H; exact H) | (simp only [hji3] at H ⊢; exact H)
 (try rw [hji3] at A2)
 by_cases c4 : 0 ≤ (ji3)
 ·rw [if_pos c4] at H
  have c4b0 := eq_true c4
  have c4b1 : decide (0 ≤ (ji3)) = true := decide_eq_true c4
  clear c4
  obtain ⟨ji5, hji5⟩ : ∃ j_ : Int, (shl .u32 1 (ji3)) = j_ := ⟨_, rfl⟩
  replace H : (some (((ji5) - 1) % 4294967296)) = some r := by first | (rw [hji5] at H; exact H) | (simp only [hji5] at H ⊢; exact H)
  (try rw [hji5] at A2)
  have hji5_ : (IntKind.u32.wrap (1 * 2 ^ min (ji3).toNat 32)) = ji5 := hji5
  have hji5z : (ji3) ≤ 32 → (IntKind.u32.wrap (1 * 2 ^ (ji3).toNat)) = ji5 := shl_small hji5
  have hji5u : (IntKind.u32.wrap (2 ^ min (ji3).toNat 32)) = ji5 := by have h_ := hji5_; rw [Int.one_mul] at h_; exact h_
  have hji5v : (ji3) ≤ 32 → (IntKind.u32.wrap (2 ^ (ji3).toNat)) = ji5 := fun hle_ => by have h_ := hji5z hle_; rw [Int.one_mul] at h_; exact h_
  obtain ⟨ji6, hji6⟩ : ∃ j_ : Int, (((ji5) - 1) % 4294967296) = j_ := ⟨_, rfl⟩
  replace H : (some ji6) = some r := by first | (rw [hji6] at H; exact H) | (simp only [hji6] at H ⊢; exact H)
  (try rw [hji6] at A2)
  have hji6l : 0 ≤ ji6 := by rw [← hji6]; exact Int.emod_nonneg _ (by decide)
  have hji6h : ji6 ≤ 4294967295 := by have := Int.emod_lt_of_pos (((ji5) - 1)) (show (0 : Int) < 4294967296 by decide); omega
  have hji6w : (IntKind.u32.wrap ((ji5) - 1)) = ji6 := (u32_w _).trans hji6
  (try (have hji6_ := hji6; simp only [Int.add_emod_emod, Int.emod_add_emod, Int.sub_emod_emod, Int.emod_sub_emod] at hji6_))
  obtain rfl := Option.some.inj H
  go_enter Try.func80, Try.ntmps80
  go_wp2_with (first | ((with_reducible refine gate_callee (f := 81) rfl ?_); refine goesL_ (some 7) rfl rfl Try.func81 (by kernel_rfl) rfl #[.int .i64 a0] rfl gl ?_; (with_reducible refine (format_Widths.calls a0 t177 t178 _ A2.out).mono ?_); rintro e w' ⟨rfl, ⟨nd, rfl⟩⟩; refine ⟨_, rfl, ?_⟩))
  go_ret
  exact ⟨by first | rfl | (simp; done) | (simp only [← hji3, ← hji5, ← hji6] <;> (first | rfl | (simp; done))) | (simp [*]; done) | (congr 1; (try unfold wrap64); omega) | (congr 1; rw [IntKind.wrap_u64]; omega), by repeat (first | exact Drawn0.refl _ | apply Drawn0.step)⟩
 ·rw [if_neg c4] at H
  exact absurd H (by simp)

end Go.Proofs.Ytngkpekmgahjiaa.P
