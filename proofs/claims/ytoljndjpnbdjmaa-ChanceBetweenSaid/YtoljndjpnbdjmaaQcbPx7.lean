import Derived.Test.YtoljndjpnbdjmaaQcbZ
import Derived.Test.YtoljndjpnbdjmaaQcbM1
import Derived.Test.YtoljndjpnbdjmaaQcbPx5
import Derived.Test.YtoljndjpnbdjmaaQcbM2
-- Printed by a program of this session's out of Lean's print of the translation; Lean checks it.
namespace Go.Proofs.Ytoljndjpnbdjmaa.P
open Go.RowKit Go.Proofs.YtoljndjpnbdjmaaW.PrintWords Go.Proofs.YtoljndjpnbdjmaaW.PrintLast Go.Proofs.YtoljndjpnbdjmaaW.PrintMore
attribute [local go_sem] max2_int min2_int max_two min_two max_three min_three max_four min_four   -- for this text's walks alone
set_option linter.unusedVariables false
set_option linter.unusedSimpArgs false

/-! ### round_Pack: function 17 -/
mutual
def round_Pack.j0 : Nat → Int → Int → Bool → Int → Int → Bool → Bool → Option (Int × Bool × Bool × Bool × Bool × Bool)
 |0, _, _, _, _, _, _, _ => none
 |k + 1, x0, x1, x2, x3, x4, x5, x29 => if x29 = true then ((format_Zero.f x0 x2).bind fun t134 => (some (t134, false, false, false, false, false))) else ((format_Widths.f x0).bind fun bt135 => ((round_Unit.f k x0 x3 x4).bind fun t137 => ((round_Units.f k x4 (wrap64 (t137 - x3)) x5).bind fun bt138 => ((round_Up.f x1 x2 bt138.1 bt138.2).bind fun t140 => (if t140 = true then (round_Pack.j1 k x0 x1 x2 x3 x4 bt135.2 t137 (IntKind.u64.wrap (bt138.1 + 1)) bt138.2) else (round_Pack.j1 k x0 x1 x2 x3 x4 bt135.2 t137 bt138.1 bt138.2))))))
def round_Pack.j1 : Nat → Int → Int → Bool → Int → Int → Int → Int → Int → Int → Option (Int × Bool × Bool × Bool × Bool × Bool)
 |0, _, _, _, _, _, _, _, _, _ => none
 |k + 1, x0, x1, x2, x3, x4, x15, x16, x17, x18 => if 0 ≤ (IntKind.u64.wrap (wrap64 (x15 + 1))) then (if (shr .u64 x17 (IntKind.u64.wrap (wrap64 (x15 + 1)))) = 0 then (round_Pack.j2 k x0 x1 x2 x3 x4 x15 x16 x17 x18) else (round_Pack.j2 k x0 x1 x2 x3 x4 x15 (wrap64 (x16 + 1)) (x17 / 2) x18)) else (none)
def round_Pack.j2 : Nat → Int → Int → Bool → Int → Int → Int → Int → Int → Int → Option (Int × Bool × Bool × Bool × Bool × Bool)
 |0, _, _, _, _, _, _, _, _, _ => none
 |k + 1, x0, x1, x2, x3, x4, x15, x16, x17, x18 => (format_Least.f x0).bind fun t141 => (if 0 ≤ (IntKind.u64.wrap (x15)) then (if (shr .u64 x17 (IntKind.u64.wrap (x15))) = 0 then (round_Pack.j3 k x0 x1 x2 x3 x4 x15 x17 x18 0) else (round_Pack.j3 k x0 x1 x2 x3 x4 x15 x17 x18 (wrap64 ((wrap64 ((wrap64 (x16 + x15)) - t141)) + 1)))) else (none))
def round_Pack.j3 : Nat → Int → Int → Bool → Int → Int → Int → Int → Int → Int → Option (Int × Bool × Bool × Bool × Bool × Bool)
 |0, _, _, _, _, _, _, _, _, _ => none
 |k + 1, x0, x1, x2, x3, x4, x15, x17, x18, x19 => (format_Top.f x0).bind fun t142 => (if x19 ≥ t142 then ((round_beyond.f x0 x1 x2).bind fun bt143 => (some (bt143.1, bt143.2.1, bt143.2.2.1, bt143.2.2.2.1, bt143.2.2.2.2.1, bt143.2.2.2.2.2))) else (if x18 = 0 then ((bits_Cut.f x17 x15).bind fun t150 => ((format_Join.f x0 x2 x19 ((t150) % 4294967296)).bind fun t151 => (some (t151, false, false, false, false, (x18 != 0))))) else (if x4 = 0 then ((bits_Cut.f x17 x15).bind fun t152 => ((format_Join.f x0 x2 x19 ((t152) % 4294967296)).bind fun t153 => (some (t153, false, false, false, true, (x18 != 0))))) else ((bits_Len.f k x4).bind fun t154 => ((format_Least.f x0).bind fun t155 => ((bits_Cut.f x17 x15).bind fun t156 => ((format_Join.f x0 x2 x19 ((t156) % 4294967296)).bind fun t157 => (some (t157, false, false, false, decide ((wrap64 ((wrap64 (x3 + t154)) - 1)) < t155), (x18 != 0))))))))))
end
def round_Pack.f (k : Nat) (a0 : Int) (a1 : Int) (a2 : Bool) (a3 : Int) (a4 : Int) (a5 : Bool) : Option (Int × Bool × Bool × Bool × Bool × Bool) := if a4 = 0 then (round_Pack.j0 k a0 a1 a2 (mn (mx a3 (-10000)) 10000) a4 a5 (!a5)) else (round_Pack.j0 k a0 a1 a2 (mn (mx a3 (-10000)) 10000) a4 a5 false)
theorem round_Pack.mono_l : ∀ k, (∀ y0 y1 y2 y3 y4 y5 y6, LeO (round_Pack.j0 k y0 y1 y2 y3 y4 y5 y6) (round_Pack.j0 (k + 1) y0 y1 y2 y3 y4 y5 y6)) ∧ (∀ y0 y1 y2 y3 y4 y5 y6 y7 y8, LeO (round_Pack.j1 k y0 y1 y2 y3 y4 y5 y6 y7 y8) (round_Pack.j1 (k + 1) y0 y1 y2 y3 y4 y5 y6 y7 y8)) ∧ (∀ y0 y1 y2 y3 y4 y5 y6 y7 y8, LeO (round_Pack.j2 k y0 y1 y2 y3 y4 y5 y6 y7 y8) (round_Pack.j2 (k + 1) y0 y1 y2 y3 y4 y5 y6 y7 y8)) ∧ (∀ y0 y1 y2 y3 y4 y5 y6 y7 y8, LeO (round_Pack.j3 k y0 y1 y2 y3 y4 y5 y6 y7 y8) (round_Pack.j3 (k + 1) y0 y1 y2 y3 y4 y5 y6 y7 y8))
 |0 => ⟨fun _ _ _ _ _ _ _ r h => by simp [round_Pack.j0] at h, fun _ _ _ _ _ _ _ _ _ r h => by simp [round_Pack.j1] at h, fun _ _ _ _ _ _ _ _ _ r h => by simp [round_Pack.j2] at h, fun _ _ _ _ _ _ _ _ _ r h => by simp [round_Pack.j3] at h⟩
 |k + 1 => by
  obtain ⟨ih0, ih1, ih2, ih3⟩ := round_Pack.mono_l k
  refine ⟨?_, ?_, ?_, ?_⟩
  ·intro y0 y1 y2 y3 y4 y5 y6
   unfold round_Pack.j0
   repeat' first
   |(with_reducible exact ih0 _ _ _ _ _ _ _)
   |(with_reducible exact ih1 _ _ _ _ _ _ _ _ _)
   |(with_reducible exact ih2 _ _ _ _ _ _ _ _ _)
   |(with_reducible exact ih3 _ _ _ _ _ _ _ _ _)
   |(with_reducible exact bits_Len.mono _ _)
   |(with_reducible exact round_Unit.mono _ _ _ _)
   |(with_reducible exact round_Units.mono _ _ _ _)
   |(with_reducible exact LeO.refl _)
   |(with_reducible exact LeO.none _)
   |(with_reducible refine LeO.ite ?_ ?_)
   |(with_reducible refine LeO.bind ?_ (fun _ => ?_))
   |exact ih0 _ _ _ _ _ _ _
   |exact ih1 _ _ _ _ _ _ _ _ _
   |exact ih2 _ _ _ _ _ _ _ _ _
   |exact ih3 _ _ _ _ _ _ _ _ _
   |exact bits_Len.mono _ _
   |exact round_Unit.mono _ _ _ _
   |exact round_Units.mono _ _ _ _
   |exact LeO.none _
   |refine LeO.ite ?_ ?_
   |refine LeO.bind ?_ (fun _ => ?_)
  ·intro y0 y1 y2 y3 y4 y5 y6 y7 y8
   unfold round_Pack.j1
   repeat' first
   |(with_reducible exact ih0 _ _ _ _ _ _ _)
   |(with_reducible exact ih1 _ _ _ _ _ _ _ _ _)
   |(with_reducible exact ih2 _ _ _ _ _ _ _ _ _)
   |(with_reducible exact ih3 _ _ _ _ _ _ _ _ _)
   |(with_reducible exact bits_Len.mono _ _)
   |(with_reducible exact round_Unit.mono _ _ _ _)
   |(with_reducible exact round_Units.mono _ _ _ _)
   |(with_reducible exact LeO.refl _)
   |(with_reducible exact LeO.none _)
   |(with_reducible refine LeO.ite ?_ ?_)
   |(with_reducible refine LeO.bind ?_ (fun _ => ?_))
   |exact ih0 _ _ _ _ _ _ _
   |exact ih1 _ _ _ _ _ _ _ _ _
   |exact ih2 _ _ _ _ _ _ _ _ _
   |exact ih3 _ _ _ _ _ _ _ _ _
   |exact bits_Len.mono _ _
   |exact round_Unit.mono _ _ _ _
   |exact round_Units.mono _ _ _ _
   |exact LeO.none _
   |refine LeO.ite ?_ ?_
   |refine LeO.bind ?_ (fun _ => ?_)
  ·intro y0 y1 y2 y3 y4 y5 y6 y7 y8
   unfold round_Pack.j2
   repeat' first
   |(with_reducible exact ih0 _ _ _ _ _ _ _)
   |(with_reducible exact ih1 _ _ _ _ _ _ _ _ _)
   |(with_reducible exact ih2 _ _ _ _ _ _ _ _ _)
   |(with_reducible exact ih3 _ _ _ _ _ _ _ _ _)
   |(with_reducible exact bits_Len.mono _ _)
   |(with_reducible exact round_Unit.mono _ _ _ _)
   |(with_reducible exact round_Units.mono _ _ _ _)
   |(with_reducible exact LeO.refl _)
   |(with_reducible exact LeO.none _)
   |(with_reducible refine LeO.ite ?_ ?_)
   |(with_reducible refine LeO.bind ?_ (fun _ => ?_))
   |exact ih0 _ _ _ _ _ _ _
   |exact ih1 _ _ _ _ _ _ _ _ _
   |exact ih2 _ _ _ _ _ _ _ _ _
   |exact ih3 _ _ _ _ _ _ _ _ _
   |exact bits_Len.mono _ _
   |exact round_Unit.mono _ _ _ _
   |exact round_Units.mono _ _ _ _
   |exact LeO.none _
   |refine LeO.ite ?_ ?_
   |refine LeO.bind ?_ (fun _ => ?_)
  ·intro y0 y1 y2 y3 y4 y5 y6 y7 y8
   unfold round_Pack.j3
   repeat' first
   |(with_reducible exact ih0 _ _ _ _ _ _ _)
   |(with_reducible exact ih1 _ _ _ _ _ _ _ _ _)
   |(with_reducible exact ih2 _ _ _ _ _ _ _ _ _)
   |(with_reducible exact ih3 _ _ _ _ _ _ _ _ _)
   |(with_reducible exact bits_Len.mono _ _)
   |(with_reducible exact round_Unit.mono _ _ _ _)
   |(with_reducible exact round_Units.mono _ _ _ _)
   |(with_reducible exact LeO.refl _)
   |(with_reducible exact LeO.none _)
   |(with_reducible refine LeO.ite ?_ ?_)
   |(with_reducible refine LeO.bind ?_ (fun _ => ?_))
   |exact ih0 _ _ _ _ _ _ _
   |exact ih1 _ _ _ _ _ _ _ _ _
   |exact ih2 _ _ _ _ _ _ _ _ _
   |exact ih3 _ _ _ _ _ _ _ _ _
   |exact bits_Len.mono _ _
   |exact round_Unit.mono _ _ _ _
   |exact round_Units.mono _ _ _ _
   |exact LeO.none _
   |refine LeO.ite ?_ ?_
   |refine LeO.bind ?_ (fun _ => ?_)
theorem round_Pack.mono : ∀ a0 a1 a2 a3 a4 a5 k, LeO (round_Pack.f k a0 a1 a2 a3 a4 a5) (round_Pack.f (k + 1) a0 a1 a2 a3 a4 a5) := by
 intro a0 a1 a2 a3 a4 a5 k
 obtain ⟨ih0, ih1, ih2, ih3⟩ := round_Pack.mono_l k
 unfold round_Pack.f
 repeat' first
   |(with_reducible exact ih0 _ _ _ _ _ _ _)
   |(with_reducible exact ih1 _ _ _ _ _ _ _ _ _)
   |(with_reducible exact ih2 _ _ _ _ _ _ _ _ _)
   |(with_reducible exact ih3 _ _ _ _ _ _ _ _ _)
   |(with_reducible exact bits_Len.mono _ _)
   |(with_reducible exact round_Unit.mono _ _ _ _)
   |(with_reducible exact round_Units.mono _ _ _ _)
   |(with_reducible exact LeO.refl _)
   |(with_reducible exact LeO.none _)
   |(with_reducible refine LeO.ite ?_ ?_)
   |(with_reducible refine LeO.bind ?_ (fun _ => ?_))
   |exact ih0 _ _ _ _ _ _ _
   |exact ih1 _ _ _ _ _ _ _ _ _
   |exact ih2 _ _ _ _ _ _ _ _ _
   |exact ih3 _ _ _ _ _ _ _ _ _
   |exact bits_Len.mono _ _
   |exact round_Unit.mono _ _ _ _
   |exact round_Units.mono _ _ _ _
   |exact LeO.none _
   |refine LeO.ite ?_ ?_
   |refine LeO.bind ?_ (fun _ => ?_)
def round_Pack.T18 : Bool × List (List Nat × List Nat) := (true, [([], []), ([], []), ([], []), ([], []), ([], []), ([3, 4], [3, 4]), ([5], [5]), ([0, 1, 2, 6, 5], [0, 1, 2, 6]), ([], []), ([7, 7, 0, 1, 2, 3, 4, 5, 6, 7], [7]), ([8, 9, 0, 1, 2, 3, 4, 5, 6, 7, 8, 9], [8])])
def round_Pack.B18 : List Nat := [0, 0, 0, 0, 0, 24, 56, 127, 0, 255, 1023]
theorem round_Pack.tab18 : rtab .any (opsOf Try.f17 18) = round_Pack.T18 := by kernel_rfl
theorem round_Pack.bits18 : waitsOk round_Pack.T18.2 round_Pack.B18 = true := by kernel_rfl
set_option maxHeartbeats 8000000 in
set_option maxRecDepth 100000 in
theorem round_Pack.calls (k : Nat) (a0 : Int) (a1 : Int) (a2 : Bool) (a3 : Int) (a4 : Int) (a5 : Bool) (r1 : Int) (r2 : Bool) (r3 : Bool) (r4 : Bool) (r5 : Bool) (r6 : Bool) (w : World) (h : round_Pack.f k a0 a1 a2 a3 a4 a5 = some (r1, r2, r3, r4, r5, r6)) :
  Calls Try.prog 17 #[.int .i64 a0, .int .i64 a1, .bool a2, .int .i64 a3, .int .u64 a4, .bool a5] w fun e w' => e = .returned (.tuple #[.int .u32 r1, .agg #[.bool r2, .bool r3, .bool r4, .bool r5, .bool r6]]) ∧ Below w.heap.size w w' := by
 have hu30 := Try.underlying30
 have HB := Aside0.mk (Below.refl w.heap.size w)
 have H : (if a4 = 0 then (round_Pack.j0 k a0 a1 a2 (mn (mx a3 (-10000)) 10000) a4 a5 (!a5)) else (round_Pack.j0 k a0 a1 a2 (mn (mx a3 (-10000)) 10000) a4 a5 false)) = some (r1, r2, r3, r4, r5, r6) := h
 clear h
 obtain ⟨ji7, hji7⟩ : ∃ j_ : Int, (mx a3 (-10000)) = j_ := ⟨_, rfl⟩
 replace H : (if a4 = 0 then (round_Pack.j0 k a0 a1 a2 (mn (ji7) 10000) a4 a5 (!a5)) else (round_Pack.j0 k a0 a1 a2 (mn (ji7) 10000) a4 a5 false)) = some (r1, r2, r3, r4, r5, r6) := by first | (rw [hji7] at H; exact H) | (simp only [hji7] at H ⊢; exact H)
 have hji7_ : (if a3 < (-10000) then (-10000) else a3) = ji7 := hji7
 obtain ⟨ji8, hji8⟩ : ∃ j_ : Int, (mn (ji7) 10000) = j_ := ⟨_, rfl⟩
 replace H : (if a4 = 0 then (round_Pack.j0 k a0 a1 a2 ji8 a4 a5 (!a5)) else (round_Pack.j0 k a0 a1 a2 ji8 a4 a5 false)) = some (r1, r2, r3, r4, r5, r6) := by first | (rw [hji8] at H; exact H) | (simp only [hji8] at H ⊢; exact H)
 have hji8_ : (if 10000 < (ji7) then 10000 else (ji7)) = ji8 := hji8
 have HC9 := Aside0.mk H
 clear H
 go_enter Try.func17, Try.ntmps17
 go_upto_region 2 with (first | ((with_reducible refine gate_dst (N := 13) rfl ?_); refine box_event ?hg (N := 13) ?hd (cs := F5) (t := 30) ?hr ?_; (case hd => rfl); (case hg => rfl); (case hr => first | (go_simp; done) | (go_simp; rfl)); intro gb133 hg w10 hbox hb; have n0_ := Aside0.mk (below_step (bl0 HB.out) hb); have n1_ := Aside0.mk (hbox); have n2_ := Aside0.mk ((by rw [hg]; exact (below_size (bl0 HB.out)) : w.heap.size ≤ gb133)); have n3_ := n2_; clear HB; have HB := n0_; have BK133 := n1_; have GW133 := n2_; have GE133 := n3_; clear n0_ n1_ n2_ n3_; clear hb hbox hg))
 (try simp only [Act.put, sb, sz, ss])
 go_cut [29] (fun v29 wc => ∃ (kq : Nat) (x29_8 : Bool), v29 = .bool x29_8 ∧ Aside0 (round_Pack.j0 kq a0 a1 a2 ji8 a4 a5 x29_8 = some (r1, r2, r3, r4, r5, r6)) ∧ Aside0 (kq ≤ k) ∧ Aside0 (wc.heap[gb133]? = some (.cells #[.bool false, .bool false, .bool false, .bool false, .bool false] 30 (0, 0))) ∧ Aside0 (Below w.heap.size w wc))
 case first =>
  have H := HC9.out
  clear HC9
  by_cases c11 : a4 = 0
  ·rw [if_pos c11] at H
   have c11b0 : (a4 == 0) = true := beq_iff_eq.mpr c11
   have c11b1 : (a4 != 0) = false := bne_eq_false_iff_eq.mpr c11
   clear c11
   (first | rw [c11b0] | (simp only [i64_w, i32_w]; rw [c11b0]) | skip)
   have H' := Aside0.mk H
   clear H
   go_wp2
   go_meet
   case rel => exact ⟨_, (!a5), (by first | rfl | (simp; done) | (simp [*]; done) | (congr 1; (try unfold wrap64); omega) | (congr 1; rw [IntKind.wrap_u64]; omega)), H', ⟨by first | omega | exact Nat.le_refl _⟩, ⟨by (with_reducible repeat first | apply bd | apply be | apply ba); exact BK133.out⟩, ⟨bl1 HB.out GE133.out⟩⟩
  ·rw [if_neg c11] at H
   have c11b0 : (a4 == 0) = false := beq_eq_false_iff_ne.mpr c11
   have c11b1 : (a4 != 0) = true := bne_iff_ne.mpr c11
   (first | rw [c11b0] | (simp only [i64_w, i32_w]; rw [c11b0]) | skip)
   have H' := Aside0.mk H
   clear H
   go_wp2
   go_meet
   case rel => exact ⟨_, (false), (by first | rfl | (simp; done) | (simp [*]; done) | (congr 1; (try unfold wrap64); omega) | (congr 1; rw [IntKind.wrap_u64]; omega)), H', ⟨by first | omega | exact Nat.le_refl _⟩, ⟨by (with_reducible repeat first | apply bd | apply be | apply ba); exact BK133.out⟩, ⟨bl1 HB.out GE133.out⟩⟩
 case rest =>
  clear HC9
  try clear c1 p2 p6 c11 c11b0 c11b1
  obtain ⟨kq, x29_8, rfl, HA, HJ8, BK133, HB⟩ := hcut
  cases kq with
  |zero => exact absurd HA.out (by simp [round_Pack.j0])
  |succ kj8 =>
   have H := HA.out
   clear HA
   simp only [round_Pack.j0] at H
   by_cases c12 : x29_8 = true
   ·subst c12
    have H1 : ((format_Zero.f a0 a2).bind fun t134 => (some (t134, false, false, false, false, false))) = some (r1, r2, r3, r4, r5, r6) := by rw [if_pos rfl] at H; exact H
    clear H
    have H := H1
    clear H1
    replace H := Option.bind_eq_some_iff.mp H
    obtain ⟨t134, A130, H⟩ := H
    replace H : (some (t134, false, false, false, false, false)) = some (r1, r2, r3, r4, r5, r6) := H
    have A13 := Aside0.mk A130
    clear A130
    simp only [Option.some.injEq, Prod.mk.injEq] at H
    obtain ⟨rfl, rfl, rfl, rfl, rfl, rfl⟩ := H
    go_wp2_with (first | ((with_reducible refine gate_callee (f := 41) rfl ?_); refine goesL_ (some 32) rfl rfl Try.func41 (by kernel_rfl) rfl #[.int .i64 a0, .bool a2] rfl gl ?_; (with_reducible refine (format_Zero.calls a0 a2 t134 _ A13.out).mono ?_); rintro e w' ⟨rfl, ⟨nd, rfl⟩⟩; refine ⟨_, rfl, ?_⟩; (try (rw [drewN_self wc]; generalize hq_ : World.drewN wc _ = wc; have n0_ : Aside0 (wc.heap[gb133]? = some (.cells #[.bool false, .bool false, .bool false, .bool false, .bool false] 30 (0, 0))) := ⟨by rw [← hq_]; exact (bv BK133.out)⟩; have n1_ : Aside0 (Below w.heap.size w wc) := ⟨by rw [← hq_]; exact (bl1 HB.out GE133.out)⟩; clear BK133 HB hq_; have BK133 := n0_; have HB := n1_; clear n0_ n1_)); obtain ⟨hcz14_0, hcz14_1, hcz14_2, hcz14_3, hcz14_4⟩ := bc5 BK133.out; obtain ⟨hfz14_0, hfz14_1, hfz14_2, hfz14_3, hfz14_4⟩ := bf5 BK133.out))
    refine bodyPost_ret (results_tc rfl _ _ gb133 30 #[.bool false, .bool false, .bool false, .bool false, .bool false] (0, 0) _ rfl (by (with_reducible repeat first | apply bd | apply be | apply ba); refine blk_put (cs := F5) ?_ 4 _ rfl; (with_reducible repeat first | apply bd | apply be | apply ba); refine blk_put (cs := F5) ?_ 3 _ rfl; (with_reducible repeat first | apply bd | apply be | apply ba); refine blk_put (cs := F5) ?_ 2 _ rfl; (with_reducible repeat first | apply bd | apply be | apply ba); refine blk_put (cs := F5) ?_ 1 _ rfl; (with_reducible repeat first | apply bd | apply be | apply ba); refine blk_put (cs := F5) ?_ 0 _ rfl; (with_reducible repeat first | apply bd | apply be | apply ba); exact BK133.out) Try.underlying30 rfl (by kernel_rfl)) rfl ?_
    exact ⟨by first | rfl | (simp [errW_none, errW_some] <;> rfl) | (simp only [← hji7, ← hji8]; first | rfl | (simp [errW_none, errW_some] <;> rfl)) | (simp [*, errW_none, errW_some] <;> rfl), bl1 HB.out GE133.out⟩
   ·replace c12 := Bool.eq_false_iff.mpr c12
    subst c12
    have H1 : ((format_Widths.f a0).bind fun bt135 => ((round_Unit.f kj8 a0 ji8 a4).bind fun t137 => ((round_Units.f kj8 a4 (wrap64 (t137 - ji8)) a5).bind fun bt138 => ((round_Up.f a1 a2 bt138.1 bt138.2).bind fun t140 => (if t140 = true then (round_Pack.j1 kj8 a0 a1 a2 ji8 a4 bt135.2 t137 (IntKind.u64.wrap (bt138.1 + 1)) bt138.2) else (round_Pack.j1 kj8 a0 a1 a2 ji8 a4 bt135.2 t137 bt138.1 bt138.2)))))) = some (r1, r2, r3, r4, r5, r6) := by rw [if_neg (show ¬ (false = true) by decide)] at H; exact H
    clear H
    have H := H1
    clear H1
    replace H := Option.bind_eq_some_iff.mp H
    obtain ⟨⟨t135, t136⟩, A150, H⟩ := H
    replace H : ((round_Unit.f kj8 a0 ji8 a4).bind fun t137 => ((round_Units.f kj8 a4 (wrap64 (t137 - ji8)) a5).bind fun bt138 => ((round_Up.f a1 a2 bt138.1 bt138.2).bind fun t140 => (if t140 = true then (round_Pack.j1 kj8 a0 a1 a2 ji8 a4 t136 t137 (IntKind.u64.wrap (bt138.1 + 1)) bt138.2) else (round_Pack.j1 kj8 a0 a1 a2 ji8 a4 t136 t137 bt138.1 bt138.2))))) = some (r1, r2, r3, r4, r5, r6) := H
    have A15 := Aside0.mk A150
    clear A150
    replace H := Option.bind_eq_some_iff.mp H
    obtain ⟨t137, A160, H⟩ := H
    replace H : ((round_Units.f kj8 a4 (wrap64 (t137 - ji8)) a5).bind fun bt138 => ((round_Up.f a1 a2 bt138.1 bt138.2).bind fun t140 => (if t140 = true then (round_Pack.j1 kj8 a0 a1 a2 ji8 a4 t136 t137 (IntKind.u64.wrap (bt138.1 + 1)) bt138.2) else (round_Pack.j1 kj8 a0 a1 a2 ji8 a4 t136 t137 bt138.1 bt138.2)))) = some (r1, r2, r3, r4, r5, r6) := H
    have A16 := Aside0.mk A160
    clear A160
    replace H := Option.bind_eq_some_iff.mp H
    obtain ⟨⟨t138, t139⟩, A170, H⟩ := H
    replace H : ((round_Up.f a1 a2 t138 t139).bind fun t140 => (if t140 = true then (round_Pack.j1 kj8 a0 a1 a2 ji8 a4 t136 t137 (IntKind.u64.wrap (t138 + 1)) t139) else (round_Pack.j1 kj8 a0 a1 a2 ji8 a4 t136 t137 t138 t139))) = some (r1, r2, r3, r4, r5, r6) := H
    have A17 := Aside0.mk A170
    clear A170
    replace H := Option.bind_eq_some_iff.mp H
    obtain ⟨t140, A180, H⟩ := H
    replace H : (if t140 = true then (round_Pack.j1 kj8 a0 a1 a2 ji8 a4 t136 t137 (IntKind.u64.wrap (t138 + 1)) t139) else (round_Pack.j1 kj8 a0 a1 a2 ji8 a4 t136 t137 t138 t139)) = some (r1, r2, r3, r4, r5, r6) := H
    have A18 := Aside0.mk A180
    clear A180
    have HC19 := Aside0.mk H
    clear H
    go_upto_if 56 with (first | ((with_reducible refine gate_callee (f := 42) rfl ?_); refine goesL_ (some 36) rfl rfl Try.func42 (by kernel_rfl) rfl #[.int .i64 a0] rfl gl ?_; (with_reducible refine (format_Widths.calls a0 t135 t136 _ A15.out).mono ?_); rintro e w' ⟨rfl, ⟨nd, rfl⟩⟩; refine ⟨_, rfl, ?_⟩) | ((with_reducible refine gate_callee (f := 43) rfl ?_); refine goesL_ (some 42) rfl rfl Try.func43 (by kernel_rfl) rfl #[.int .i64 a0, .int .i64 ji8, .int .u64 a4] rfl (by (try simp only [List.map_toArray, List.map_cons, List.map_nil]); first | done | (simp only [hji8]; rfl) | rfl | (simp only [List.length_drop, List.length_take]; rfl)) ?_; (with_reducible refine (round_Unit.calls kj8 a0 ji8 a4 t137 _ A16.out).mono ?_); rintro e w20 ⟨rfl, hb⟩; refine ⟨_, rfl, ?_⟩; have n0_ := Aside0.mk (blk_below (g := gb133) (o := .cells #[.bool false, .bool false, .bool false, .bool false, .bool false] 30 (0, 0)) (bv BK133.out) hb); have n1_ := Aside0.mk (below_step (bl1 HB.out GE133.out) hb); clear BK133; clear HB; have BK133 := n0_; have HB := n1_; clear n0_ n1_) | ((with_reducible refine gate_callee (f := 44) rfl ?_); refine goesL_ (some 49) rfl rfl Try.func44 (by kernel_rfl) rfl #[.int .u64 a4, .int .i64 (wrap64 (t137 - ji8)), .bool a5] rfl (by (try simp only [List.map_toArray, List.map_cons, List.map_nil]); first | done | (simp only [hji8]; rfl) | rfl | (simp only [List.length_drop, List.length_take]; rfl)) ?_; (with_reducible refine (round_Units.calls kj8 a4 (wrap64 (t137 - ji8)) a5 t138 t139 _ A17.out).mono ?_); rintro e w' ⟨rfl, ⟨nd, rfl⟩⟩; refine ⟨_, rfl, ?_⟩) | ((with_reducible refine gate_callee (f := 45) rfl ?_); refine goesL_ (some 56) rfl rfl Try.func45 (by kernel_rfl) rfl #[.int .i64 a1, .bool a2, .int .u64 t138, .int .i64 t139] rfl gl ?_; (with_reducible refine (round_Up.calls a1 a2 t138 t139 t140 _ A18.out).mono ?_); rintro e w' ⟨rfl, ⟨nd, rfl⟩⟩; refine ⟨_, rfl, ?_⟩))
    (try simp only [Act.put, sb, sz, ss])
    go_cut [17] (fun v17 wc => ∃ (kq : Nat) (x17_18 : Int), v17 = .int .u64 x17_18 ∧ Aside0 (round_Pack.j1 kq a0 a1 a2 ji8 a4 t136 t137 x17_18 t139 = some (r1, r2, r3, r4, r5, r6)) ∧ Aside0 (kq ≤ kj8) ∧ Aside0 (wc.heap[gb133]? = some (.cells #[.bool false, .bool false, .bool false, .bool false, .bool false] 30 (0, 0))) ∧ Aside0 (Below w.heap.size w wc))
    case first =>
     have H := HC19.out
     clear HC19
     by_cases c21 : t140 = true
     ·subst c21
      have H1 : (round_Pack.j1 kj8 a0 a1 a2 ji8 a4 t136 t137 (IntKind.u64.wrap (t138 + 1)) t139) = some (r1, r2, r3, r4, r5, r6) := by rw [if_pos rfl] at H; exact H
      clear H
      have H := H1
      clear H1
      have H' := Aside0.mk H
      clear H
      go_wp2
      go_meet
      case rel => exact ⟨_, (IntKind.u64.wrap (t138 + 1)), (by first | rfl | (simp; done) | (simp [*]; done) | (congr 1; (try unfold wrap64); omega) | (congr 1; rw [IntKind.wrap_u64]; omega)), H', ⟨by have := HJ8.out; first | omega | exact Nat.le_refl _⟩, ⟨by (with_reducible repeat first | apply bd | apply be | apply ba); exact BK133.out⟩, ⟨bl1 HB.out GE133.out⟩⟩
     ·replace c21 := Bool.eq_false_iff.mpr c21
      subst c21
      have H1 : (round_Pack.j1 kj8 a0 a1 a2 ji8 a4 t136 t137 t138 t139) = some (r1, r2, r3, r4, r5, r6) := by rw [if_neg (show ¬ (false = true) by decide)] at H; exact H
      clear H
      have H := H1
      clear H1
      have H' := Aside0.mk H
      clear H
      go_wp2
      go_meet
      case rel => exact ⟨_, (t138), (by first | rfl | (simp; done) | (simp [*]; done) | (congr 1; (try unfold wrap64); omega) | (congr 1; rw [IntKind.wrap_u64]; omega)), H', ⟨by have := HJ8.out; first | omega | exact Nat.le_refl _⟩, ⟨by (with_reducible repeat first | apply bd | apply be | apply ba); exact BK133.out⟩, ⟨bl1 HB.out GE133.out⟩⟩
    case rest =>
     clear HC19
     try clear c1 c2 p2 c4 p6 c11 c11b0 c11b1 c12 c17 c21 hcz14_0 hcz14_1 hcz14_2 hcz14_3 hcz14_4 hfz14_0 hfz14_1 hfz14_2 hfz14_3 hfz14_4 p2 p6
     obtain ⟨kq, x17_18, rfl, HA, HJ18, BK133, HB⟩ := hcut
     cases kq with
     |zero => exact absurd HA.out (by simp [round_Pack.j1])
     |succ kj18 =>
      have H := HA.out
      clear HA
      simp only [round_Pack.j1] at H
      obtain ⟨ji22, hji22⟩ : ∃ j_ : Int, (IntKind.u64.wrap (wrap64 (t136 + 1))) = j_ := ⟨_, rfl⟩
      replace H : (if 0 ≤ (ji22) then (if (shr .u64 x17_18 (ji22)) = 0 then (round_Pack.j2 kj18 a0 a1 a2 ji8 a4 t136 t137 x17_18 t139) else (round_Pack.j2 kj18 a0 a1 a2 ji8 a4 t136 (wrap64 (t137 + 1)) (x17_18 / 2) t139)) else (none)) = some (r1, r2, r3, r4, r5, r6) := by first | (rw [hji22] at H; exact H) | (simp only [hji22] at H ⊢; exact H)
      by_cases c23 : 0 ≤ (ji22)
      ·rw [if_pos c23] at H
       have c23b0 := eq_true c23
       have c23b1 : decide (0 ≤ (ji22)) = true := decide_eq_true c23
       clear c23
       obtain ⟨ji24, hji24⟩ : ∃ j_ : Int, (shr .u64 x17_18 (ji22)) = j_ := ⟨_, rfl⟩
       replace H : (if (ji24) = 0 then (round_Pack.j2 kj18 a0 a1 a2 ji8 a4 t136 t137 x17_18 t139) else (round_Pack.j2 kj18 a0 a1 a2 ji8 a4 t136 (wrap64 (t137 + 1)) (x17_18 / 2) t139)) = some (r1, r2, r3, r4, r5, r6) := by first | (rw [hji24] at H; exact H) | (simp only [hji24] at H ⊢; exact H)
       have hji24_ : (x17_18 / 2 ^ min (ji22).toNat 64) = ji24 := hji24
       have hji24z : (ji22) ≤ 64 → (x17_18 / 2 ^ (ji22).toNat) = ji24 := shr_small hji24
       have HC25 := Aside0.mk H
       clear H
       go_upto_if 64 with (fail)
       go_cut [16, 17] (fun v16 v17 wc => ∃ (kq : Nat) (x16_24 : Int) (x17_24 : Int), v16 = .int .i64 x16_24 ∧ v17 = .int .u64 x17_24 ∧ Aside0 (round_Pack.j2 kq a0 a1 a2 ji8 a4 t136 x16_24 x17_24 t139 = some (r1, r2, r3, r4, r5, r6)) ∧ Aside0 (kq ≤ kj18) ∧ Aside0 (wc.heap[gb133]? = some (.cells #[.bool false, .bool false, .bool false, .bool false, .bool false] 30 (0, 0))) ∧ Aside0 (Below w.heap.size w wc))
       case first =>
        have H := HC25.out
        clear HC25
        by_cases c26 : (ji24) = 0
        ·rw [if_pos c26] at H
         have c26b0 : ((ji24) == 0) = true := beq_iff_eq.mpr c26
         have c26b1 : ((ji24) != 0) = false := bne_eq_false_iff_eq.mpr c26
         clear c26
         (first | rw [c26b0] | (simp only [i64_w, i32_w]; rw [c26b0]) | skip)
         have H' := Aside0.mk H
         clear H
         go_wp2
         go_meet
         case rel => exact ⟨_, (t137), (x17_18), (by first | rfl | (simp; done) | (simp [*]; done) | (congr 1; (try unfold wrap64); omega) | (congr 1; rw [IntKind.wrap_u64]; omega)), (by first | rfl | (simp; done) | (simp [*]; done) | (congr 1; (try unfold wrap64); omega) | (congr 1; rw [IntKind.wrap_u64]; omega)), H', ⟨by have := HJ8.out; have := HJ18.out; first | omega | exact Nat.le_refl _⟩, ⟨by (with_reducible repeat first | apply bd | apply be | apply ba); exact BK133.out⟩, ⟨bl1 HB.out GE133.out⟩⟩
        ·rw [if_neg c26] at H
         have c26b0 : ((ji24) == 0) = false := beq_eq_false_iff_ne.mpr c26
         have c26b1 : ((ji24) != 0) = true := bne_iff_ne.mpr c26
         (first | rw [c26b0] | (simp only [i64_w, i32_w]; rw [c26b0]) | skip)
         have H' := Aside0.mk H
         clear H
         go_wp2
         go_meet
         case rel => exact ⟨_, (wrap64 (t137 + 1)), (x17_18 / 2), (by first | rfl | (simp; done) | (simp [*]; done) | (congr 1; (try unfold wrap64); omega) | (congr 1; rw [IntKind.wrap_u64]; omega)), (by first | rfl | (simp; done) | (simp [*]; done) | (congr 1; (try unfold wrap64); omega) | (congr 1; rw [IntKind.wrap_u64]; omega)), H', ⟨by have := HJ8.out; have := HJ18.out; first | omega | exact Nat.le_refl _⟩, ⟨by (with_reducible repeat first | apply bd | apply be | apply ba); exact BK133.out⟩, ⟨bl1 HB.out GE133.out⟩⟩
       case rest =>
        clear HC25
        try clear c1 c2 p2 c4 p6 c11 c11b0 c11b1 c12 c17 c21 c23 c23b0 c23b1 c26 c26b0 c26b1 hcz14_0 hcz14_1 hcz14_2 hcz14_3 hcz14_4 hfz14_0 hfz14_1 hfz14_2 hfz14_3 hfz14_4 p2 p6
        obtain ⟨kq, x16_24, x17_24, rfl, rfl, HA, HJ24, BK133, HB⟩ := hcut
        cases kq with
        |zero => exact absurd HA.out (by simp [round_Pack.j2])
        |succ kj24 =>
         have H := HA.out
         clear HA
         simp only [round_Pack.j2] at H
         replace H := Option.bind_eq_some_iff.mp H
         obtain ⟨t141, A270, H⟩ := H
         replace H : (if 0 ≤ (IntKind.u64.wrap (t136)) then (if (shr .u64 x17_24 (IntKind.u64.wrap (t136))) = 0 then (round_Pack.j3 kj24 a0 a1 a2 ji8 a4 t136 x17_24 t139 0) else (round_Pack.j3 kj24 a0 a1 a2 ji8 a4 t136 x17_24 t139 (wrap64 ((wrap64 ((wrap64 (x16_24 + t136)) - t141)) + 1)))) else (none)) = some (r1, r2, r3, r4, r5, r6) := H
         have A27 := Aside0.mk A270
         clear A270
         obtain ⟨ji28, hji28⟩ : ∃ j_ : Int, (IntKind.u64.wrap (t136)) = j_ := ⟨_, rfl⟩
         replace H : (if 0 ≤ (ji28) then (if (shr .u64 x17_24 (ji28)) = 0 then (round_Pack.j3 kj24 a0 a1 a2 ji8 a4 t136 x17_24 t139 0) else (round_Pack.j3 kj24 a0 a1 a2 ji8 a4 t136 x17_24 t139 (wrap64 ((wrap64 ((wrap64 (x16_24 + t136)) - t141)) + 1)))) else (none)) = some (r1, r2, r3, r4, r5, r6) := by first | (rw [hji28] at H; exact H) | (simp only [hji28] at H ⊢; exact H)
         (try rw [hji28] at A27)
         by_cases c29 : 0 ≤ (ji28)
         ·rw [if_pos c29] at H
          have c29b0 := eq_true c29
          have c29b1 : decide (0 ≤ (ji28)) = true := decide_eq_true c29
          clear c29
          obtain ⟨ji30, hji30⟩ : ∃ j_ : Int, (shr .u64 x17_24 (ji28)) = j_ := ⟨_, rfl⟩
          replace H : (if (ji30) = 0 then (round_Pack.j3 kj24 a0 a1 a2 ji8 a4 t136 x17_24 t139 0) else (round_Pack.j3 kj24 a0 a1 a2 ji8 a4 t136 x17_24 t139 (wrap64 ((wrap64 ((wrap64 (x16_24 + t136)) - t141)) + 1)))) = some (r1, r2, r3, r4, r5, r6) := by first | (rw [hji30] at H; exact H) | (simp only [hji30] at H ⊢; exact H)
          (try rw [hji30] at A27)
          have hji30_ : (x17_24 / 2 ^ min (ji28).toNat 64) = ji30 := hji30
          have hji30z : (ji28) ≤ 64 → (x17_24 / 2 ^ (ji28).toNat) = ji30 := shr_small hji30
          have HC31 := Aside0.mk H
          clear H
          go_upto_if 80 with (first | ((with_reducible refine gate_callee (f := 46) rfl ?_); refine goesL_ (some 73) rfl rfl Try.func46 (by kernel_rfl) rfl #[.int .i64 a0] rfl gl ?_; (with_reducible refine (format_Least.calls a0 t141 _ A27.out).mono ?_); rintro e w' ⟨rfl, ⟨nd, rfl⟩⟩; refine ⟨_, rfl, ?_⟩))
          (try simp only [Act.put, sb, sz, ss])
          go_cut [19] (fun v19 wc => ∃ (kq : Nat) (x19_30 : Int), v19 = .int .i64 x19_30 ∧ Aside0 (round_Pack.j3 kq a0 a1 a2 ji8 a4 t136 x17_24 t139 x19_30 = some (r1, r2, r3, r4, r5, r6)) ∧ Aside0 (kq ≤ kj24) ∧ Aside0 (wc.heap[gb133]? = some (.cells #[.bool false, .bool false, .bool false, .bool false, .bool false] 30 (0, 0))) ∧ Aside0 (Below w.heap.size w wc))
          case first =>
           have H := HC31.out
           clear HC31
           by_cases c32 : (ji30) = 0
           ·rw [if_pos c32] at H
            have c32b0 : ((ji30) == 0) = true := beq_iff_eq.mpr c32
            have c32b1 : ((ji30) != 0) = false := bne_eq_false_iff_eq.mpr c32
            clear c32
            (first | rw [c32b0] | (simp only [i64_w, i32_w]; rw [c32b0]) | skip)
            have H' := Aside0.mk H
            clear H
            go_wp2
            go_meet
            case rel => exact ⟨_, (0), (by first | rfl | (simp; done) | (simp [*]; done) | (congr 1; (try unfold wrap64); omega) | (congr 1; rw [IntKind.wrap_u64]; omega)), H', ⟨by have := HJ8.out; have := HJ18.out; have := HJ24.out; first | omega | exact Nat.le_refl _⟩, ⟨by (with_reducible repeat first | apply bd | apply be | apply ba); exact BK133.out⟩, ⟨bl1 HB.out GE133.out⟩⟩
           ·rw [if_neg c32] at H
            have c32b0 : ((ji30) == 0) = false := beq_eq_false_iff_ne.mpr c32
            have c32b1 : ((ji30) != 0) = true := bne_iff_ne.mpr c32
            (first | rw [c32b0] | (simp only [i64_w, i32_w]; rw [c32b0]) | skip)
            have H' := Aside0.mk H
            clear H
            go_wp2
            go_meet
            case rel => exact ⟨_, (wrap64 ((wrap64 ((wrap64 (x16_24 + t136)) - t141)) + 1)), (by first | rfl | (simp; done) | (simp [*]; done) | (congr 1; (try unfold wrap64); omega) | (congr 1; rw [IntKind.wrap_u64]; omega)), H', ⟨by have := HJ8.out; have := HJ18.out; have := HJ24.out; first | omega | exact Nat.le_refl _⟩, ⟨by (with_reducible repeat first | apply bd | apply be | apply ba); exact BK133.out⟩, ⟨bl1 HB.out GE133.out⟩⟩
          case rest =>
           clear HC31
           try clear c1 c2 p2 c3 c4 p6 c11 c11b0 c11b1 c12 c17 c21 c23 c23b0 c23b1 c26 c26b0 c26b1 c29 c29b0 c29b1 c32 c32b0 c32b1 hcz14_0 hcz14_1 hcz14_2 hcz14_3 hcz14_4 hfz14_0 hfz14_1 hfz14_2 hfz14_3 hfz14_4 p2 p6
           obtain ⟨kq, x19_30, rfl, HA, HJ30, BK133, HB⟩ := hcut
           cases kq with
           |zero => exact absurd HA.out (by simp [round_Pack.j3])
           |succ kj30 =>
            have H := HA.out
            clear HA
            simp only [round_Pack.j3] at H
            replace H := Option.bind_eq_some_iff.mp H
            obtain ⟨t142, A330, H⟩ := H
            replace H : (if x19_30 ≥ t142 then ((round_beyond.f a0 a1 a2).bind fun bt143 => (some (bt143.1, bt143.2.1, bt143.2.2.1, bt143.2.2.2.1, bt143.2.2.2.2.1, bt143.2.2.2.2.2))) else (if t139 = 0 then ((bits_Cut.f x17_24 t136).bind fun t150 => ((format_Join.f a0 a2 x19_30 ((t150) % 4294967296)).bind fun t151 => (some (t151, false, false, false, false, (t139 != 0))))) else (if a4 = 0 then ((bits_Cut.f x17_24 t136).bind fun t152 => ((format_Join.f a0 a2 x19_30 ((t152) % 4294967296)).bind fun t153 => (some (t153, false, false, false, true, (t139 != 0))))) else ((bits_Len.f kj30 a4).bind fun t154 => ((format_Least.f a0).bind fun t155 => ((bits_Cut.f x17_24 t136).bind fun t156 => ((format_Join.f a0 a2 x19_30 ((t156) % 4294967296)).bind fun t157 => (some (t157, false, false, false, decide ((wrap64 ((wrap64 (ji8 + t154)) - 1)) < t155), (t139 != 0)))))))))) = some (r1, r2, r3, r4, r5, r6) := H
            have A33 := Aside0.mk A330
            clear A330
            by_cases c34 : x19_30 ≥ t142
            ·rw [if_pos c34] at H
             have c34b0 : decide (t142 ≤ x19_30) = true := decide_eq_true c34
             clear c34
             replace H := Option.bind_eq_some_iff.mp H
             obtain ⟨⟨t143, t144, t145, t146, t147, t148⟩, A350, H⟩ := H
             replace H : (some (t143, t144, t145, t146, t147, t148)) = some (r1, r2, r3, r4, r5, r6) := H
             have A35 := Aside0.mk A350
             clear A350
             simp only [Option.some.injEq, Prod.mk.injEq] at H
             obtain ⟨rfl, rfl, rfl, rfl, rfl, rfl⟩ := H
             go_wp2_with (first | ((with_reducible refine gate_callee (f := 47) rfl ?_); refine goesL_ (some 83) rfl rfl Try.func47 (by kernel_rfl) rfl #[.int .i64 a0] rfl gl ?_; (with_reducible refine (format_Top.calls a0 t142 _ A33.out).mono ?_); rintro e w' ⟨rfl, ⟨nd, rfl⟩⟩; refine ⟨_, rfl, ?_⟩; (try (rw [drewN_self wc]; generalize hq_ : World.drewN wc _ = wc; have n0_ : Aside0 (wc.heap[gb133]? = some (.cells #[.bool false, .bool false, .bool false, .bool false, .bool false] 30 (0, 0))) := ⟨by rw [← hq_]; exact (bv BK133.out)⟩; have n1_ : Aside0 (Below w.heap.size w wc) := ⟨by rw [← hq_]; exact (bl1 HB.out GE133.out)⟩; clear BK133 HB hq_; have BK133 := n0_; have HB := n1_; clear n0_ n1_))) | ((with_reducible refine gate_callee (f := 48) rfl ?_); refine goesL_ (some 88) rfl rfl Try.func48 (by kernel_rfl) rfl #[.int .i64 a0, .int .i64 a1, .bool a2] rfl gl ?_; (with_reducible refine (round_beyond.calls a0 a1 a2 t143 t144 t145 t146 t147 t148 _ A35.out).mono ?_); rintro e w36 ⟨rfl, hb⟩; refine ⟨_, rfl, ?_⟩; have n0_ := Aside0.mk (blk_below (g := gb133) (o := .cells #[.bool false, .bool false, .bool false, .bool false, .bool false] 30 (0, 0)) (bv BK133.out) hb); have n1_ := Aside0.mk (below_step (bl1 HB.out GE133.out) hb); clear BK133; clear HB; have BK133 := n0_; have HB := n1_; clear n0_ n1_; obtain ⟨hcz37_0, hcz37_1, hcz37_2, hcz37_3, hcz37_4⟩ := bc5 BK133.out; obtain ⟨hfz37_0, hfz37_1, hfz37_2, hfz37_3, hfz37_4⟩ := bf5 BK133.out))
             refine bodyPost_ret (results_tc rfl _ _ gb133 30 #[.bool t144, .bool t145, .bool t146, .bool t147, .bool t148] (0, 0) _ rfl (by (with_reducible repeat first | apply bd | apply be | apply ba); refine blk_put (cs := #[.bool t144, .bool t145, .bool t146, .bool t147, .bool false]) ?_ 4 _ rfl; (with_reducible repeat first | apply bd | apply be | apply ba); refine blk_put (cs := #[.bool t144, .bool t145, .bool t146, .bool false, .bool false]) ?_ 3 _ rfl; (with_reducible repeat first | apply bd | apply be | apply ba); refine blk_put (cs := #[.bool t144, .bool t145, .bool false, .bool false, .bool false]) ?_ 2 _ rfl; (with_reducible repeat first | apply bd | apply be | apply ba); refine blk_put (cs := #[.bool t144, .bool false, .bool false, .bool false, .bool false]) ?_ 1 _ rfl; (with_reducible repeat first | apply bd | apply be | apply ba); refine blk_put (cs := F5) ?_ 0 _ rfl; (with_reducible repeat first | apply bd | apply be | apply ba); exact BK133.out) Try.underlying30 rfl (by kernel_rfl)) rfl ?_
             exact ⟨by first | rfl | (simp [errW_none, errW_some] <;> rfl) | (simp only [← hji7, ← hji8, ← hji22, ← hji24, ← hji28, ← hji30]; first | rfl | (simp [errW_none, errW_some] <;> rfl)) | (simp [*, errW_none, errW_some] <;> rfl), bl1 HB.out GE133.out⟩
            ·rw [if_neg c34] at H
             have c34b0 : decide (t142 ≤ x19_30) = false := decide_eq_false c34
             clear c34
             by_cases c38 : t139 = 0
             ·rw [if_pos c38] at H
              have c38b0 : (t139 == 0) = true := beq_iff_eq.mpr c38
              have c38b1 : (t139 != 0) = false := bne_eq_false_iff_eq.mpr c38
              clear c38
              replace H : ((bits_Cut.f x17_24 t136).bind fun t150 => ((format_Join.f a0 a2 x19_30 ((t150) % 4294967296)).bind fun t151 => (some (t151, false, false, false, false, false)))) = some (r1, r2, r3, r4, r5, r6) := by first | exact H | (simp only [c38b0, c38b1] at H; exact H) | (simp only [c38b0, c38b1, Bool.not_true, Bool.not_false] at H; exact H)
              replace H := Option.bind_eq_some_iff.mp H
              obtain ⟨t150, A390, H⟩ := H
              replace H : ((format_Join.f a0 a2 x19_30 ((t150) % 4294967296)).bind fun t151 => (some (t151, false, false, false, false, false))) = some (r1, r2, r3, r4, r5, r6) := H
              have A39 := Aside0.mk A390
              clear A390
              replace H := Option.bind_eq_some_iff.mp H
              obtain ⟨t151, A400, H⟩ := H
              replace H : (some (t151, false, false, false, false, false)) = some (r1, r2, r3, r4, r5, r6) := H
              have A40 := Aside0.mk A400
              clear A400
              simp only [Option.some.injEq, Prod.mk.injEq] at H
              obtain ⟨rfl, rfl, rfl, rfl, rfl, rfl⟩ := H
              try go_wp2_with (first | ((with_reducible refine gate_callee (f := 47) rfl ?_); refine goesL_ (some 83) rfl rfl Try.func47 (by kernel_rfl) rfl #[.int .i64 a0] rfl gl ?_; (with_reducible refine (format_Top.calls a0 t142 _ A33.out).mono ?_); rintro e w' ⟨rfl, ⟨nd, rfl⟩⟩; refine ⟨_, rfl, ?_⟩; (try (rw [drewN_self wc]; generalize hq_ : World.drewN wc _ = wc; have n0_ : Aside0 (wc.heap[gb133]? = some (.cells #[.bool false, .bool false, .bool false, .bool false, .bool false] 30 (0, 0))) := ⟨by rw [← hq_]; exact (bv BK133.out)⟩; have n1_ : Aside0 (Below w.heap.size w wc) := ⟨by rw [← hq_]; exact (bl1 HB.out GE133.out)⟩; clear BK133 HB hq_; have BK133 := n0_; have HB := n1_; clear n0_ n1_))) | ((with_reducible refine gate_dst (N := 20) rfl ?_); refine box_event ?hg (N := 20) ?hd (cs := F5) (t := 30) ?hr ?_; (case hd => rfl); (case hg => rfl); (case hr => first | (go_simp; done) | (go_simp; rfl)); intro gb149 hg w41 hbox hb; have n0_ := Aside0.mk (blk_below (g := gb133) (o := .cells #[.bool false, .bool false, .bool false, .bool false, .bool false] 30 (0, 0)) (bv BK133.out) hb); have n1_ := Aside0.mk (below_step (bl1 HB.out GE133.out) hb); have n2_ := Aside0.mk (hbox); have n3_ := Aside0.mk ((by rw [hg]; exact (below_size (bl1 HB.out GE133.out)) : w.heap.size ≤ gb149)); have n4_ := n3_; have n5_ := Aside0.mk ((by rw [hg]; exact Nat.ne_of_lt (blk_lt (g := gb133) (o := .cells F5 30 (0, 0)) (bv BK133.out)) : gb133 ≠ gb149)); have n6_ := Aside0.mk (Ne.symm n5_.out); clear BK133; clear HB; have BK133 := n0_; have HB := n1_; have BK149 := n2_; have GW149 := n3_; have GE149 := n4_; have NB133_149 := n5_; have NB149_133 := n6_; clear n0_ n1_ n2_ n3_ n4_ n5_ n6_; clear hb hbox hg; have hnb42 := NB149_133.out; have hnc42 := NB133_149.out; obtain ⟨hcz43_0, hcz43_1, hcz43_2, hcz43_3, hcz43_4⟩ := bc5 BK149.out; obtain ⟨hfz43_0, hfz43_1, hfz43_2, hfz43_3, hfz43_4⟩ := bf5 BK149.out))
              have n0_ : Aside0 (((((((w41.setCell ⟨gb149, 0, none⟩ (.bool false)).setCell ⟨gb149, 1, none⟩ (.bool false)).setCell ⟨gb149, 2, none⟩ (.bool false)).setCell ⟨gb149, 3, none⟩ (.bool false)).setCell ⟨gb149, 4, none⟩ (.bool false)).setCell ⟨gb149, 3, none⟩ (.bool false)).heap[gb133]? = some (.cells #[.bool false, .bool false, .bool false, .bool false, .bool false] 30 (0, 0))) := ⟨by (with_reducible repeat first | apply bd | apply be | apply ba); refine blk_far ?_ NB133_149.out _; (with_reducible repeat first | apply bd | apply be | apply ba); refine blk_far ?_ NB133_149.out _; (with_reducible repeat first | apply bd | apply be | apply ba); refine blk_far ?_ NB133_149.out _; (with_reducible repeat first | apply bd | apply be | apply ba); refine blk_far ?_ NB133_149.out _; (with_reducible repeat first | apply bd | apply be | apply ba); refine blk_far ?_ NB133_149.out _; (with_reducible repeat first | apply bd | apply be | apply ba); refine blk_far ?_ NB133_149.out _; (with_reducible repeat first | apply bd | apply be | apply ba); exact BK133.out⟩
              have n1_ : Aside0 (((((((w41.setCell ⟨gb149, 0, none⟩ (.bool false)).setCell ⟨gb149, 1, none⟩ (.bool false)).setCell ⟨gb149, 2, none⟩ (.bool false)).setCell ⟨gb149, 3, none⟩ (.bool false)).setCell ⟨gb149, 4, none⟩ (.bool false)).setCell ⟨gb149, 3, none⟩ (.bool false)).heap[gb149]? = some (.cells #[.bool false, .bool false, .bool false, .bool false, .bool false] 30 (0, 0))) := ⟨by (with_reducible repeat first | apply bd | apply be | apply ba); refine blk_put (cs := F5) ?_ 3 _ rfl; (with_reducible repeat first | apply bd | apply be | apply ba); refine blk_put (cs := F5) ?_ 4 _ rfl; (with_reducible repeat first | apply bd | apply be | apply ba); refine blk_put (cs := F5) ?_ 3 _ rfl; (with_reducible repeat first | apply bd | apply be | apply ba); refine blk_put (cs := F5) ?_ 2 _ rfl; (with_reducible repeat first | apply bd | apply be | apply ba); refine blk_put (cs := F5) ?_ 1 _ rfl; (with_reducible repeat first | apply bd | apply be | apply ba); refine blk_put (cs := F5) ?_ 0 _ rfl; (with_reducible repeat first | apply bd | apply be | apply ba); exact BK149.out⟩
              have n2_ : Aside0 (Below w.heap.size w ((((((w41.setCell ⟨gb149, 0, none⟩ (.bool false)).setCell ⟨gb149, 1, none⟩ (.bool false)).setCell ⟨gb149, 2, none⟩ (.bool false)).setCell ⟨gb149, 3, none⟩ (.bool false)).setCell ⟨gb149, 4, none⟩ (.bool false)).setCell ⟨gb149, 3, none⟩ (.bool false))) := ⟨bl2 HB.out GE133.out GE149.out⟩
              (try clear BK133)
              (try clear BK149)
              (try clear HB)
              generalize ((((((w41.setCell ⟨gb149, 0, none⟩ (.bool false)).setCell ⟨gb149, 1, none⟩ (.bool false)).setCell ⟨gb149, 2, none⟩ (.bool false)).setCell ⟨gb149, 3, none⟩ (.bool false)).setCell ⟨gb149, 4, none⟩ (.bool false)).setCell ⟨gb149, 3, none⟩ (.bool false)) = w44 at n0_ n1_ n2_ ⊢
              have BK133 := n0_
              have BK149 := n1_
              have HB := n2_
              clear n0_ n1_ n2_
              have n0_ := Aside0.mk (blk_drew BK133.out)
              have n1_ := Aside0.mk (blk_drew BK149.out)
              have n2_ := Aside0.mk (below_drew1 HB.out)
              clear BK133
              clear BK149
              clear HB
              have BK133 := n0_
              have BK149 := n1_
              have HB := n2_
              clear n0_ n1_ n2_
              refine start_ (n := 11) (S := fun w' => w'.cell? ⟨gb149, 0, none⟩ = some (.bool false) ∧ w'.cell? ⟨gb149, 1, none⟩ = some (.bool false) ∧ w'.cell? ⟨gb149, 2, none⟩ = some (.bool false) ∧ w'.cell? ⟨gb149, 3, none⟩ = some (.bool false) ∧ w'.cell? ⟨gb149, 4, none⟩ = some (.bool false)) (ds := []) (tf 0 11) (by kernel_rfl) rfl rfl ⟨(blk_cell BK149.out 0).trans rfl, (blk_cell BK149.out 1).trans rfl, (blk_cell BK149.out 2).trans rfl, (blk_cell BK149.out 3).trans rfl, (blk_cell BK149.out 4).trans rfl⟩ (fun hHeld => ?_); refine with_tabW round_Pack.tab18 round_Pack.bits18 (fun HT_ HW_ => ?_)
              generalize w44.drew = w45 at BK133 BK149 HB hHeld ⊢
              refine pure_ (i := 0) (N := some 111) (v := ?_) (a' := ?_) (tf 1 10) rfl rfl (any_of HT_.out (by kernel_rfl)) (fun _ _ _ h => h) (Or.inl ⟨by rfl, ?_⟩) ?_ ?_
              rotate_left
              ·intro w'
               go_simp
               with_reducible rfl
              rotate_left
              ·simp only [Act.put, sb, sz, ss, i64_w, i32_w]
               rfl
              refine pure_ (i := 1) (N := some 112) (v := ?_) (a' := ?_) (tf 2 9) rfl rfl (any_of HT_.out (by kernel_rfl)) (fun _ _ _ h => h) (Or.inl ⟨by rfl, ?_⟩) ?_ ?_
              rotate_left
              ·intro w'
               go_simp
               with_reducible rfl
              rotate_left
              ·simp only [Act.put, sb, sz, ss, i64_w, i32_w]
               rfl
              refine pure_ (i := 2) (N := some 113) (v := ?_) (a' := ?_) (tf 3 8) rfl rfl (any_of HT_.out (by kernel_rfl)) (fun _ _ _ h => h) (Or.inl ⟨by rfl, ?_⟩) ?_ ?_
              rotate_left
              ·intro w'
               go_simp
               with_reducible rfl
              rotate_left
              ·simp only [Act.put, sb, sz, ss, i64_w, i32_w]
               rfl
              refine pure_ (i := 3) (N := some 114) (v := ?_) (a' := ?_) (tf 4 7) rfl rfl (any_of HT_.out (by kernel_rfl)) (fun _ _ _ h => h) (Or.inl ⟨by rfl, ?_⟩) ?_ ?_
              rotate_left
              ·intro w'
               go_simp
               with_reducible rfl
              rotate_left
              ·simp only [Act.put, sb, sz, ss, i64_w, i32_w]
               rfl
              refine pure_ (i := 4) (N := some 115) (v := ?_) (a' := ?_) (tf 5 6) rfl rfl (any_of HT_.out (by kernel_rfl)) (fun _ _ _ h => h) (Or.inl ⟨by rfl, ?_⟩) ?_ ?_
              rotate_left
              ·intro w'
               go_simp
               with_reducible rfl
              rotate_left
              ·simp only [Act.put, sb, sz, ss, i64_w, i32_w]
               rfl
              refine take_ (i := 8) (N := some 119) (v := ?_) (a' := ?_) #[true, true, true, true, true, false, false, false, true, false, false] rfl rfl (take_ofW HT_.out HW_.out (by kernel_rfl)) (fun _ _ _ h => h) (Or.inl ⟨by rfl, ?_⟩) hHeld ?_ ?_
              rotate_left
              ·rintro w' ⟨s0, s1, s2, s3, s4⟩
               go_simp
               with_reducible rfl
              rotate_left
              ·simp only [Act.put, sb, sz, ss, i64_w, i32_w]
               rfl
              refine one_ (i := 5) (N := some 116) #[true, true, true, true, true, true, false, false, true, false, false] rfl rfl (one_of HT_.out (by kernel_rfl)) (by decide) (fun K hK => ?_)
              refine goes_ Try.func51 (by kernel_rfl) rfl #[.int .u64 x17_24, .int .i64 t136] (by rfl) rfl rfl gl ?_
              with_reducible refine (bits_Cut.calls x17_24 t136 t150 _ A39.out).mono ?_
              rintro e w' ⟨rfl, ⟨nd, rfl⟩⟩
              refine ⟨_, rfl, ?_⟩
              refine hK.out _ _ ⟨(blk_cell BK149.out 0).trans rfl, (blk_cell BK149.out 1).trans rfl, (blk_cell BK149.out 2).trans rfl, (blk_cell BK149.out 3).trans rfl, (blk_cell BK149.out 4).trans rfl⟩ (fun hHeld => ?_)
              clear hK K
              refine norm_ (a' := ?_) ?_ ?_
              rotate_left
              ·show Act.put _ (some 116) _ = _
               simp only [Act.put, sb, sz, ss, i64_w, i32_w]
               rfl
              refine pure_ (i := 6) (N := some 117) (v := ?_) (a' := ?_) #[true, true, true, true, true, true, true, false, true, false, false] rfl rfl (any_of HT_.out (by kernel_rfl)) (fun _ _ _ h => h) (Or.inl ⟨by rfl, ?_⟩) ?_ ?_
              rotate_left
              ·intro w'
               go_simp
               with_reducible rfl
              rotate_left
              ·simp only [Act.put, sb, sz, ss, i64_w, i32_w]
               rfl
              refine one_ (i := 7) (N := some 118) (tf 9 2) rfl rfl (one_of HT_.out (by kernel_rfl)) (by decide) (fun K hK => ?_)
              refine goes_ Try.func50 (by kernel_rfl) rfl #[.int .i64 a0, .bool a2, .int .i64 x19_30, .int .u32 ((t150) % 4294967296)] (by rfl) rfl rfl gl ?_
              with_reducible refine (format_Join.calls a0 a2 x19_30 ((t150) % 4294967296) t151 _ A40.out).mono ?_
              rintro e w' ⟨rfl, ⟨nd, rfl⟩⟩
              refine ⟨_, rfl, ?_⟩
              refine hK.out _ _ ⟨(blk_cell BK149.out 0).trans rfl, (blk_cell BK149.out 1).trans rfl, (blk_cell BK149.out 2).trans rfl, (blk_cell BK149.out 3).trans rfl, (blk_cell BK149.out 4).trans rfl⟩ (fun hHeld => ?_)
              clear hK K
              refine norm_ (a' := ?_) ?_ ?_
              rotate_left
              ·show Act.put _ (some 118) _ = _
               simp only [Act.put, sb, sz, ss, i64_w, i32_w]
               rfl
              refine pure_ (i := 9) (N := some 12) (v := ?_) (a' := ?_) (tf 10 1) rfl rfl (any_of HT_.out (by kernel_rfl)) (fun _ _ _ h => h) (Or.inl ⟨by rfl, ?_⟩) ?_ ?_
              rotate_left
              ·intro w'
               go_simp
               with_reducible rfl
              rotate_left
              ·simp only [Act.put, sb, sz, ss, i64_w, i32_w]
               rfl
              refine one_ (i := 10) (N := none) (tf 11 0) rfl rfl (one_of HT_.out (by kernel_rfl)) (by decide) (fun K hK => ?_)
              have hs46 : w45.cell? ⟨gb133, 0, none⟩ = some (.bool false) := (blk_cell BK133.out 0).trans rfl
              have hfs46 := blk_frozen BK133.out 0
              have hns46_1 := NB149_133.out
              have hms46_1 := NB133_149.out
              have hs47 : w45.cell? ⟨gb133, 1, none⟩ = some (.bool false) := (blk_cell BK133.out 1).trans rfl
              have hfs47 := blk_frozen BK133.out 1
              have hns47_1 := NB149_133.out
              have hms47_1 := NB133_149.out
              have hs48 : w45.cell? ⟨gb133, 2, none⟩ = some (.bool false) := (blk_cell BK133.out 2).trans rfl
              have hfs48 := blk_frozen BK133.out 2
              have hns48_1 := NB149_133.out
              have hms48_1 := NB133_149.out
              have hs49 : w45.cell? ⟨gb133, 3, none⟩ = some (.bool false) := (blk_cell BK133.out 3).trans rfl
              have hfs49 := blk_frozen BK133.out 3
              have hns49_1 := NB149_133.out
              have hms49_1 := NB133_149.out
              have hs50 : w45.cell? ⟨gb133, 4, none⟩ = some (.bool false) := (blk_cell BK133.out 4).trans rfl
              have hfs50 := blk_frozen BK133.out 4
              have hns50_1 := NB149_133.out
              have hms50_1 := NB133_149.out
              refine skip_ (w1 := ?_) (by rfl) rfl ?_ ?_
              rotate_left
              ·go_simp
               rfl
              refine hK.out _ _ ⟨(cf5 NB149_133.out (hHeld.1)), (cf5 NB149_133.out (hHeld.2.1)), (cf5 NB149_133.out (hHeld.2.2.1)), (cf5 NB149_133.out (hHeld.2.2.2.1)), (cf5 NB149_133.out (hHeld.2.2.2.2))⟩ (fun hHeld => ?_)
              clear hK K
              refine done_ (done_of HT_.out (by kernel_rfl)) ?_
              try go_wp2
              refine bodyPost_ret (results_tc rfl _ _ gb133 30 #[.bool false, .bool false, .bool false, .bool false, .bool false] (0, 0) _ rfl (by (with_reducible repeat first | apply bd | apply be | apply ba); refine blk_put (cs := F5) ?_ 4 _ rfl; (with_reducible repeat first | apply bd | apply be | apply ba); refine blk_put (cs := F5) ?_ 3 _ rfl; (with_reducible repeat first | apply bd | apply be | apply ba); refine blk_put (cs := F5) ?_ 2 _ rfl; (with_reducible repeat first | apply bd | apply be | apply ba); refine blk_put (cs := F5) ?_ 1 _ rfl; (with_reducible repeat first | apply bd | apply be | apply ba); refine blk_put (cs := F5) ?_ 0 _ rfl; (with_reducible repeat first | apply bd | apply be | apply ba); exact BK133.out) Try.underlying30 rfl (by kernel_rfl)) rfl ?_
              exact ⟨by first | rfl | (simp [errW_none, errW_some] <;> rfl) | (simp only [← hji7, ← hji8, ← hji22, ← hji24, ← hji28, ← hji30]; first | rfl | (simp [errW_none, errW_some] <;> rfl)) | (simp [*, errW_none, errW_some] <;> rfl), bl2 HB.out GE133.out GE149.out⟩
             ·rw [if_neg c38] at H
              have c38b0 : (t139 == 0) = false := beq_eq_false_iff_ne.mpr c38
              have c38b1 : (t139 != 0) = true := bne_iff_ne.mpr c38
              replace H : (if a4 = 0 then ((bits_Cut.f x17_24 t136).bind fun t152 => ((format_Join.f a0 a2 x19_30 ((t152) % 4294967296)).bind fun t153 => (some (t153, false, false, false, true, true)))) else ((bits_Len.f kj30 a4).bind fun t154 => ((format_Least.f a0).bind fun t155 => ((bits_Cut.f x17_24 t136).bind fun t156 => ((format_Join.f a0 a2 x19_30 ((t156) % 4294967296)).bind fun t157 => (some (t157, false, false, false, decide ((wrap64 ((wrap64 (ji8 + t154)) - 1)) < t155), true))))))) = some (r1, r2, r3, r4, r5, r6) := by first | exact H | (simp only [c38b0, c38b1] at H; exact H) | (simp only [c38b0, c38b1, Bool.not_true, Bool.not_false] at H; exact H)
              by_cases c51 : a4 = 0
              ·rw [if_pos c51] at H
               have c51b0 : (a4 == 0) = true := beq_iff_eq.mpr c51
               have c51b1 : (a4 != 0) = false := bne_eq_false_iff_eq.mpr c51
               clear c51
               replace H := Option.bind_eq_some_iff.mp H
               obtain ⟨t152, A520, H⟩ := H
               replace H : ((format_Join.f a0 a2 x19_30 ((t152) % 4294967296)).bind fun t153 => (some (t153, false, false, false, true, true))) = some (r1, r2, r3, r4, r5, r6) := H
               have A52 := Aside0.mk A520
               clear A520
               replace H := Option.bind_eq_some_iff.mp H
               obtain ⟨t153, A530, H⟩ := H
               replace H : (some (t153, false, false, false, true, true)) = some (r1, r2, r3, r4, r5, r6) := H
               have A53 := Aside0.mk A530
               clear A530
               simp only [Option.some.injEq, Prod.mk.injEq] at H
               obtain ⟨rfl, rfl, rfl, rfl, rfl, rfl⟩ := H
               try go_wp2_with (first | ((with_reducible refine gate_callee (f := 47) rfl ?_); refine goesL_ (some 83) rfl rfl Try.func47 (by kernel_rfl) rfl #[.int .i64 a0] rfl gl ?_; (with_reducible refine (format_Top.calls a0 t142 _ A33.out).mono ?_); rintro e w' ⟨rfl, ⟨nd, rfl⟩⟩; refine ⟨_, rfl, ?_⟩; (try (rw [drewN_self wc]; generalize hq_ : World.drewN wc _ = wc; have n0_ : Aside0 (wc.heap[gb133]? = some (.cells #[.bool false, .bool false, .bool false, .bool false, .bool false] 30 (0, 0))) := ⟨by rw [← hq_]; exact (bv BK133.out)⟩; have n1_ : Aside0 (Below w.heap.size w wc) := ⟨by rw [← hq_]; exact (bl1 HB.out GE133.out)⟩; clear BK133 HB hq_; have BK133 := n0_; have HB := n1_; clear n0_ n1_))) | ((with_reducible refine gate_dst (N := 20) rfl ?_); refine box_event ?hg (N := 20) ?hd (cs := F5) (t := 30) ?hr ?_; (case hd => rfl); (case hg => rfl); (case hr => first | (go_simp; done) | (go_simp; rfl)); intro gb149 hg w54 hbox hb; have n0_ := Aside0.mk (blk_below (g := gb133) (o := .cells #[.bool false, .bool false, .bool false, .bool false, .bool false] 30 (0, 0)) (bv BK133.out) hb); have n1_ := Aside0.mk (below_step (bl1 HB.out GE133.out) hb); have n2_ := Aside0.mk (hbox); have n3_ := Aside0.mk ((by rw [hg]; exact (below_size (bl1 HB.out GE133.out)) : w.heap.size ≤ gb149)); have n4_ := n3_; have n5_ := Aside0.mk ((by rw [hg]; exact Nat.ne_of_lt (blk_lt (g := gb133) (o := .cells F5 30 (0, 0)) (bv BK133.out)) : gb133 ≠ gb149)); have n6_ := Aside0.mk (Ne.symm n5_.out); clear BK133; clear HB; have BK133 := n0_; have HB := n1_; have BK149 := n2_; have GW149 := n3_; have GE149 := n4_; have NB133_149 := n5_; have NB149_133 := n6_; clear n0_ n1_ n2_ n3_ n4_ n5_ n6_; clear hb hbox hg; have hnb55 := NB149_133.out; have hnc55 := NB133_149.out; obtain ⟨hcz56_0, hcz56_1, hcz56_2, hcz56_3, hcz56_4⟩ := bc5 BK149.out; obtain ⟨hfz56_0, hfz56_1, hfz56_2, hfz56_3, hfz56_4⟩ := bf5 BK149.out))
               have n0_ : Aside0 (((((((w54.setCell ⟨gb149, 0, none⟩ (.bool false)).setCell ⟨gb149, 1, none⟩ (.bool false)).setCell ⟨gb149, 2, none⟩ (.bool false)).setCell ⟨gb149, 3, none⟩ (.bool false)).setCell ⟨gb149, 4, none⟩ (.bool true)).setCell ⟨gb149, 3, none⟩ (.bool true)).heap[gb133]? = some (.cells #[.bool false, .bool false, .bool false, .bool false, .bool false] 30 (0, 0))) := ⟨by (with_reducible repeat first | apply bd | apply be | apply ba); refine blk_far ?_ NB133_149.out _; (with_reducible repeat first | apply bd | apply be | apply ba); refine blk_far ?_ NB133_149.out _; (with_reducible repeat first | apply bd | apply be | apply ba); refine blk_far ?_ NB133_149.out _; (with_reducible repeat first | apply bd | apply be | apply ba); refine blk_far ?_ NB133_149.out _; (with_reducible repeat first | apply bd | apply be | apply ba); refine blk_far ?_ NB133_149.out _; (with_reducible repeat first | apply bd | apply be | apply ba); refine blk_far ?_ NB133_149.out _; (with_reducible repeat first | apply bd | apply be | apply ba); exact BK133.out⟩
               have n1_ : Aside0 (((((((w54.setCell ⟨gb149, 0, none⟩ (.bool false)).setCell ⟨gb149, 1, none⟩ (.bool false)).setCell ⟨gb149, 2, none⟩ (.bool false)).setCell ⟨gb149, 3, none⟩ (.bool false)).setCell ⟨gb149, 4, none⟩ (.bool true)).setCell ⟨gb149, 3, none⟩ (.bool true)).heap[gb149]? = some (.cells #[.bool false, .bool false, .bool false, .bool true, .bool true] 30 (0, 0))) := ⟨by (with_reducible repeat first | apply bd | apply be | apply ba); refine blk_put (cs := #[.bool false, .bool false, .bool false, .bool false, .bool true]) ?_ 3 _ rfl; (with_reducible repeat first | apply bd | apply be | apply ba); refine blk_put (cs := F5) ?_ 4 _ rfl; (with_reducible repeat first | apply bd | apply be | apply ba); refine blk_put (cs := F5) ?_ 3 _ rfl; (with_reducible repeat first | apply bd | apply be | apply ba); refine blk_put (cs := F5) ?_ 2 _ rfl; (with_reducible repeat first | apply bd | apply be | apply ba); refine blk_put (cs := F5) ?_ 1 _ rfl; (with_reducible repeat first | apply bd | apply be | apply ba); refine blk_put (cs := F5) ?_ 0 _ rfl; (with_reducible repeat first | apply bd | apply be | apply ba); exact BK149.out⟩
               have n2_ : Aside0 (Below w.heap.size w ((((((w54.setCell ⟨gb149, 0, none⟩ (.bool false)).setCell ⟨gb149, 1, none⟩ (.bool false)).setCell ⟨gb149, 2, none⟩ (.bool false)).setCell ⟨gb149, 3, none⟩ (.bool false)).setCell ⟨gb149, 4, none⟩ (.bool true)).setCell ⟨gb149, 3, none⟩ (.bool true))) := ⟨bl2 HB.out GE133.out GE149.out⟩
               (try clear BK133)
               (try clear BK149)
               (try clear HB)
               generalize ((((((w54.setCell ⟨gb149, 0, none⟩ (.bool false)).setCell ⟨gb149, 1, none⟩ (.bool false)).setCell ⟨gb149, 2, none⟩ (.bool false)).setCell ⟨gb149, 3, none⟩ (.bool false)).setCell ⟨gb149, 4, none⟩ (.bool true)).setCell ⟨gb149, 3, none⟩ (.bool true)) = w57 at n0_ n1_ n2_ ⊢
               have BK133 := n0_
               have BK149 := n1_
               have HB := n2_
               clear n0_ n1_ n2_
               have n0_ := Aside0.mk (blk_drew BK133.out)
               have n1_ := Aside0.mk (blk_drew BK149.out)
               have n2_ := Aside0.mk (below_drew1 HB.out)
               clear BK133
               clear BK149
               clear HB
               have BK133 := n0_
               have BK149 := n1_
               have HB := n2_
               clear n0_ n1_ n2_
               refine start_ (n := 11) (S := fun w' => w'.cell? ⟨gb149, 0, none⟩ = some (.bool false) ∧ w'.cell? ⟨gb149, 1, none⟩ = some (.bool false) ∧ w'.cell? ⟨gb149, 2, none⟩ = some (.bool false) ∧ w'.cell? ⟨gb149, 3, none⟩ = some (.bool true) ∧ w'.cell? ⟨gb149, 4, none⟩ = some (.bool true)) (ds := []) (tf 0 11) (by kernel_rfl) rfl rfl ⟨(blk_cell BK149.out 0).trans rfl, (blk_cell BK149.out 1).trans rfl, (blk_cell BK149.out 2).trans rfl, (blk_cell BK149.out 3).trans rfl, (blk_cell BK149.out 4).trans rfl⟩ (fun hHeld => ?_); refine with_tabW round_Pack.tab18 round_Pack.bits18 (fun HT_ HW_ => ?_)
               generalize w57.drew = w58 at BK133 BK149 HB hHeld ⊢
               refine pure_ (i := 0) (N := some 111) (v := ?_) (a' := ?_) (tf 1 10) rfl rfl (any_of HT_.out (by kernel_rfl)) (fun _ _ _ h => h) (Or.inl ⟨by rfl, ?_⟩) ?_ ?_
               rotate_left
               ·intro w'
                go_simp
                with_reducible rfl
               rotate_left
               ·simp only [Act.put, sb, sz, ss, i64_w, i32_w]
                rfl
               refine pure_ (i := 1) (N := some 112) (v := ?_) (a' := ?_) (tf 2 9) rfl rfl (any_of HT_.out (by kernel_rfl)) (fun _ _ _ h => h) (Or.inl ⟨by rfl, ?_⟩) ?_ ?_
               rotate_left
               ·intro w'
                go_simp
                with_reducible rfl
               rotate_left
               ·simp only [Act.put, sb, sz, ss, i64_w, i32_w]
                rfl
               refine pure_ (i := 2) (N := some 113) (v := ?_) (a' := ?_) (tf 3 8) rfl rfl (any_of HT_.out (by kernel_rfl)) (fun _ _ _ h => h) (Or.inl ⟨by rfl, ?_⟩) ?_ ?_
               rotate_left
               ·intro w'
                go_simp
                with_reducible rfl
               rotate_left
               ·simp only [Act.put, sb, sz, ss, i64_w, i32_w]
                rfl
               refine pure_ (i := 3) (N := some 114) (v := ?_) (a' := ?_) (tf 4 7) rfl rfl (any_of HT_.out (by kernel_rfl)) (fun _ _ _ h => h) (Or.inl ⟨by rfl, ?_⟩) ?_ ?_
               rotate_left
               ·intro w'
                go_simp
                with_reducible rfl
               rotate_left
               ·simp only [Act.put, sb, sz, ss, i64_w, i32_w]
                rfl
               refine pure_ (i := 4) (N := some 115) (v := ?_) (a' := ?_) (tf 5 6) rfl rfl (any_of HT_.out (by kernel_rfl)) (fun _ _ _ h => h) (Or.inl ⟨by rfl, ?_⟩) ?_ ?_
               rotate_left
               ·intro w'
                go_simp
                with_reducible rfl
               rotate_left
               ·simp only [Act.put, sb, sz, ss, i64_w, i32_w]
                rfl
               refine take_ (i := 8) (N := some 119) (v := ?_) (a' := ?_) #[true, true, true, true, true, false, false, false, true, false, false] rfl rfl (take_ofW HT_.out HW_.out (by kernel_rfl)) (fun _ _ _ h => h) (Or.inl ⟨by rfl, ?_⟩) hHeld ?_ ?_
               rotate_left
               ·rintro w' ⟨s0, s1, s2, s3, s4⟩
                go_simp
                with_reducible rfl
               rotate_left
               ·simp only [Act.put, sb, sz, ss, i64_w, i32_w]
                rfl
               refine one_ (i := 5) (N := some 116) #[true, true, true, true, true, true, false, false, true, false, false] rfl rfl (one_of HT_.out (by kernel_rfl)) (by decide) (fun K hK => ?_)
               refine goes_ Try.func51 (by kernel_rfl) rfl #[.int .u64 x17_24, .int .i64 t136] (by rfl) rfl rfl gl ?_
               with_reducible refine (bits_Cut.calls x17_24 t136 t152 _ A52.out).mono ?_
               rintro e w' ⟨rfl, ⟨nd, rfl⟩⟩
               refine ⟨_, rfl, ?_⟩
               refine hK.out _ _ ⟨(blk_cell BK149.out 0).trans rfl, (blk_cell BK149.out 1).trans rfl, (blk_cell BK149.out 2).trans rfl, (blk_cell BK149.out 3).trans rfl, (blk_cell BK149.out 4).trans rfl⟩ (fun hHeld => ?_)
               clear hK K
               refine norm_ (a' := ?_) ?_ ?_
               rotate_left
               ·show Act.put _ (some 116) _ = _
                simp only [Act.put, sb, sz, ss, i64_w, i32_w]
                rfl
               refine pure_ (i := 6) (N := some 117) (v := ?_) (a' := ?_) #[true, true, true, true, true, true, true, false, true, false, false] rfl rfl (any_of HT_.out (by kernel_rfl)) (fun _ _ _ h => h) (Or.inl ⟨by rfl, ?_⟩) ?_ ?_
               rotate_left
               ·intro w'
                go_simp
                with_reducible rfl
               rotate_left
               ·simp only [Act.put, sb, sz, ss, i64_w, i32_w]
                rfl
               refine one_ (i := 7) (N := some 118) (tf 9 2) rfl rfl (one_of HT_.out (by kernel_rfl)) (by decide) (fun K hK => ?_)
               refine goes_ Try.func50 (by kernel_rfl) rfl #[.int .i64 a0, .bool a2, .int .i64 x19_30, .int .u32 ((t152) % 4294967296)] (by rfl) rfl rfl gl ?_
               with_reducible refine (format_Join.calls a0 a2 x19_30 ((t152) % 4294967296) t153 _ A53.out).mono ?_
               rintro e w' ⟨rfl, ⟨nd, rfl⟩⟩
               refine ⟨_, rfl, ?_⟩
               refine hK.out _ _ ⟨(blk_cell BK149.out 0).trans rfl, (blk_cell BK149.out 1).trans rfl, (blk_cell BK149.out 2).trans rfl, (blk_cell BK149.out 3).trans rfl, (blk_cell BK149.out 4).trans rfl⟩ (fun hHeld => ?_)
               clear hK K
               refine norm_ (a' := ?_) ?_ ?_
               rotate_left
               ·show Act.put _ (some 118) _ = _
                simp only [Act.put, sb, sz, ss, i64_w, i32_w]
                rfl
               refine pure_ (i := 9) (N := some 12) (v := ?_) (a' := ?_) (tf 10 1) rfl rfl (any_of HT_.out (by kernel_rfl)) (fun _ _ _ h => h) (Or.inl ⟨by rfl, ?_⟩) ?_ ?_
               rotate_left
               ·intro w'
                go_simp
                with_reducible rfl
               rotate_left
               ·simp only [Act.put, sb, sz, ss, i64_w, i32_w]
                rfl
               refine one_ (i := 10) (N := none) (tf 11 0) rfl rfl (one_of HT_.out (by kernel_rfl)) (by decide) (fun K hK => ?_)
               have hs59 : w58.cell? ⟨gb133, 0, none⟩ = some (.bool false) := (blk_cell BK133.out 0).trans rfl
               have hfs59 := blk_frozen BK133.out 0
               have hns59_1 := NB149_133.out
               have hms59_1 := NB133_149.out
               have hs60 : w58.cell? ⟨gb133, 1, none⟩ = some (.bool false) := (blk_cell BK133.out 1).trans rfl
               have hfs60 := blk_frozen BK133.out 1
               have hns60_1 := NB149_133.out
               have hms60_1 := NB133_149.out
               have hs61 : w58.cell? ⟨gb133, 2, none⟩ = some (.bool false) := (blk_cell BK133.out 2).trans rfl
               have hfs61 := blk_frozen BK133.out 2
               have hns61_1 := NB149_133.out
               have hms61_1 := NB133_149.out
               have hs62 : w58.cell? ⟨gb133, 3, none⟩ = some (.bool false) := (blk_cell BK133.out 3).trans rfl
               have hfs62 := blk_frozen BK133.out 3
               have hns62_1 := NB149_133.out
               have hms62_1 := NB133_149.out
               have hs63 : w58.cell? ⟨gb133, 4, none⟩ = some (.bool false) := (blk_cell BK133.out 4).trans rfl
               have hfs63 := blk_frozen BK133.out 4
               have hns63_1 := NB149_133.out
               have hms63_1 := NB133_149.out
               refine skip_ (w1 := ?_) (by rfl) rfl ?_ ?_
               rotate_left
               ·go_simp
                rfl
               refine hK.out _ _ ⟨(cf5 NB149_133.out (hHeld.1)), (cf5 NB149_133.out (hHeld.2.1)), (cf5 NB149_133.out (hHeld.2.2.1)), (cf5 NB149_133.out (hHeld.2.2.2.1)), (cf5 NB149_133.out (hHeld.2.2.2.2))⟩ (fun hHeld => ?_)
               clear hK K
               refine done_ (done_of HT_.out (by kernel_rfl)) ?_
               try go_wp2
               refine bodyPost_ret (results_tc rfl _ _ gb133 30 #[.bool false, .bool false, .bool false, .bool true, .bool true] (0, 0) _ rfl (by (with_reducible repeat first | apply bd | apply be | apply ba); refine blk_put (cs := #[.bool false, .bool false, .bool false, .bool true, .bool false]) ?_ 4 _ rfl; (with_reducible repeat first | apply bd | apply be | apply ba); refine blk_put (cs := F5) ?_ 3 _ rfl; (with_reducible repeat first | apply bd | apply be | apply ba); refine blk_put (cs := F5) ?_ 2 _ rfl; (with_reducible repeat first | apply bd | apply be | apply ba); refine blk_put (cs := F5) ?_ 1 _ rfl; (with_reducible repeat first | apply bd | apply be | apply ba); refine blk_put (cs := F5) ?_ 0 _ rfl; (with_reducible repeat first | apply bd | apply be | apply ba); exact BK133.out) Try.underlying30 rfl (by kernel_rfl)) rfl ?_
               exact ⟨by first | rfl | (simp [errW_none, errW_some] <;> rfl) | (simp only [← hji7, ← hji8, ← hji22, ← hji24, ← hji28, ← hji30]; first | rfl | (simp [errW_none, errW_some] <;> rfl)) | (simp [*, errW_none, errW_some] <;> rfl), bl2 HB.out GE133.out GE149.out⟩
              ·rw [if_neg c51] at H
               have c51b0 : (a4 == 0) = false := beq_eq_false_iff_ne.mpr c51
               have c51b1 : (a4 != 0) = true := bne_iff_ne.mpr c51
               replace H := Option.bind_eq_some_iff.mp H
               obtain ⟨t154, A640, H⟩ := H
               replace H : ((format_Least.f a0).bind fun t155 => ((bits_Cut.f x17_24 t136).bind fun t156 => ((format_Join.f a0 a2 x19_30 ((t156) % 4294967296)).bind fun t157 => (some (t157, false, false, false, decide ((wrap64 ((wrap64 (ji8 + t154)) - 1)) < t155), true))))) = some (r1, r2, r3, r4, r5, r6) := H
               have A64 := Aside0.mk A640
               clear A640
               replace H := Option.bind_eq_some_iff.mp H
               obtain ⟨t155, A650, H⟩ := H
               replace H : ((bits_Cut.f x17_24 t136).bind fun t156 => ((format_Join.f a0 a2 x19_30 ((t156) % 4294967296)).bind fun t157 => (some (t157, false, false, false, decide ((wrap64 ((wrap64 (ji8 + t154)) - 1)) < t155), true)))) = some (r1, r2, r3, r4, r5, r6) := H
               have A65 := Aside0.mk A650
               clear A650
               replace H := Option.bind_eq_some_iff.mp H
               obtain ⟨t156, A660, H⟩ := H
               replace H : ((format_Join.f a0 a2 x19_30 ((t156) % 4294967296)).bind fun t157 => (some (t157, false, false, false, decide ((wrap64 ((wrap64 (ji8 + t154)) - 1)) < t155), true))) = some (r1, r2, r3, r4, r5, r6) := H
               have A66 := Aside0.mk A660
               clear A660
               replace H := Option.bind_eq_some_iff.mp H
               obtain ⟨t157, A670, H⟩ := H
               replace H : (some (t157, false, false, false, decide ((wrap64 ((wrap64 (ji8 + t154)) - 1)) < t155), true)) = some (r1, r2, r3, r4, r5, r6) := H
               have A67 := Aside0.mk A670
               clear A670
               simp only [Option.some.injEq, Prod.mk.injEq] at H
               obtain ⟨rfl, rfl, rfl, rfl, rfl, rfl⟩ := H
               try go_wp2_with (first | ((with_reducible refine gate_callee (f := 47) rfl ?_); refine goesL_ (some 83) rfl rfl Try.func47 (by kernel_rfl) rfl #[.int .i64 a0] rfl gl ?_; (with_reducible refine (format_Top.calls a0 t142 _ A33.out).mono ?_); rintro e w' ⟨rfl, ⟨nd, rfl⟩⟩; refine ⟨_, rfl, ?_⟩; (try (rw [drewN_self wc]; generalize hq_ : World.drewN wc _ = wc; have n0_ : Aside0 (wc.heap[gb133]? = some (.cells #[.bool false, .bool false, .bool false, .bool false, .bool false] 30 (0, 0))) := ⟨by rw [← hq_]; exact (bv BK133.out)⟩; have n1_ : Aside0 (Below w.heap.size w wc) := ⟨by rw [← hq_]; exact (bl1 HB.out GE133.out)⟩; clear BK133 HB hq_; have BK133 := n0_; have HB := n1_; clear n0_ n1_))) | ((with_reducible refine gate_dst (N := 20) rfl ?_); refine box_event ?hg (N := 20) ?hd (cs := F5) (t := 30) ?hr ?_; (case hd => rfl); (case hg => rfl); (case hr => first | (go_simp; done) | (go_simp; rfl)); intro gb149 hg w68 hbox hb; have n0_ := Aside0.mk (blk_below (g := gb133) (o := .cells #[.bool false, .bool false, .bool false, .bool false, .bool false] 30 (0, 0)) (bv BK133.out) hb); have n1_ := Aside0.mk (below_step (bl1 HB.out GE133.out) hb); have n2_ := Aside0.mk (hbox); have n3_ := Aside0.mk ((by rw [hg]; exact (below_size (bl1 HB.out GE133.out)) : w.heap.size ≤ gb149)); have n4_ := n3_; have n5_ := Aside0.mk ((by rw [hg]; exact Nat.ne_of_lt (blk_lt (g := gb133) (o := .cells F5 30 (0, 0)) (bv BK133.out)) : gb133 ≠ gb149)); have n6_ := Aside0.mk (Ne.symm n5_.out); clear BK133; clear HB; have BK133 := n0_; have HB := n1_; have BK149 := n2_; have GW149 := n3_; have GE149 := n4_; have NB133_149 := n5_; have NB149_133 := n6_; clear n0_ n1_ n2_ n3_ n4_ n5_ n6_; clear hb hbox hg; have hnb69 := NB149_133.out; have hnc69 := NB133_149.out; obtain ⟨hcz70_0, hcz70_1, hcz70_2, hcz70_3, hcz70_4⟩ := bc5 BK149.out; obtain ⟨hfz70_0, hfz70_1, hfz70_2, hfz70_3, hfz70_4⟩ := bf5 BK149.out) | ((with_reducible refine gate_store (t := 30) (p := 20) rfl ?_); refine store_event (t := 30) (p := 20) (v := ?vo_w71) (w1 := (((((w68.setCell ⟨gb149, 0, none⟩ (.bool false)).setCell ⟨gb149, 1, none⟩ (.bool false)).setCell ⟨gb149, 2, none⟩ (.bool false)).setCell ⟨gb149, 3, none⟩ (.bool false)).setCell ⟨gb149, 4, none⟩ (.bool true))) ?hg ?ho ?hn ?hr ?_; (case ho => rfl); (case hg => rfl); (case hn => rfl); (case hr => first | (go_simp; done) | (go_simp; rfl)); intro w71 hw; have n0_ : Aside0 (w71.heap[gb133]? = some (.cells #[.bool false, .bool false, .bool false, .bool false, .bool false] 30 (0, 0))) := ⟨(by rw [hw]; exact (by (with_reducible repeat first | apply bd | apply be | apply ba); refine blk_far ?_ NB133_149.out _; (with_reducible repeat first | apply bd | apply be | apply ba); refine blk_far ?_ NB133_149.out _; (with_reducible repeat first | apply bd | apply be | apply ba); refine blk_far ?_ NB133_149.out _; (with_reducible repeat first | apply bd | apply be | apply ba); refine blk_far ?_ NB133_149.out _; (with_reducible repeat first | apply bd | apply be | apply ba); refine blk_far ?_ NB133_149.out _; (with_reducible repeat first | apply bd | apply be | apply ba); exact BK133.out))⟩; have n1_ : Aside0 (w71.heap[gb149]? = some (.cells #[.bool false, .bool false, .bool false, .bool false, .bool true] 30 (0, 0))) := ⟨(by rw [hw]; exact (by (with_reducible repeat first | apply bd | apply be | apply ba); refine blk_put (cs := F5) ?_ 4 _ rfl; (with_reducible repeat first | apply bd | apply be | apply ba); refine blk_put (cs := F5) ?_ 3 _ rfl; (with_reducible repeat first | apply bd | apply be | apply ba); refine blk_put (cs := F5) ?_ 2 _ rfl; (with_reducible repeat first | apply bd | apply be | apply ba); refine blk_put (cs := F5) ?_ 1 _ rfl; (with_reducible repeat first | apply bd | apply be | apply ba); refine blk_put (cs := F5) ?_ 0 _ rfl; (with_reducible repeat first | apply bd | apply be | apply ba); exact BK149.out))⟩; have n2_ : Aside0 (Below w.heap.size w w71) := ⟨(by rw [hw]; exact (bl2 HB.out GE133.out GE149.out))⟩; clear hw; clear BK133; clear BK149; clear HB; have BK133 := n0_; have BK149 := n1_; have HB := n2_; clear n0_ n1_ n2_; obtain ⟨hcz72_0, hcz72_1, hcz72_2, hcz72_3, hcz72_4⟩ := bc5 BK149.out; obtain ⟨hfz72_0, hfz72_1, hfz72_2, hfz72_3, hfz72_4⟩ := bf5 BK149.out) | (go_at_call 49; (with_reducible refine (bits_Len.calls kj30 a4 t154 _ A64.out).mono ?_); rintro e w' ⟨rfl, ⟨nd, rfl⟩⟩; (try (rw [drewN_self w71]; generalize hq_ : World.drewN w71 _ = w71; have n0_ : Aside0 (w71.heap[gb133]? = some (.cells #[.bool false, .bool false, .bool false, .bool false, .bool false] 30 (0, 0))) := ⟨by rw [← hq_]; exact (bv BK133.out)⟩; have n1_ : Aside0 (w71.heap[gb149]? = some (.cells #[.bool false, .bool false, .bool false, .bool false, .bool true] 30 (0, 0))) := ⟨by rw [← hq_]; exact (bv BK149.out)⟩; have n2_ : Aside0 (Below w.heap.size w w71) := ⟨by rw [← hq_]; exact (bl2 HB.out GE133.out GE149.out)⟩; clear BK133 BK149 HB hq_; have BK133 := n0_; have BK149 := n1_; have HB := n2_; clear n0_ n1_ n2_))) | (go_at_call 46; (with_reducible refine (format_Least.calls a0 t155 _ A65.out).mono ?_); rintro e w' ⟨rfl, ⟨nd, rfl⟩⟩; (try (rw [drewN_self w71]; generalize hq_ : World.drewN w71 _ = w71; have n0_ : Aside0 (w71.heap[gb133]? = some (.cells #[.bool false, .bool false, .bool false, .bool false, .bool false] 30 (0, 0))) := ⟨by rw [← hq_]; exact (bv BK133.out)⟩; have n1_ : Aside0 (w71.heap[gb149]? = some (.cells #[.bool false, .bool false, .bool false, .bool false, .bool true] 30 (0, 0))) := ⟨by rw [← hq_]; exact (bv BK149.out)⟩; have n2_ : Aside0 (Below w.heap.size w w71) := ⟨by rw [← hq_]; exact (bl2 HB.out GE133.out GE149.out)⟩; clear BK133 BK149 HB hq_; have BK133 := n0_; have BK149 := n1_; have HB := n2_; clear n0_ n1_ n2_)); obtain ⟨hcz73_0, hcz73_1, hcz73_2, hcz73_3, hcz73_4⟩ := bc5 BK149.out; obtain ⟨hfz73_0, hfz73_1, hfz73_2, hfz73_3, hfz73_4⟩ := bf5 BK149.out))
               have n0_ : Aside0 ((w71.setCell ⟨gb149, 3, none⟩ (.bool (decide ((wrap64 ((wrap64 (ji8 + t154)) - 1)) < t155)))).heap[gb133]? = some (.cells #[.bool false, .bool false, .bool false, .bool false, .bool false] 30 (0, 0))) := ⟨by (with_reducible repeat first | apply bd | apply be | apply ba); refine blk_far ?_ NB133_149.out _; (with_reducible repeat first | apply bd | apply be | apply ba); exact BK133.out⟩
               have n1_ : Aside0 ((w71.setCell ⟨gb149, 3, none⟩ (.bool (decide ((wrap64 ((wrap64 (ji8 + t154)) - 1)) < t155)))).heap[gb149]? = some (.cells #[.bool false, .bool false, .bool false, .bool (decide ((wrap64 ((wrap64 (ji8 + t154)) - 1)) < t155)), .bool true] 30 (0, 0))) := ⟨by (with_reducible repeat first | apply bd | apply be | apply ba); refine blk_put (cs := #[.bool false, .bool false, .bool false, .bool false, .bool true]) ?_ 3 _ rfl; (with_reducible repeat first | apply bd | apply be | apply ba); exact BK149.out⟩
               have n2_ : Aside0 (Below w.heap.size w (w71.setCell ⟨gb149, 3, none⟩ (.bool (decide ((wrap64 ((wrap64 (ji8 + t154)) - 1)) < t155))))) := ⟨bl2 HB.out GE133.out GE149.out⟩
               (try clear BK133)
               (try clear BK149)
               (try clear HB)
               generalize (w71.setCell ⟨gb149, 3, none⟩ (.bool (decide ((wrap64 ((wrap64 (ji8 + t154)) - 1)) < t155)))) = w74 at n0_ n1_ n2_ ⊢
               have BK133 := n0_
               have BK149 := n1_
               have HB := n2_
               clear n0_ n1_ n2_
               have n0_ := Aside0.mk (blk_drew BK133.out)
               have n1_ := Aside0.mk (blk_drew BK149.out)
               have n2_ := Aside0.mk (below_drew1 HB.out)
               clear BK133
               clear BK149
               clear HB
               have BK133 := n0_
               have BK149 := n1_
               have HB := n2_
               clear n0_ n1_ n2_
               refine start_ (n := 11) (S := fun w' => w'.cell? ⟨gb149, 0, none⟩ = some (.bool false) ∧ w'.cell? ⟨gb149, 1, none⟩ = some (.bool false) ∧ w'.cell? ⟨gb149, 2, none⟩ = some (.bool false) ∧ w'.cell? ⟨gb149, 3, none⟩ = some (.bool (decide ((wrap64 ((wrap64 (ji8 + t154)) - 1)) < t155))) ∧ w'.cell? ⟨gb149, 4, none⟩ = some (.bool true)) (ds := []) (tf 0 11) (by kernel_rfl) rfl rfl ⟨(blk_cell BK149.out 0).trans rfl, (blk_cell BK149.out 1).trans rfl, (blk_cell BK149.out 2).trans rfl, (blk_cell BK149.out 3).trans rfl, (blk_cell BK149.out 4).trans rfl⟩ (fun hHeld => ?_); refine with_tabW round_Pack.tab18 round_Pack.bits18 (fun HT_ HW_ => ?_)
               generalize w74.drew = w75 at BK133 BK149 HB hHeld ⊢
               refine pure_ (i := 0) (N := some 111) (v := ?_) (a' := ?_) (tf 1 10) rfl rfl (any_of HT_.out (by kernel_rfl)) (fun _ _ _ h => h) (Or.inl ⟨by rfl, ?_⟩) ?_ ?_
               rotate_left
               ·intro w'
                go_simp
                with_reducible rfl
               rotate_left
               ·simp only [Act.put, sb, sz, ss, i64_w, i32_w]
                rfl
               refine pure_ (i := 1) (N := some 112) (v := ?_) (a' := ?_) (tf 2 9) rfl rfl (any_of HT_.out (by kernel_rfl)) (fun _ _ _ h => h) (Or.inl ⟨by rfl, ?_⟩) ?_ ?_
               rotate_left
               ·intro w'
                go_simp
                with_reducible rfl
               rotate_left
               ·simp only [Act.put, sb, sz, ss, i64_w, i32_w]
                rfl
               refine pure_ (i := 2) (N := some 113) (v := ?_) (a' := ?_) (tf 3 8) rfl rfl (any_of HT_.out (by kernel_rfl)) (fun _ _ _ h => h) (Or.inl ⟨by rfl, ?_⟩) ?_ ?_
               rotate_left
               ·intro w'
                go_simp
                with_reducible rfl
               rotate_left
               ·simp only [Act.put, sb, sz, ss, i64_w, i32_w]
                rfl
               refine pure_ (i := 3) (N := some 114) (v := ?_) (a' := ?_) (tf 4 7) rfl rfl (any_of HT_.out (by kernel_rfl)) (fun _ _ _ h => h) (Or.inl ⟨by rfl, ?_⟩) ?_ ?_
               rotate_left
               ·intro w'
                go_simp
                with_reducible rfl
               rotate_left
               ·simp only [Act.put, sb, sz, ss, i64_w, i32_w]
                rfl
               refine pure_ (i := 4) (N := some 115) (v := ?_) (a' := ?_) (tf 5 6) rfl rfl (any_of HT_.out (by kernel_rfl)) (fun _ _ _ h => h) (Or.inl ⟨by rfl, ?_⟩) ?_ ?_
               rotate_left
               ·intro w'
                go_simp
                with_reducible rfl
               rotate_left
               ·simp only [Act.put, sb, sz, ss, i64_w, i32_w]
                rfl
               refine take_ (i := 8) (N := some 119) (v := ?_) (a' := ?_) #[true, true, true, true, true, false, false, false, true, false, false] rfl rfl (take_ofW HT_.out HW_.out (by kernel_rfl)) (fun _ _ _ h => h) (Or.inl ⟨by rfl, ?_⟩) hHeld ?_ ?_
               rotate_left
               ·rintro w' ⟨s0, s1, s2, s3, s4⟩
                go_simp
                with_reducible rfl
               rotate_left
               ·simp only [Act.put, sb, sz, ss, i64_w, i32_w]
                rfl
               refine one_ (i := 5) (N := some 116) #[true, true, true, true, true, true, false, false, true, false, false] rfl rfl (one_of HT_.out (by kernel_rfl)) (by decide) (fun K hK => ?_)
               refine goes_ Try.func51 (by kernel_rfl) rfl #[.int .u64 x17_24, .int .i64 t136] (by rfl) rfl rfl gl ?_
               with_reducible refine (bits_Cut.calls x17_24 t136 t156 _ A66.out).mono ?_
               rintro e w' ⟨rfl, ⟨nd, rfl⟩⟩
               refine ⟨_, rfl, ?_⟩
               refine hK.out _ _ ⟨(blk_cell BK149.out 0).trans rfl, (blk_cell BK149.out 1).trans rfl, (blk_cell BK149.out 2).trans rfl, (blk_cell BK149.out 3).trans rfl, (blk_cell BK149.out 4).trans rfl⟩ (fun hHeld => ?_)
               clear hK K
               refine norm_ (a' := ?_) ?_ ?_
               rotate_left
               ·show Act.put _ (some 116) _ = _
                simp only [Act.put, sb, sz, ss, i64_w, i32_w]
                rfl
               refine pure_ (i := 6) (N := some 117) (v := ?_) (a' := ?_) #[true, true, true, true, true, true, true, false, true, false, false] rfl rfl (any_of HT_.out (by kernel_rfl)) (fun _ _ _ h => h) (Or.inl ⟨by rfl, ?_⟩) ?_ ?_
               rotate_left
               ·intro w'
                go_simp
                with_reducible rfl
               rotate_left
               ·simp only [Act.put, sb, sz, ss, i64_w, i32_w]
                rfl
               refine one_ (i := 7) (N := some 118) (tf 9 2) rfl rfl (one_of HT_.out (by kernel_rfl)) (by decide) (fun K hK => ?_)
               refine goes_ Try.func50 (by kernel_rfl) rfl #[.int .i64 a0, .bool a2, .int .i64 x19_30, .int .u32 ((t156) % 4294967296)] (by rfl) rfl rfl gl ?_
               with_reducible refine (format_Join.calls a0 a2 x19_30 ((t156) % 4294967296) t157 _ A67.out).mono ?_
               rintro e w' ⟨rfl, ⟨nd, rfl⟩⟩
               refine ⟨_, rfl, ?_⟩
               refine hK.out _ _ ⟨(blk_cell BK149.out 0).trans rfl, (blk_cell BK149.out 1).trans rfl, (blk_cell BK149.out 2).trans rfl, (blk_cell BK149.out 3).trans rfl, (blk_cell BK149.out 4).trans rfl⟩ (fun hHeld => ?_)
               clear hK K
               refine norm_ (a' := ?_) ?_ ?_
               rotate_left
               ·show Act.put _ (some 118) _ = _
                simp only [Act.put, sb, sz, ss, i64_w, i32_w]
                rfl
               refine pure_ (i := 9) (N := some 12) (v := ?_) (a' := ?_) (tf 10 1) rfl rfl (any_of HT_.out (by kernel_rfl)) (fun _ _ _ h => h) (Or.inl ⟨by rfl, ?_⟩) ?_ ?_
               rotate_left
               ·intro w'
                go_simp
                with_reducible rfl
               rotate_left
               ·simp only [Act.put, sb, sz, ss, i64_w, i32_w]
                rfl
               refine one_ (i := 10) (N := none) (tf 11 0) rfl rfl (one_of HT_.out (by kernel_rfl)) (by decide) (fun K hK => ?_)
               have hs76 : w75.cell? ⟨gb133, 0, none⟩ = some (.bool false) := (blk_cell BK133.out 0).trans rfl
               have hfs76 := blk_frozen BK133.out 0
               have hns76_1 := NB149_133.out
               have hms76_1 := NB133_149.out
               have hs77 : w75.cell? ⟨gb133, 1, none⟩ = some (.bool false) := (blk_cell BK133.out 1).trans rfl
               have hfs77 := blk_frozen BK133.out 1
               have hns77_1 := NB149_133.out
               have hms77_1 := NB133_149.out
               have hs78 : w75.cell? ⟨gb133, 2, none⟩ = some (.bool false) := (blk_cell BK133.out 2).trans rfl
               have hfs78 := blk_frozen BK133.out 2
               have hns78_1 := NB149_133.out
               have hms78_1 := NB133_149.out
               have hs79 : w75.cell? ⟨gb133, 3, none⟩ = some (.bool false) := (blk_cell BK133.out 3).trans rfl
               have hfs79 := blk_frozen BK133.out 3
               have hns79_1 := NB149_133.out
               have hms79_1 := NB133_149.out
               have hs80 : w75.cell? ⟨gb133, 4, none⟩ = some (.bool false) := (blk_cell BK133.out 4).trans rfl
               have hfs80 := blk_frozen BK133.out 4
               have hns80_1 := NB149_133.out
               have hms80_1 := NB133_149.out
               refine skip_ (w1 := ?_) (by rfl) rfl ?_ ?_
               rotate_left
               ·go_simp
                rfl
               refine hK.out _ _ ⟨(cf5 NB149_133.out (hHeld.1)), (cf5 NB149_133.out (hHeld.2.1)), (cf5 NB149_133.out (hHeld.2.2.1)), (cf5 NB149_133.out (hHeld.2.2.2.1)), (cf5 NB149_133.out (hHeld.2.2.2.2))⟩ (fun hHeld => ?_)
               clear hK K
               refine done_ (done_of HT_.out (by kernel_rfl)) ?_
               try go_wp2
               refine bodyPost_ret (results_tc rfl _ _ gb133 30 #[.bool false, .bool false, .bool false, .bool (decide ((wrap64 ((wrap64 (ji8 + t154)) - 1)) < t155)), .bool true] (0, 0) _ rfl (by (with_reducible repeat first | apply bd | apply be | apply ba); refine blk_put (cs := #[.bool false, .bool false, .bool false, .bool (decide ((wrap64 ((wrap64 (ji8 + t154)) - 1)) < t155)), .bool false]) ?_ 4 _ rfl; (with_reducible repeat first | apply bd | apply be | apply ba); refine blk_put (cs := F5) ?_ 3 _ rfl; (with_reducible repeat first | apply bd | apply be | apply ba); refine blk_put (cs := F5) ?_ 2 _ rfl; (with_reducible repeat first | apply bd | apply be | apply ba); refine blk_put (cs := F5) ?_ 1 _ rfl; (with_reducible repeat first | apply bd | apply be | apply ba); refine blk_put (cs := F5) ?_ 0 _ rfl; (with_reducible repeat first | apply bd | apply be | apply ba); exact BK133.out) Try.underlying30 rfl (by kernel_rfl)) rfl ?_
               exact ⟨by first | rfl | (simp [errW_none, errW_some] <;> rfl) | (simp only [← hji7, ← hji8, ← hji22, ← hji24, ← hji28, ← hji30]; first | rfl | (simp [errW_none, errW_some] <;> rfl)) | (simp [*, errW_none, errW_some] <;> rfl), bl2 HB.out GE133.out GE149.out⟩
         ·rw [if_neg c29] at H
          exact absurd H (by simp)
      ·rw [if_neg c23] at H
       exact absurd H (by simp)

end Go.Proofs.Ytoljndjpnbdjmaa.P
