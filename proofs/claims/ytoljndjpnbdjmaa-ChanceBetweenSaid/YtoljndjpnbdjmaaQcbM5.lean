import Derived.Test.YtoljndjpnbdjmaaQcbZ
import Derived.Test.YtoljndjpnbdjmaaQcbM1
import Derived.Test.YtoljndjpnbdjmaaQcbM2
import Derived.Test.YtoljndjpnbdjmaaQcbPx7
import Derived.Test.YtoljndjpnbdjmaaQcbM4
import Derived.Test.YtoljndjpnbdjmaaQcbM3
-- Printed by a program of this session's out of Lean's print of the translation; Lean checks it.
namespace Go.Proofs.Ytoljndjpnbdjmaa.P
open Go.RowKit Go.Proofs.YtoljndjpnbdjmaaW.PrintWords Go.Proofs.YtoljndjpnbdjmaaW.PrintLast Go.Proofs.YtoljndjpnbdjmaaW.PrintMore
attribute [local go_sem] max2_int min2_int max_two min_two max_three min_three max_four min_four   -- for this text's walks alone
set_option linter.unusedVariables false
set_option linter.unusedSimpArgs false

/-! ### chance_Narrow: function 38 -/
mutual
def chance_Narrow.j0 : Nat → Int → Int → Int → Bool → Option (Int)
 |0, _, _, _, _ => none
 |k + 1, x0, x1, x2, x20 => if x20 = true then ((conv_Narrow.f k x0 x1).bind fun t596 => (some t596)) else ((sum_Of.f 2 x1).bind fun bt597 => ((round_Unit.f k x0 bt597.2.1 bt597.2.2.1).bind fun t602 => ((bits_Shift.f k bt597.2.2.1 (wrap64 (t602 - bt597.2.1))).bind fun bt603 => (if (wrap64 (t602 - bt597.2.1)) ≤ 0 then (chance_Narrow.j1 k x0 x1 x2 t602 (wrap64 (t602 - bt597.2.1)) bt603.1 true bt597.1 bt597.2.1 bt597.2.2.1 bt597.2.2.2) else (chance_Narrow.j1 k x0 x1 x2 t602 (wrap64 (t602 - bt597.2.1)) bt603.1 (!bt603.2) bt597.1 bt597.2.1 bt597.2.2.1 bt597.2.2.2)))))
def chance_Narrow.j1 : Nat → Int → Int → Int → Int → Int → Int → Bool → Bool → Int → Int → Bool → Option (Int)
 |0, _, _, _, _, _, _, _, _, _, _, _ => none
 |k + 1, x0, x1, x2, x8, x9, x10, x48, x602000, x602001, x602002, x602003 => if x48 = true then ((conv_Narrow.f k x0 x1).bind fun t605 => (some t605)) else ((bits_Cut.f x602002 x9).bind fun t606 => ((chance_part.f k t606 x9).bind fun t607 => (if t607 > (IntKind.u64.wrap (x2)) then (chance_Narrow.j2 k x0 x8 (IntKind.u64.wrap (x10 + 1)) x602000 x602001 x602002 x602003) else (chance_Narrow.j2 k x0 x8 x10 x602000 x602001 x602002 x602003))))
def chance_Narrow.j2 : Nat → Int → Int → Int → Bool → Int → Int → Bool → Option (Int)
 |0, _, _, _, _, _, _, _ => none
 |k + 1, x0, x8, x10, x602000, x602001, x602002, x602003 => (round_Pack.f k x0 0 x602000 x8 x10 false).bind fun bt608 => (if bt608.2.2.2.1 = true then ((format_Inf.f x0 x602000).bind fun t615 => (some t615)) else (some bt608.1))
end
def chance_Narrow.f (k : Nat) (a0 : Int) (a1 : Int) (a2 : Int) : Option (Int) := (format_Finite.f 2 a1).bind fun t594 => (if t594 = true then ((format_IsZero.f k 2 a1).bind fun t595 => (chance_Narrow.j0 k a0 a1 a2 t595)) else (chance_Narrow.j0 k a0 a1 a2 true))
theorem chance_Narrow.mono_l : ∀ k, (∀ y0 y1 y2 y3, LeO (chance_Narrow.j0 k y0 y1 y2 y3) (chance_Narrow.j0 (k + 1) y0 y1 y2 y3)) ∧ (∀ y0 y1 y2 y3 y4 y5 y6 y7 y8 y9 y10, LeO (chance_Narrow.j1 k y0 y1 y2 y3 y4 y5 y6 y7 y8 y9 y10) (chance_Narrow.j1 (k + 1) y0 y1 y2 y3 y4 y5 y6 y7 y8 y9 y10)) ∧ (∀ y0 y1 y2 y3 y4 y5 y6, LeO (chance_Narrow.j2 k y0 y1 y2 y3 y4 y5 y6) (chance_Narrow.j2 (k + 1) y0 y1 y2 y3 y4 y5 y6))
 |0 => ⟨fun _ _ _ _ r h => by simp [chance_Narrow.j0] at h, fun _ _ _ _ _ _ _ _ _ _ _ r h => by simp [chance_Narrow.j1] at h, fun _ _ _ _ _ _ _ r h => by simp [chance_Narrow.j2] at h⟩
 |k + 1 => by
  obtain ⟨ih0, ih1, ih2⟩ := chance_Narrow.mono_l k
  refine ⟨?_, ?_, ?_⟩
  ·intro y0 y1 y2 y3
   unfold chance_Narrow.j0
   repeat' first
   |(with_reducible exact ih0 _ _ _ _)
   |(with_reducible exact ih1 _ _ _ _ _ _ _ _ _ _ _)
   |(with_reducible exact ih2 _ _ _ _ _ _ _)
   |(with_reducible exact bits_Shift.mono _ _ _)
   |(with_reducible exact chance_part.mono _ _ _)
   |(with_reducible exact conv_Narrow.mono _ _ _)
   |(with_reducible exact format_IsZero.mono _ _ _)
   |(with_reducible exact round_Pack.mono _ _ _ _ _ _ _)
   |(with_reducible exact round_Unit.mono _ _ _ _)
   |(with_reducible exact LeO.refl _)
   |(with_reducible exact LeO.none _)
   |(with_reducible refine LeO.ite ?_ ?_)
   |(with_reducible refine LeO.bind ?_ (fun _ => ?_))
   |exact ih0 _ _ _ _
   |exact ih1 _ _ _ _ _ _ _ _ _ _ _
   |exact ih2 _ _ _ _ _ _ _
   |exact bits_Shift.mono _ _ _
   |exact chance_part.mono _ _ _
   |exact conv_Narrow.mono _ _ _
   |exact format_IsZero.mono _ _ _
   |exact round_Pack.mono _ _ _ _ _ _ _
   |exact round_Unit.mono _ _ _ _
   |exact LeO.none _
   |refine LeO.ite ?_ ?_
   |refine LeO.bind ?_ (fun _ => ?_)
  ·intro y0 y1 y2 y3 y4 y5 y6 y7 y8 y9 y10
   unfold chance_Narrow.j1
   repeat' first
   |(with_reducible exact ih0 _ _ _ _)
   |(with_reducible exact ih1 _ _ _ _ _ _ _ _ _ _ _)
   |(with_reducible exact ih2 _ _ _ _ _ _ _)
   |(with_reducible exact bits_Shift.mono _ _ _)
   |(with_reducible exact chance_part.mono _ _ _)
   |(with_reducible exact conv_Narrow.mono _ _ _)
   |(with_reducible exact format_IsZero.mono _ _ _)
   |(with_reducible exact round_Pack.mono _ _ _ _ _ _ _)
   |(with_reducible exact round_Unit.mono _ _ _ _)
   |(with_reducible exact LeO.refl _)
   |(with_reducible exact LeO.none _)
   |(with_reducible refine LeO.ite ?_ ?_)
   |(with_reducible refine LeO.bind ?_ (fun _ => ?_))
   |exact ih0 _ _ _ _
   |exact ih1 _ _ _ _ _ _ _ _ _ _ _
   |exact ih2 _ _ _ _ _ _ _
   |exact bits_Shift.mono _ _ _
   |exact chance_part.mono _ _ _
   |exact conv_Narrow.mono _ _ _
   |exact format_IsZero.mono _ _ _
   |exact round_Pack.mono _ _ _ _ _ _ _
   |exact round_Unit.mono _ _ _ _
   |exact LeO.none _
   |refine LeO.ite ?_ ?_
   |refine LeO.bind ?_ (fun _ => ?_)
  ·intro y0 y1 y2 y3 y4 y5 y6
   unfold chance_Narrow.j2
   repeat' first
   |(with_reducible exact ih0 _ _ _ _)
   |(with_reducible exact ih1 _ _ _ _ _ _ _ _ _ _ _)
   |(with_reducible exact ih2 _ _ _ _ _ _ _)
   |(with_reducible exact bits_Shift.mono _ _ _)
   |(with_reducible exact chance_part.mono _ _ _)
   |(with_reducible exact conv_Narrow.mono _ _ _)
   |(with_reducible exact format_IsZero.mono _ _ _)
   |(with_reducible exact round_Pack.mono _ _ _ _ _ _ _)
   |(with_reducible exact round_Unit.mono _ _ _ _)
   |(with_reducible exact LeO.refl _)
   |(with_reducible exact LeO.none _)
   |(with_reducible refine LeO.ite ?_ ?_)
   |(with_reducible refine LeO.bind ?_ (fun _ => ?_))
   |exact ih0 _ _ _ _
   |exact ih1 _ _ _ _ _ _ _ _ _ _ _
   |exact ih2 _ _ _ _ _ _ _
   |exact bits_Shift.mono _ _ _
   |exact chance_part.mono _ _ _
   |exact conv_Narrow.mono _ _ _
   |exact format_IsZero.mono _ _ _
   |exact round_Pack.mono _ _ _ _ _ _ _
   |exact round_Unit.mono _ _ _ _
   |exact LeO.none _
   |refine LeO.ite ?_ ?_
   |refine LeO.bind ?_ (fun _ => ?_)
theorem chance_Narrow.mono : ∀ a0 a1 a2 k, LeO (chance_Narrow.f k a0 a1 a2) (chance_Narrow.f (k + 1) a0 a1 a2) := by
 intro a0 a1 a2 k
 obtain ⟨ih0, ih1, ih2⟩ := chance_Narrow.mono_l k
 unfold chance_Narrow.f
 repeat' first
   |(with_reducible exact ih0 _ _ _ _)
   |(with_reducible exact ih1 _ _ _ _ _ _ _ _ _ _ _)
   |(with_reducible exact ih2 _ _ _ _ _ _ _)
   |(with_reducible exact bits_Shift.mono _ _ _)
   |(with_reducible exact chance_part.mono _ _ _)
   |(with_reducible exact conv_Narrow.mono _ _ _)
   |(with_reducible exact format_IsZero.mono _ _ _)
   |(with_reducible exact round_Pack.mono _ _ _ _ _ _ _)
   |(with_reducible exact round_Unit.mono _ _ _ _)
   |(with_reducible exact LeO.refl _)
   |(with_reducible exact LeO.none _)
   |(with_reducible refine LeO.ite ?_ ?_)
   |(with_reducible refine LeO.bind ?_ (fun _ => ?_))
   |exact ih0 _ _ _ _
   |exact ih1 _ _ _ _ _ _ _ _ _ _ _
   |exact ih2 _ _ _ _ _ _ _
   |exact bits_Shift.mono _ _ _
   |exact chance_part.mono _ _ _
   |exact conv_Narrow.mono _ _ _
   |exact format_IsZero.mono _ _ _
   |exact round_Pack.mono _ _ _ _ _ _ _
   |exact round_Unit.mono _ _ _ _
   |exact LeO.none _
   |refine LeO.ite ?_ ?_
   |refine LeO.bind ?_ (fun _ => ?_)
set_option maxHeartbeats 8000000 in
set_option maxRecDepth 100000 in
theorem chance_Narrow.calls (k : Nat) (a0 : Int) (a1 : Int) (a2 : Int) (r : Int) (w : World) (h : chance_Narrow.f k a0 a1 a2 = some r) :
  Calls Try.prog 38 #[.int .i64 a0, .int .u32 a1, .int .u32 a2] w fun e w' => e = .returned (.int .u32 r) ∧ Below w.heap.size w w' := by
 have hu78 := Try.underlying78
 have hu30 := Try.underlying30
 have HB := Aside0.mk (Below.refl w.heap.size w)
 have H : ((format_Finite.f 2 a1).bind fun t594 => (if t594 = true then ((format_IsZero.f k 2 a1).bind fun t595 => (chance_Narrow.j0 k a0 a1 a2 t595)) else (chance_Narrow.j0 k a0 a1 a2 true))) = some r := h
 clear h
 have HC4 := Aside0.mk H
 clear H
 go_enter Try.func38, Try.ntmps38
 go_upto_region 1 with (fail)
 go_cut [20] (fun v20 wc => ∃ (kq : Nat) (x20_3 : Bool), v20 = .bool x20_3 ∧ Aside0 (chance_Narrow.j0 kq a0 a1 a2 x20_3 = some r) ∧ Aside0 (kq ≤ k) ∧ Aside0 (Below w.heap.size w wc))
 case first =>
  have H := HC4.out
  clear HC4
  replace H := Option.bind_eq_some_iff.mp H
  obtain ⟨t594, A50, H⟩ := H
  replace H : (if t594 = true then ((format_IsZero.f k 2 a1).bind fun t595 => (chance_Narrow.j0 k a0 a1 a2 t595)) else (chance_Narrow.j0 k a0 a1 a2 true)) = some r := H
  have A5 := Aside0.mk A50
  clear A50
  by_cases c6 : t594 = true
  ·subst c6
   have H1 : ((format_IsZero.f k 2 a1).bind fun t595 => (chance_Narrow.j0 k a0 a1 a2 t595)) = some r := by rw [if_pos rfl] at H; exact H
   clear H
   have H := H1
   clear H1
   replace H := Option.bind_eq_some_iff.mp H
   obtain ⟨t595, A70, H⟩ := H
   replace H : (chance_Narrow.j0 k a0 a1 a2 t595) = some r := H
   have A7 := Aside0.mk A70
   clear A70
   have H' := Aside0.mk H
   clear H
   go_wp2_with (first | ((with_reducible refine gate_callee (f := 71) rfl ?_); refine goesL_ (some 15) rfl rfl Try.func71 (by kernel_rfl) rfl #[.int .i64 2, .int .u32 a1] rfl gl ?_; (with_reducible refine (format_Finite.calls 2 a1 true _ A5.out).mono ?_); rintro e w' ⟨rfl, ⟨nd, rfl⟩⟩; refine ⟨_, rfl, ?_⟩) | (go_at_call 72; (with_reducible refine (format_IsZero.calls k 2 a1 t595 _ A7.out).mono ?_); rintro e w' ⟨rfl, ⟨nd, rfl⟩⟩))
   go_meet
   case rel => exact ⟨_, (t595), (by first | rfl | (simp; done) | (simp [*]; done) | (congr 1; (try unfold wrap64); omega) | (congr 1; rw [IntKind.wrap_u64]; omega)), H', ⟨by first | omega | exact Nat.le_refl _⟩, ⟨bl0 HB.out⟩⟩
  ·replace c6 := Bool.eq_false_iff.mpr c6
   subst c6
   have H1 : (chance_Narrow.j0 k a0 a1 a2 true) = some r := by rw [if_neg (show ¬ (false = true) by decide)] at H; exact H
   clear H
   have H := H1
   clear H1
   have H' := Aside0.mk H
   clear H
   go_wp2_with (first | ((with_reducible refine gate_callee (f := 71) rfl ?_); refine goesL_ (some 15) rfl rfl Try.func71 (by kernel_rfl) rfl #[.int .i64 2, .int .u32 a1] rfl gl ?_; (with_reducible refine (format_Finite.calls 2 a1 false _ A5.out).mono ?_); rintro e w' ⟨rfl, ⟨nd, rfl⟩⟩; refine ⟨_, rfl, ?_⟩))
   go_meet
   case rel => exact ⟨_, (true), (by first | rfl | (simp; done) | (simp [*]; done) | (congr 1; (try unfold wrap64); omega) | (congr 1; rw [IntKind.wrap_u64]; omega)), H', ⟨by first | omega | exact Nat.le_refl _⟩, ⟨bl0 HB.out⟩⟩
 case rest =>
  clear HC4
  try clear p2 c3 c6 p6 c7
  obtain ⟨kq, x20_3, rfl, HA, HJ3, HB⟩ := hcut
  cases kq with
  |zero => exact absurd HA.out (by simp [chance_Narrow.j0])
  |succ kj3 =>
   have H := HA.out
   clear HA
   simp only [chance_Narrow.j0] at H
   by_cases c8 : x20_3 = true
   ·subst c8
    have H1 : ((conv_Narrow.f kj3 a0 a1).bind fun t596 => (some t596)) = some r := by rw [if_pos rfl] at H; exact H
    clear H
    have H := H1
    clear H1
    replace H := Option.bind_eq_some_iff.mp H
    obtain ⟨t596, A90, H⟩ := H
    replace H : (some t596) = some r := H
    have A9 := Aside0.mk A90
    clear A90
    obtain rfl := Option.some.inj H
    go_wp2_with (first | ((with_reducible refine gate_callee (f := 32) rfl ?_); refine goesL_ (some 23) rfl rfl Try.func32 (by kernel_rfl) rfl #[.int .i64 a0, .int .u32 a1] rfl gl ?_; (with_reducible refine (conv_Narrow.calls kj3 a0 a1 t596 _ A9.out).mono ?_); rintro e w10 ⟨rfl, hb⟩; refine ⟨_, rfl, ?_⟩; have n0_ := Aside0.mk (below_step (bl0 HB.out) hb); clear HB; have HB := n0_; clear n0_))
    go_ret
    exact ⟨by first | rfl | (simp [errW_none, errW_some] <;> rfl) | (simp [*, errW_none, errW_some] <;> rfl), bl0 HB.out⟩
   ·replace c8 := Bool.eq_false_iff.mpr c8
    subst c8
    have H1 : ((sum_Of.f 2 a1).bind fun bt597 => ((round_Unit.f kj3 a0 bt597.2.1 bt597.2.2.1).bind fun t602 => ((bits_Shift.f kj3 bt597.2.2.1 (wrap64 (t602 - bt597.2.1))).bind fun bt603 => (if (wrap64 (t602 - bt597.2.1)) ≤ 0 then (chance_Narrow.j1 kj3 a0 a1 a2 t602 (wrap64 (t602 - bt597.2.1)) bt603.1 true bt597.1 bt597.2.1 bt597.2.2.1 bt597.2.2.2) else (chance_Narrow.j1 kj3 a0 a1 a2 t602 (wrap64 (t602 - bt597.2.1)) bt603.1 (!bt603.2) bt597.1 bt597.2.1 bt597.2.2.1 bt597.2.2.2))))) = some r := by rw [if_neg (show ¬ (false = true) by decide)] at H; exact H
    clear H
    have H := H1
    clear H1
    replace H := Option.bind_eq_some_iff.mp H
    obtain ⟨⟨t597, t598, t599, t600⟩, A110, H⟩ := H
    replace H : ((round_Unit.f kj3 a0 t598 t599).bind fun t602 => ((bits_Shift.f kj3 t599 (wrap64 (t602 - t598))).bind fun bt603 => (if (wrap64 (t602 - t598)) ≤ 0 then (chance_Narrow.j1 kj3 a0 a1 a2 t602 (wrap64 (t602 - t598)) bt603.1 true t597 t598 t599 t600) else (chance_Narrow.j1 kj3 a0 a1 a2 t602 (wrap64 (t602 - t598)) bt603.1 (!bt603.2) t597 t598 t599 t600)))) = some r := H
    have A11 := Aside0.mk A110
    clear A110
    replace H := Option.bind_eq_some_iff.mp H
    obtain ⟨t602, A120, H⟩ := H
    replace H : ((bits_Shift.f kj3 t599 (wrap64 (t602 - t598))).bind fun bt603 => (if (wrap64 (t602 - t598)) ≤ 0 then (chance_Narrow.j1 kj3 a0 a1 a2 t602 (wrap64 (t602 - t598)) bt603.1 true t597 t598 t599 t600) else (chance_Narrow.j1 kj3 a0 a1 a2 t602 (wrap64 (t602 - t598)) bt603.1 (!bt603.2) t597 t598 t599 t600))) = some r := H
    have A12 := Aside0.mk A120
    clear A120
    replace H := Option.bind_eq_some_iff.mp H
    obtain ⟨⟨t603, t604⟩, A130, H⟩ := H
    replace H : (if (wrap64 (t602 - t598)) ≤ 0 then (chance_Narrow.j1 kj3 a0 a1 a2 t602 (wrap64 (t602 - t598)) t603 true t597 t598 t599 t600) else (chance_Narrow.j1 kj3 a0 a1 a2 t602 (wrap64 (t602 - t598)) t603 (!t604) t597 t598 t599 t600)) = some r := H
    have A13 := Aside0.mk A130
    clear A130
    have HC14 := Aside0.mk H
    clear H
    go_upto_region 7 with (first | ((with_reducible refine gate_callee (f := 66) rfl ?_); refine goesL_ (some 25) rfl rfl Try.func66 (by kernel_rfl) rfl #[.int .i64 2, .int .u32 a1] rfl gl ?_; (with_reducible refine (sum_Of.calls 2 a1 t597 t598 t599 t600 _ A11.out).mono ?_); rintro e w15 ⟨rfl, hb⟩; refine ⟨_, rfl, ?_⟩; have n0_ := Aside0.mk (below_step (bl0 HB.out) hb); clear HB; have HB := n0_; clear n0_) | ((with_reducible refine gate_dst (N := 7) rfl ?_); refine box_event ?hg (N := 7) ?hd (cs := #[.bool false, .int .i64 0, .int .u64 0, .bool false]) (t := 78) ?hr ?_; (case hd => rfl); (case hg => rfl); (case hr => first | (go_simp; done) | (go_simp; rfl)); intro gb601 hg w16 hbox hb; have n0_ := Aside0.mk (below_step (bl0 HB.out) hb); have n1_ := Aside0.mk (hbox); have n2_ := Aside0.mk ((by rw [hg]; exact (below_size (bl0 HB.out)) : w.heap.size ≤ gb601)); have n3_ := n2_; clear HB; have HB := n0_; have BK601 := n1_; have GW601 := n2_; have GE601 := n3_; clear n0_ n1_ n2_ n3_; clear hb hbox hg; obtain ⟨hcz17_0, hcz17_1, hcz17_2, hcz17_3⟩ := bc4 BK601.out; obtain ⟨hfz17_0, hfz17_1, hfz17_2, hfz17_3⟩ := bf4 BK601.out) | ((with_reducible refine gate_callee (f := 43) rfl ?_); refine goesL_ (some 31) rfl rfl Try.func43 (by kernel_rfl) rfl #[.int .i64 a0, .int .i64 t598, .int .u64 t599] rfl gl ?_; (with_reducible refine (round_Unit.calls kj3 a0 t598 t599 t602 _ A12.out).mono ?_); rintro e w18 ⟨rfl, hb⟩; refine ⟨_, rfl, ?_⟩; have n0_ := Aside0.mk (blk_below (g := gb601) (o := .cells #[.bool t597, .int .i64 t598, .int .u64 t599, .bool t600] 78 (0, 0)) (by (with_reducible repeat first | apply bd | apply be | apply ba); refine blk_put (cs := #[.bool t597, .int .i64 t598, .int .u64 t599, .bool false]) ?_ 3 _ rfl; (with_reducible repeat first | apply bd | apply be | apply ba); refine blk_put (cs := #[.bool t597, .int .i64 t598, .int .u64 0, .bool false]) ?_ 2 _ rfl; (with_reducible repeat first | apply bd | apply be | apply ba); refine blk_put (cs := #[.bool t597, .int .i64 0, .int .u64 0, .bool false]) ?_ 1 _ rfl; (with_reducible repeat first | apply bd | apply be | apply ba); refine blk_put (cs := #[.bool false, .int .i64 0, .int .u64 0, .bool false]) ?_ 0 _ rfl; (with_reducible repeat first | apply bd | apply be | apply ba); exact BK601.out) hb); have n1_ := Aside0.mk (below_step (bl1 HB.out GE601.out) hb); clear BK601; clear HB; have BK601 := n0_; have HB := n1_; clear n0_ n1_; obtain ⟨hcz19_0, hcz19_1, hcz19_2, hcz19_3⟩ := bc4 BK601.out; obtain ⟨hfz19_0, hfz19_1, hfz19_2, hfz19_3⟩ := bf4 BK601.out) | ((with_reducible refine gate_callee (f := 73) rfl ?_); refine goesL_ (some 40) rfl rfl Try.func73 (by kernel_rfl) rfl #[.int .u64 t599, .int .i64 (wrap64 (t602 - t598))] rfl gl ?_; (with_reducible refine (bits_Shift.calls kj3 t599 (wrap64 (t602 - t598)) t603 t604 _ A13.out).mono ?_); rintro e w' ⟨rfl, ⟨nd, rfl⟩⟩; refine ⟨_, rfl, ?_⟩))
    (try simp only [Act.put, sb, sz, ss])
    go_cut [48] (fun v48 wc => ∃ (kq : Nat) (x48_13 : Bool), v48 = .bool x48_13 ∧ Aside0 (chance_Narrow.j1 kq a0 a1 a2 t602 (wrap64 (t602 - t598)) t603 x48_13 t597 t598 t599 t600 = some r) ∧ Aside0 (kq ≤ kj3) ∧ Aside0 (wc.heap[gb601]? = some (.cells #[.bool t597, .int .i64 t598, .int .u64 t599, .bool t600] 78 (0, 0))) ∧ Aside0 (Below w.heap.size w wc))
    case first =>
     have H := HC14.out
     clear HC14
     by_cases c20 : (wrap64 (t602 - t598)) ≤ 0
     ·rw [if_pos c20] at H
      have c20b0 : decide ((wrap64 (t602 - t598)) ≤ 0) = true := decide_eq_true c20
      clear c20
      (first | rw [c20b0] | (simp only [i64_w, i32_w]; rw [c20b0]) | skip)
      have H' := Aside0.mk H
      clear H
      go_wp2
      go_meet
      case rel => exact ⟨_, (true), (by first | rfl | (simp; done) | (simp [*]; done) | (congr 1; (try unfold wrap64); omega) | (congr 1; rw [IntKind.wrap_u64]; omega)), H', ⟨by have := HJ3.out; first | omega | exact Nat.le_refl _⟩, ⟨by (with_reducible repeat first | apply bd | apply be | apply ba); exact BK601.out⟩, ⟨bl1 HB.out GE601.out⟩⟩
     ·rw [if_neg c20] at H
      have c20b0 : decide ((wrap64 (t602 - t598)) ≤ 0) = false := decide_eq_false c20
      clear c20
      (first | rw [c20b0] | (simp only [i64_w, i32_w]; rw [c20b0]) | skip)
      have H' := Aside0.mk H
      clear H
      go_wp2
      go_meet
      case rel => exact ⟨_, (!t604), (by first | rfl | (simp; done) | (simp [*]; done) | (congr 1; (try unfold wrap64); omega) | (congr 1; rw [IntKind.wrap_u64]; omega)), H', ⟨by have := HJ3.out; first | omega | exact Nat.le_refl _⟩, ⟨by (with_reducible repeat first | apply bd | apply be | apply ba); exact BK601.out⟩, ⟨bl1 HB.out GE601.out⟩⟩
    case rest =>
     clear HC14
     try clear c2 p2 c3 c4 c6 p6 c7 c8 c20 c20b0 hcz17_0 hcz17_1 hcz17_2 hcz17_3 hcz19_0 hcz19_1 hcz19_2 hcz19_3 hfz17_0 hfz17_1 hfz17_2 hfz17_3 hfz19_0 hfz19_1 hfz19_2 hfz19_3 p2 p6
     obtain ⟨kq, x48_13, rfl, HA, HJ13, BK601, HB⟩ := hcut
     cases kq with
     |zero => exact absurd HA.out (by simp [chance_Narrow.j1])
     |succ kj13 =>
      have H := HA.out
      clear HA
      simp only [chance_Narrow.j1] at H
      by_cases c21 : x48_13 = true
      ·subst c21
       have H1 : ((conv_Narrow.f kj13 a0 a1).bind fun t605 => (some t605)) = some r := by rw [if_pos rfl] at H; exact H
       clear H
       have H := H1
       clear H1
       replace H := Option.bind_eq_some_iff.mp H
       obtain ⟨t605, A220, H⟩ := H
       replace H : (some t605) = some r := H
       have A22 := Aside0.mk A220
       clear A220
       obtain rfl := Option.some.inj H
       go_wp2_with (first | ((with_reducible refine gate_callee (f := 32) rfl ?_); refine goesL_ (some 51) rfl rfl Try.func32 (by kernel_rfl) rfl #[.int .i64 a0, .int .u32 a1] rfl gl ?_; (with_reducible refine (conv_Narrow.calls kj13 a0 a1 t605 _ A22.out).mono ?_); rintro e w23 ⟨rfl, hb⟩; refine ⟨_, rfl, ?_⟩; have n0_ := Aside0.mk (blk_below (g := gb601) (o := .cells #[.bool t597, .int .i64 t598, .int .u64 t599, .bool t600] 78 (0, 0)) (bv BK601.out) hb); have n1_ := Aside0.mk (below_step (bl1 HB.out GE601.out) hb); clear BK601; clear HB; have BK601 := n0_; have HB := n1_; clear n0_ n1_))
       go_ret
       exact ⟨by first | rfl | (simp [errW_none, errW_some] <;> rfl) | (simp [*, errW_none, errW_some] <;> rfl), bl1 HB.out GE601.out⟩
      ·replace c21 := Bool.eq_false_iff.mpr c21
       subst c21
       have H1 : ((bits_Cut.f t599 (wrap64 (t602 - t598))).bind fun t606 => ((chance_part.f kj13 t606 (wrap64 (t602 - t598))).bind fun t607 => (if t607 > (IntKind.u64.wrap (a2)) then (chance_Narrow.j2 kj13 a0 t602 (IntKind.u64.wrap (t603 + 1)) t597 t598 t599 t600) else (chance_Narrow.j2 kj13 a0 t602 t603 t597 t598 t599 t600)))) = some r := by rw [if_neg (show ¬ (false = true) by decide)] at H; exact H
       clear H
       have H := H1
       clear H1
       replace H := Option.bind_eq_some_iff.mp H
       obtain ⟨t606, A240, H⟩ := H
       replace H : ((chance_part.f kj13 t606 (wrap64 (t602 - t598))).bind fun t607 => (if t607 > (IntKind.u64.wrap (a2)) then (chance_Narrow.j2 kj13 a0 t602 (IntKind.u64.wrap (t603 + 1)) t597 t598 t599 t600) else (chance_Narrow.j2 kj13 a0 t602 t603 t597 t598 t599 t600))) = some r := H
       have A24 := Aside0.mk A240
       clear A240
       replace H := Option.bind_eq_some_iff.mp H
       obtain ⟨t607, A250, H⟩ := H
       replace H : (if t607 > (IntKind.u64.wrap (a2)) then (chance_Narrow.j2 kj13 a0 t602 (IntKind.u64.wrap (t603 + 1)) t597 t598 t599 t600) else (chance_Narrow.j2 kj13 a0 t602 t603 t597 t598 t599 t600)) = some r := H
       have A25 := Aside0.mk A250
       clear A250
       have HC26 := Aside0.mk H
       clear H
       have hcz27_0 : wc.cell? ⟨gb601, 0, none⟩ = some (.bool t597) := (blk_cell BK601.out 0).trans rfl
       have hcz27_1 : wc.cell? ⟨gb601, 1, none⟩ = some (.int .i64 t598) := (blk_cell BK601.out 1).trans rfl
       have hcz27_2 : wc.cell? ⟨gb601, 2, none⟩ = some (.int .u64 t599) := (blk_cell BK601.out 2).trans rfl
       have hcz27_3 : wc.cell? ⟨gb601, 3, none⟩ = some (.bool t600) := (blk_cell BK601.out 3).trans rfl
       have hfz27_0 := blk_frozen BK601.out 0
       have hfz27_1 := blk_frozen BK601.out 1
       have hfz27_2 := blk_frozen BK601.out 2
       have hfz27_3 := blk_frozen BK601.out 3
       go_upto_if 60 with (first | ((with_reducible refine gate_callee (f := 51) rfl ?_); refine goesL_ (some 55) rfl rfl Try.func51 (by kernel_rfl) rfl #[.int .u64 t599, .int .i64 (wrap64 (t602 - t598))] rfl gl ?_; (with_reducible refine (bits_Cut.calls t599 (wrap64 (t602 - t598)) t606 _ A24.out).mono ?_); rintro e w' ⟨rfl, ⟨nd, rfl⟩⟩; refine ⟨_, rfl, ?_⟩) | ((with_reducible refine gate_callee (f := 74) rfl ?_); refine goesL_ (some 57) rfl rfl Try.func74 (by kernel_rfl) rfl #[.int .u64 t606, .int .i64 (wrap64 (t602 - t598))] rfl gl ?_; (with_reducible refine (chance_part.calls kj13 t606 (wrap64 (t602 - t598)) t607 _ A25.out).mono ?_); rintro e w' ⟨rfl, ⟨nd, rfl⟩⟩; refine ⟨_, rfl, ?_⟩))
       (try simp only [Act.put, sb, sz, ss])
       go_cut [10] (fun v10 wc => ∃ (kq : Nat) (x10_25 : Int), v10 = .int .u64 x10_25 ∧ Aside0 (chance_Narrow.j2 kq a0 t602 x10_25 t597 t598 t599 t600 = some r) ∧ Aside0 (kq ≤ kj13) ∧ Aside0 (wc.heap[gb601]? = some (.cells #[.bool t597, .int .i64 t598, .int .u64 t599, .bool t600] 78 (0, 0))) ∧ Aside0 (Below w.heap.size w wc))
       case first =>
        have H := HC26.out
        clear HC26
        by_cases c28 : t607 > (IntKind.u64.wrap (a2))
        ·rw [if_pos c28] at H
         have c28b0 : decide ((IntKind.u64.wrap (a2)) < t607) = true := decide_eq_true c28
         clear c28
         (first | rw [c28b0] | (simp only [i64_w, i32_w]; rw [c28b0]) | skip)
         have H' := Aside0.mk H
         clear H
         go_wp2
         go_meet
         case rel => exact ⟨_, (IntKind.u64.wrap (t603 + 1)), (by first | rfl | (simp; done) | (simp [*]; done) | (congr 1; (try unfold wrap64); omega) | (congr 1; rw [IntKind.wrap_u64]; omega)), H', ⟨by have := HJ3.out; have := HJ13.out; first | omega | exact Nat.le_refl _⟩, ⟨by (with_reducible repeat first | apply bd | apply be | apply ba); exact BK601.out⟩, ⟨bl1 HB.out GE601.out⟩⟩
        ·rw [if_neg c28] at H
         have c28b0 : decide ((IntKind.u64.wrap (a2)) < t607) = false := decide_eq_false c28
         clear c28
         (first | rw [c28b0] | (simp only [i64_w, i32_w]; rw [c28b0]) | skip)
         have H' := Aside0.mk H
         clear H
         go_wp2
         go_meet
         case rel => exact ⟨_, (t603), (by first | rfl | (simp; done) | (simp [*]; done) | (congr 1; (try unfold wrap64); omega) | (congr 1; rw [IntKind.wrap_u64]; omega)), H', ⟨by have := HJ3.out; have := HJ13.out; first | omega | exact Nat.le_refl _⟩, ⟨by (with_reducible repeat first | apply bd | apply be | apply ba); exact BK601.out⟩, ⟨bl1 HB.out GE601.out⟩⟩
       case rest =>
        clear HC26
        try clear c2 p2 c3 c4 c5 c6 p6 c7 c8 c20 c20b0 c21 c28 c28b0 hcz17_0 hcz17_1 hcz17_2 hcz17_3 hcz19_0 hcz19_1 hcz19_2 hcz19_3 hcz27_0 hcz27_1 hcz27_2 hcz27_3 hfz17_0 hfz17_1 hfz17_2 hfz17_3 hfz19_0 hfz19_1 hfz19_2 hfz19_3 hfz27_0 hfz27_1 hfz27_2 hfz27_3 p2 p6
        obtain ⟨kq, x10_25, rfl, HA, HJ25, BK601, HB⟩ := hcut
        cases kq with
        |zero => exact absurd HA.out (by simp [chance_Narrow.j2])
        |succ kj25 =>
         have H := HA.out
         clear HA
         simp only [chance_Narrow.j2] at H
         replace H := Option.bind_eq_some_iff.mp H
         obtain ⟨⟨t608, t609, t610, t611, t612, t613⟩, A290, H⟩ := H
         replace H : (if t611 = true then ((format_Inf.f a0 t597).bind fun t615 => (some t615)) else (some t608)) = some r := H
         have A29 := Aside0.mk A290
         clear A290
         by_cases c30 : t611 = true
         ·subst c30
          have H1 : ((format_Inf.f a0 t597).bind fun t615 => (some t615)) = some r := by rw [if_pos rfl] at H; exact H
          clear H
          have H := H1
          clear H1
          replace H := Option.bind_eq_some_iff.mp H
          obtain ⟨t615, A310, H⟩ := H
          replace H : (some t615) = some r := H
          have A31 := Aside0.mk A310
          clear A310
          obtain rfl := Option.some.inj H
          have hcz32_0 : wc.cell? ⟨gb601, 0, none⟩ = some (.bool t597) := (blk_cell BK601.out 0).trans rfl
          have hcz32_1 : wc.cell? ⟨gb601, 1, none⟩ = some (.int .i64 t598) := (blk_cell BK601.out 1).trans rfl
          have hcz32_2 : wc.cell? ⟨gb601, 2, none⟩ = some (.int .u64 t599) := (blk_cell BK601.out 2).trans rfl
          have hcz32_3 : wc.cell? ⟨gb601, 3, none⟩ = some (.bool t600) := (blk_cell BK601.out 3).trans rfl
          have hfz32_0 := blk_frozen BK601.out 0
          have hfz32_1 := blk_frozen BK601.out 1
          have hfz32_2 := blk_frozen BK601.out 2
          have hfz32_3 := blk_frozen BK601.out 3
          go_wp2_with (first | ((with_reducible refine gate_callee (f := 17) rfl ?_); refine goesL_ (some 69) rfl rfl Try.func17 (by kernel_rfl) rfl #[.int .i64 a0, .int .i64 0, .bool t597, .int .i64 t602, .int .u64 x10_25, .bool false] rfl gl ?_; (with_reducible refine (round_Pack.calls kj25 a0 0 t597 t602 x10_25 false t608 t609 t610 true t612 t613 _ A29.out).mono ?_); rintro e w33 ⟨rfl, hb⟩; refine ⟨_, rfl, ?_⟩; have n0_ := Aside0.mk (blk_below (g := gb601) (o := .cells #[.bool t597, .int .i64 t598, .int .u64 t599, .bool t600] 78 (0, 0)) (bv BK601.out) hb); have n1_ := Aside0.mk (below_step (bl1 HB.out GE601.out) hb); clear BK601; clear HB; have BK601 := n0_; have HB := n1_; clear n0_ n1_) | ((with_reducible refine gate_dst (N := 13) rfl ?_); refine box_event ?hg (N := 13) ?hd (cs := F5) (t := 30) ?hr ?_; (case hd => rfl); (case hg => rfl); (case hr => first | (go_simp; done) | (go_simp; rfl)); intro gb614 hg w34 hbox hb; have n0_ := Aside0.mk (blk_below (g := gb601) (o := .cells #[.bool t597, .int .i64 t598, .int .u64 t599, .bool t600] 78 (0, 0)) (bv BK601.out) hb); have n1_ := Aside0.mk (below_step (bl1 HB.out GE601.out) hb); have n2_ := Aside0.mk (hbox); have n3_ := Aside0.mk ((by rw [hg]; exact (below_size (bl1 HB.out GE601.out)) : w.heap.size ≤ gb614)); have n4_ := n3_; have n5_ := Aside0.mk ((by rw [hg]; exact Nat.ne_of_lt (blk_lt (g := gb601) (o := .cells #[.bool t597, .int .i64 t598, .int .u64 t599, .bool t600] 78 (0, 0)) (bv BK601.out)) : gb601 ≠ gb614)); have n6_ := Aside0.mk (Ne.symm n5_.out); clear BK601; clear HB; have BK601 := n0_; have HB := n1_; have BK614 := n2_; have GW614 := n3_; have GE614 := n4_; have NB601_614 := n5_; have NB614_601 := n6_; clear n0_ n1_ n2_ n3_ n4_ n5_ n6_; clear hb hbox hg; have hnb35 := NB614_601.out; have hnc35 := NB601_614.out; obtain ⟨hcz36_0, hcz36_1, hcz36_2, hcz36_3, hcz36_4⟩ := bc5 BK614.out; obtain ⟨hfz36_0, hfz36_1, hfz36_2, hfz36_3, hfz36_4⟩ := bf5 BK614.out; obtain ⟨hcz37_0, hcz37_1, hcz37_2, hcz37_3⟩ := bc4 BK601.out; obtain ⟨hfz37_0, hfz37_1, hfz37_2, hfz37_3⟩ := bf4 BK601.out) | ((with_reducible refine gate_callee (f := 64) rfl ?_); refine goesL_ (some 77) rfl rfl Try.func64 (by kernel_rfl) rfl #[.int .i64 a0, .bool t597] rfl gl ?_; (with_reducible refine (format_Inf.calls a0 t597 t615 _ A31.out).mono ?_); rintro e w' ⟨rfl, ⟨nd, rfl⟩⟩; refine ⟨_, rfl, ?_⟩))
          go_ret
          exact ⟨by first | rfl | (simp [errW_none, errW_some] <;> rfl) | (simp [*, errW_none, errW_some] <;> rfl), bl2 HB.out GE601.out GE614.out⟩
         ·replace c30 := Bool.eq_false_iff.mpr c30
          subst c30
          have H1 : (some t608) = some r := by rw [if_neg (show ¬ (false = true) by decide)] at H; exact H
          clear H
          have H := H1
          clear H1
          obtain rfl := Option.some.inj H
          have hcz38_0 : wc.cell? ⟨gb601, 0, none⟩ = some (.bool t597) := (blk_cell BK601.out 0).trans rfl
          have hcz38_1 : wc.cell? ⟨gb601, 1, none⟩ = some (.int .i64 t598) := (blk_cell BK601.out 1).trans rfl
          have hcz38_2 : wc.cell? ⟨gb601, 2, none⟩ = some (.int .u64 t599) := (blk_cell BK601.out 2).trans rfl
          have hcz38_3 : wc.cell? ⟨gb601, 3, none⟩ = some (.bool t600) := (blk_cell BK601.out 3).trans rfl
          have hfz38_0 := blk_frozen BK601.out 0
          have hfz38_1 := blk_frozen BK601.out 1
          have hfz38_2 := blk_frozen BK601.out 2
          have hfz38_3 := blk_frozen BK601.out 3
          go_wp2_with (first | ((with_reducible refine gate_callee (f := 17) rfl ?_); refine goesL_ (some 69) rfl rfl Try.func17 (by kernel_rfl) rfl #[.int .i64 a0, .int .i64 0, .bool t597, .int .i64 t602, .int .u64 x10_25, .bool false] rfl gl ?_; (with_reducible refine (round_Pack.calls kj25 a0 0 t597 t602 x10_25 false t608 t609 t610 false t612 t613 _ A29.out).mono ?_); rintro e w39 ⟨rfl, hb⟩; refine ⟨_, rfl, ?_⟩; have n0_ := Aside0.mk (blk_below (g := gb601) (o := .cells #[.bool t597, .int .i64 t598, .int .u64 t599, .bool t600] 78 (0, 0)) (bv BK601.out) hb); have n1_ := Aside0.mk (below_step (bl1 HB.out GE601.out) hb); clear BK601; clear HB; have BK601 := n0_; have HB := n1_; clear n0_ n1_) | ((with_reducible refine gate_dst (N := 13) rfl ?_); refine box_event ?hg (N := 13) ?hd (cs := F5) (t := 30) ?hr ?_; (case hd => rfl); (case hg => rfl); (case hr => first | (go_simp; done) | (go_simp; rfl)); intro gb614 hg w40 hbox hb; have n0_ := Aside0.mk (blk_below (g := gb601) (o := .cells #[.bool t597, .int .i64 t598, .int .u64 t599, .bool t600] 78 (0, 0)) (bv BK601.out) hb); have n1_ := Aside0.mk (below_step (bl1 HB.out GE601.out) hb); have n2_ := Aside0.mk (hbox); have n3_ := Aside0.mk ((by rw [hg]; exact (below_size (bl1 HB.out GE601.out)) : w.heap.size ≤ gb614)); have n4_ := n3_; have n5_ := Aside0.mk ((by rw [hg]; exact Nat.ne_of_lt (blk_lt (g := gb601) (o := .cells #[.bool t597, .int .i64 t598, .int .u64 t599, .bool t600] 78 (0, 0)) (bv BK601.out)) : gb601 ≠ gb614)); have n6_ := Aside0.mk (Ne.symm n5_.out); clear BK601; clear HB; have BK601 := n0_; have HB := n1_; have BK614 := n2_; have GW614 := n3_; have GE614 := n4_; have NB601_614 := n5_; have NB614_601 := n6_; clear n0_ n1_ n2_ n3_ n4_ n5_ n6_; clear hb hbox hg; have hnb41 := NB614_601.out; have hnc41 := NB601_614.out; obtain ⟨hcz42_0, hcz42_1, hcz42_2, hcz42_3, hcz42_4⟩ := bc5 BK614.out; obtain ⟨hfz42_0, hfz42_1, hfz42_2, hfz42_3, hfz42_4⟩ := bf5 BK614.out))
          go_ret
          exact ⟨by first | rfl | (simp [errW_none, errW_some] <;> rfl) | (simp [*, errW_none, errW_some] <;> rfl), bl2 HB.out GE601.out GE614.out⟩

end Go.Proofs.Ytoljndjpnbdjmaa.P

-- Printed by a program of this session's out of Lean's print of the translation; Lean checks it.
namespace Go.Proofs.Ytoljndjpnbdjmaa.P
open Go.RowKit Go.Proofs.YtoljndjpnbdjmaaW.PrintWords Go.Proofs.YtoljndjpnbdjmaaW.PrintLast Go.Proofs.YtoljndjpnbdjmaaW.PrintMore
attribute [local go_sem] max2_int min2_int max_two min_two max_three min_three max_four min_four   -- for this text's walks alone
set_option linter.unusedVariables false
set_option linter.unusedSimpArgs false

/-! ### anneallaw11_known: function 37 -/
def anneallaw11_known.f (k : Nat)  : Option (Bool) := (chance_Narrow.f k 1 1065418751 4294967295).bind fun t616 => (if t616 = 16256 then ((chance_Narrow.f k 1 1065418751 0).bind fun t617 => (some (t617 == 16257))) else (some false))
theorem anneallaw11_known.mono : ∀ k, LeO (anneallaw11_known.f k ) (anneallaw11_known.f (k + 1) ) := by
 intro  k
 unfold anneallaw11_known.f
 repeat' first
   |(with_reducible exact chance_Narrow.mono _ _ _ _)
   |(with_reducible exact LeO.refl _)
   |(with_reducible exact LeO.none _)
   |(with_reducible refine LeO.ite ?_ ?_)
   |(with_reducible refine LeO.bind ?_ (fun _ => ?_))
   |exact chance_Narrow.mono _ _ _ _
   |exact LeO.none _
   |refine LeO.ite ?_ ?_
   |refine LeO.bind ?_ (fun _ => ?_)
set_option maxHeartbeats 8000000 in
set_option maxRecDepth 100000 in
theorem anneallaw11_known.calls (k : Nat)  (r : Bool) (w : World) (h : anneallaw11_known.f k  = some r) :
  Calls Try.prog 37 #[] w fun e w' => e = .returned (.bool r) ∧ Below w.heap.size w w' := by
 have HB := Aside0.mk (Below.refl w.heap.size w)
 have H : ((chance_Narrow.f k 1 1065418751 4294967295).bind fun t616 => (if t616 = 16256 then ((chance_Narrow.f k 1 1065418751 0).bind fun t617 => (some (t617 == 16257))) else (some false))) = some r := h
 clear h
 replace H := Option.bind_eq_some_iff.mp H
 obtain ⟨t616, A10, H⟩ := H
 replace H : (if t616 = 16256 then ((chance_Narrow.f k 1 1065418751 0).bind fun t617 => (some (t617 == 16257))) else (some false)) = some r := H
 have A1 := Aside0.mk A10
 clear A10
 by_cases c2 : t616 = 16256
 ·rw [if_pos c2] at H
  have c2b0 : (t616 == 16256) = true := beq_iff_eq.mpr c2
  have c2b1 : (t616 != 16256) = false := bne_eq_false_iff_eq.mpr c2
  clear c2
  replace H := Option.bind_eq_some_iff.mp H
  obtain ⟨t617, A30, H⟩ := H
  replace H : (some (t617 == 16257)) = some r := H
  have A3 := Aside0.mk A30
  clear A30
  obtain rfl := Option.some.inj H
  go_enter Try.func37, Try.ntmps37
  go_wp2_with (first | ((with_reducible refine gate_callee (f := 38) rfl ?_); refine goesL_ (some 1) rfl rfl Try.func38 (by kernel_rfl) rfl #[.int .i64 1, .int .u32 1065418751, .int .u32 4294967295] rfl gl ?_; (with_reducible refine (chance_Narrow.calls k 1 1065418751 4294967295 t616 _ A1.out).mono ?_); rintro e w4 ⟨rfl, hb⟩; refine ⟨_, rfl, ?_⟩; have n0_ := Aside0.mk (below_step (bl0 HB.out) hb); clear HB; have HB := n0_; clear n0_) | (go_at_call 38; (with_reducible refine (chance_Narrow.calls k 1 1065418751 0 t617 _ A3.out).mono ?_); rintro e w5 ⟨rfl, hb⟩; have n0_ := Aside0.mk (below_step (bl0 HB.out) hb); clear HB; have HB := n0_; clear n0_))
  go_ret
  exact ⟨by first | rfl | (simp [errW_none, errW_some] <;> rfl) | (simp [*, errW_none, errW_some] <;> rfl), bl0 HB.out⟩
 ·rw [if_neg c2] at H
  have c2b0 : (t616 == 16256) = false := beq_eq_false_iff_ne.mpr c2
  have c2b1 : (t616 != 16256) = true := bne_iff_ne.mpr c2
  obtain rfl := Option.some.inj H
  go_enter Try.func37, Try.ntmps37
  go_wp2_with (first | ((with_reducible refine gate_callee (f := 38) rfl ?_); refine goesL_ (some 1) rfl rfl Try.func38 (by kernel_rfl) rfl #[.int .i64 1, .int .u32 1065418751, .int .u32 4294967295] rfl gl ?_; (with_reducible refine (chance_Narrow.calls k 1 1065418751 4294967295 t616 _ A1.out).mono ?_); rintro e w6 ⟨rfl, hb⟩; refine ⟨_, rfl, ?_⟩; have n0_ := Aside0.mk (below_step (bl0 HB.out) hb); clear HB; have HB := n0_; clear n0_))
  go_ret
  exact ⟨by first | rfl | (simp [errW_none, errW_some] <;> rfl) | (simp [*, errW_none, errW_some] <;> rfl), bl0 HB.out⟩

/-! ### annealref10_sgn: function 76 -/
end Go.Proofs.Ytoljndjpnbdjmaa.P
