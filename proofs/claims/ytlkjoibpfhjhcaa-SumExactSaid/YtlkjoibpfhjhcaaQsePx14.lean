import Derived.Test.YtlkjoibpfhjhcaaQseZ
import Derived.Test.YtlkjoibpfhjhcaaQseM1
import Derived.Test.YtlkjoibpfhjhcaaQsePx13
-- Printed by a program of this session's out of Lean's print of the translation; Lean checks it.
namespace Go.Proofs.Ytlkjoibpfhjhcaa.P
open Go.RowKit Go.Proofs.YtlkjoibpfhjhcaaW.PrintWords Go.Proofs.YtlkjoibpfhjhcaaW.PrintLast Go.Proofs.YtlkjoibpfhjhcaaW.PrintMore
attribute [local go_sem] max2_int min2_int max_two min_two max_three min_three max_four min_four   -- for this text's walks alone
set_option linter.unusedVariables false
set_option linter.unusedSimpArgs false

attribute [local go_sem high] eqA27
/-! ### format_Mask: function 71 -/
def format_Mask.f (a0 : Int) : Option (Int) := (format_Widths.f a0).bind fun bt266 => (if 0 ≤ (IntKind.u64.wrap (wrap64 ((wrap64 (bt266.1 + bt266.2)) + 1))) then (some (((shl .u32 1 (IntKind.u64.wrap (wrap64 ((wrap64 (bt266.1 + bt266.2)) + 1)))) - 1) % 4294967296)) else (none))
set_option maxHeartbeats 8000000 in
set_option maxRecDepth 100000 in
theorem format_Mask.calls (a0 : Int) (r : Int) (w : World) (h : format_Mask.f a0 = some r) :
  Calls Try.prog 71 #[.int .i64 a0] w fun e w' => e = .returned (.int .u32 r) ∧ Drawn0 w w' := by
 have H : ((format_Widths.f a0).bind fun bt266 => (if 0 ≤ (IntKind.u64.wrap (wrap64 ((wrap64 (bt266.1 + bt266.2)) + 1))) then (some (((shl .u32 1 (IntKind.u64.wrap (wrap64 ((wrap64 (bt266.1 + bt266.2)) + 1)))) - 1) % 4294967296)) else (none))) = some r := h
 clear h
 replace H := Option.bind_eq_some_iff.mp H
 obtain ⟨⟨t266, t267⟩, A20, H⟩ := H
 replace H : (if 0 ≤ (IntKind.u64.wrap (wrap64 ((wrap64 (t266 + t267)) + 1))) then (some (((shl .u32 1 (IntKind.u64.wrap (wrap64 ((wrap64 (t266 + t267)) + 1)))) - 1) % 4294967296)) else (none)) = some r := H
 have A2 := Aside0.mk A20
 clear A20
 obtain ⟨ji3, hji3⟩ : ∃ j_ : Int, (IntKind.u64.wrap (wrap64 ((wrap64 (t266 + t267)) + 1))) = j_ := ⟨_, rfl⟩
 replace H : (if 0 ≤ (ji3) then (some (((shl .u32 1 (ji3)) - 1) % 4294967296)) else (none)) = some r := by first | (rw [hji3] at H; exact H) | (simp only [hji3] at H ⊢; exact H)
 (try rw [hji3] at A2)
 by_cases c4 : 0 ≤ (ji3)
 ·rw [if_pos c4] at H
  have c4b0 := eq_true c4
  have c4b1 : decide (0 ≤ (ji3)) = true := decide_eq_true c4
  clear c4
  obtain ⟨ji5, hji5⟩ : ∃ j_ : Int, (shl .u32 1 (ji3)) = j_ := ⟨_, rfl⟩
  replace H : (some (((ji5) - 1) % 4294967296)) = some r := by first | (rw [hji5] at H; exact H) | (simp only [hji5] at H ⊢; exact H)
  (try rw [hji5] at A2)
  have hji5_ : (IntKind.u32.wrap (1 * 2 ^ min (ji3).toNat 32)) = ji5 := hji5
  have hji5z : (ji3) ≤ 32 → (IntKind.u32.wrap (1 * 2 ^ (ji3).toNat)) = ji5 := shl_small hji5
  have hji5u : (IntKind.u32.wrap (2 ^ min (ji3).toNat 32)) = ji5 := by have h_ := hji5_; rw [Int.one_mul] at h_; exact h_
  have hji5v : (ji3) ≤ 32 → (IntKind.u32.wrap (2 ^ (ji3).toNat)) = ji5 := fun hle_ => by have h_ := hji5z hle_; rw [Int.one_mul] at h_; exact h_
  obtain ⟨ji6, hji6⟩ : ∃ j_ : Int, (((ji5) - 1) % 4294967296) = j_ := ⟨_, rfl⟩
  replace H : (some ji6) = some r := by first | (rw [hji6] at H; exact H) | (simp only [hji6] at H ⊢; exact H)
  (try rw [hji6] at A2)
  have hji6l : 0 ≤ ji6 := by rw [← hji6]; exact Int.emod_nonneg _ (by decide)
  have hji6h : ji6 ≤ 4294967295 := by have := Int.emod_lt_of_pos (((ji5) - 1)) (show (0 : Int) < 4294967296 by decide); omega
  have hji6w : (IntKind.u32.wrap ((ji5) - 1)) = ji6 := (u32_w _).trans hji6
  (try (have hji6_ := hji6; simp only [Int.add_emod_emod, Int.emod_add_emod, Int.sub_emod_emod, Int.emod_sub_emod] at hji6_))
  obtain rfl := Option.some.inj H
  go_enter Try.func71, Try.ntmps71
  go_wp2_with (first | ((with_reducible refine gate_callee (f := 61) rfl ?_); refine goesL_ (some 7) rfl rfl Try.func61 (by kernel_rfl) rfl #[.int .i64 a0] rfl gl ?_; (with_reducible refine (format_Widths.calls a0 t266 t267 _ A2.out).mono ?_); rintro e w' ⟨rfl, ⟨nd, rfl⟩⟩; refine ⟨_, rfl, ?_⟩))
  go_ret
  exact ⟨by first | rfl | (simp; done) | (simp only [← hji3, ← hji5, ← hji6] <;> (first | rfl | (simp; done))) | (simp [*]; done) | (congr 1; (try unfold wrap64); omega) | (congr 1; rw [IntKind.wrap_u64]; omega), by repeat (first | exact Drawn0.refl _ | apply Drawn0.step)⟩
 ·rw [if_neg c4] at H
  exact absurd H (by simp)

/-! ### format_Turn: function 39 -/
def format_Turn.f (a0 : Int) (a1 : Int) : Option (Int) := (format_Widths.f a0).bind fun bt268 => ((format_Mask.f a0).bind fun t270 => (if 0 ≤ (IntKind.u64.wrap (wrap64 (bt268.1 + bt268.2))) then (some (Go.bits .xor .u32 (Go.bits .and .u32 a1 t270) (shl .u32 1 (IntKind.u64.wrap (wrap64 (bt268.1 + bt268.2)))))) else (none)))
set_option maxHeartbeats 8000000 in
set_option maxRecDepth 100000 in
theorem format_Turn.calls (a0 : Int) (a1 : Int) (r : Int) (w : World) (h : format_Turn.f a0 a1 = some r) :
  Calls Try.prog 39 #[.int .i64 a0, .int .u32 a1] w fun e w' => e = .returned (.int .u32 r) ∧ Drawn0 w w' := by
 have H : ((format_Widths.f a0).bind fun bt268 => ((format_Mask.f a0).bind fun t270 => (if 0 ≤ (IntKind.u64.wrap (wrap64 (bt268.1 + bt268.2))) then (some (Go.bits .xor .u32 (Go.bits .and .u32 a1 t270) (shl .u32 1 (IntKind.u64.wrap (wrap64 (bt268.1 + bt268.2)))))) else (none)))) = some r := h
 clear h
 replace H := Option.bind_eq_some_iff.mp H
 obtain ⟨⟨t268, t269⟩, A30, H⟩ := H
 replace H : ((format_Mask.f a0).bind fun t270 => (if 0 ≤ (IntKind.u64.wrap (wrap64 (t268 + t269))) then (some (Go.bits .xor .u32 (Go.bits .and .u32 a1 t270) (shl .u32 1 (IntKind.u64.wrap (wrap64 (t268 + t269)))))) else (none))) = some r := H
 have A3 := Aside0.mk A30
 clear A30
 replace H := Option.bind_eq_some_iff.mp H
 obtain ⟨t270, A40, H⟩ := H
 replace H : (if 0 ≤ (IntKind.u64.wrap (wrap64 (t268 + t269))) then (some (Go.bits .xor .u32 (Go.bits .and .u32 a1 t270) (shl .u32 1 (IntKind.u64.wrap (wrap64 (t268 + t269)))))) else (none)) = some r := H
 have A4 := Aside0.mk A40
 clear A40
 obtain ⟨ji5, hji5⟩ : ∃ j_ : Int, (IntKind.u64.wrap (wrap64 (t268 + t269))) = j_ := ⟨_, rfl⟩
 replace H : (if 0 ≤ (ji5) then (some (Go.bits .xor .u32 (Go.bits .and .u32 a1 t270) (shl .u32 1 (ji5)))) else (none)) = some r := by first | (rw [hji5] at H; exact H) | (simp only [hji5] at H ⊢; exact H)
 (try rw [hji5] at A3)
 (try rw [hji5] at A4)
 by_cases c6 : 0 ≤ (ji5)
 ·rw [if_pos c6] at H
  have c6b0 := eq_true c6
  have c6b1 : decide (0 ≤ (ji5)) = true := decide_eq_true c6
  clear c6
  obtain ⟨ji7, hji7⟩ : ∃ j_ : Int, (shl .u32 1 (ji5)) = j_ := ⟨_, rfl⟩
  replace H : (some (Go.bits .xor .u32 (Go.bits .and .u32 a1 t270) (ji7))) = some r := by first | (rw [hji7] at H; exact H) | (simp only [hji7] at H ⊢; exact H)
  (try rw [hji7] at A3)
  (try rw [hji7] at A4)
  have hji7_ : (IntKind.u32.wrap (1 * 2 ^ min (ji5).toNat 32)) = ji7 := hji7
  have hji7z : (ji5) ≤ 32 → (IntKind.u32.wrap (1 * 2 ^ (ji5).toNat)) = ji7 := shl_small hji7
  have hji7u : (IntKind.u32.wrap (2 ^ min (ji5).toNat 32)) = ji7 := by have h_ := hji7_; rw [Int.one_mul] at h_; exact h_
  have hji7v : (ji5) ≤ 32 → (IntKind.u32.wrap (2 ^ (ji5).toNat)) = ji7 := fun hle_ => by have h_ := hji7z hle_; rw [Int.one_mul] at h_; exact h_
  obtain rfl := Option.some.inj H
  go_enter Try.func39, Try.ntmps39
  go_wp2_with (first | ((with_reducible refine gate_callee (f := 61) rfl ?_); refine goesL_ (some 9) rfl rfl Try.func61 (by kernel_rfl) rfl #[.int .i64 a0] rfl gl ?_; (with_reducible refine (format_Widths.calls a0 t268 t269 _ A3.out).mono ?_); rintro e w' ⟨rfl, ⟨nd, rfl⟩⟩; refine ⟨_, rfl, ?_⟩) | ((with_reducible refine gate_callee (f := 71) rfl ?_); refine goesL_ (some 14) rfl rfl Try.func71 (by kernel_rfl) rfl #[.int .i64 a0] rfl gl ?_; (with_reducible refine (format_Mask.calls a0 t270 _ A4.out).mono ?_); rintro e w' ⟨rfl, ⟨nd, rfl⟩⟩; refine ⟨_, rfl, ?_⟩))
  go_ret
  exact ⟨by first | rfl | (simp; done) | (simp only [← hji5, ← hji7] <;> (first | rfl | (simp; done))) | (simp [*]; done) | (congr 1; (try unfold wrap64); omega) | (congr 1; rw [IntKind.wrap_u64]; omega), by repeat (first | exact Drawn0.refl _ | apply Drawn0.step)⟩
 ·rw [if_neg c6] at H
  exact absurd H (by simp)

/-! ### sum_Sub: function 13 -/
def sum_Sub.f (k : Nat) (a0 : Int) (a1 : Int) (a2 : Int) (a3 : Int) : Option (Int × Bool × Bool × Bool × Bool × Bool) := (sum_Nans.f k a0 (([a2, a3] : List Int))).bind fun bt275 => (if bt275.2.2.2.2.2.2 = true then (some (bt275.1, bt275.2.1, bt275.2.2.1, bt275.2.2.2.1, bt275.2.2.2.2.1, bt275.2.2.2.2.2.1)) else ((format_Turn.f a0 a3).bind fun t283 => ((sum_Add.f k a0 a1 a2 t283).bind fun bt284 => (some (bt284.1, bt284.2.1, bt284.2.2.1, bt284.2.2.2.1, bt284.2.2.2.2.1, bt284.2.2.2.2.2)))))
theorem sum_Sub.mono : ∀ a0 a1 a2 a3 k, LeO (sum_Sub.f k a0 a1 a2 a3) (sum_Sub.f (k + 1) a0 a1 a2 a3) := by
 intro a0 a1 a2 a3 k
 unfold sum_Sub.f
 repeat' first
   |(with_reducible exact sum_Add.mono _ _ _ _ _)
   |(with_reducible exact sum_Nans.mono _ _ _)
   |(with_reducible exact LeO.refl _)
   |(with_reducible exact LeO.none _)
   |(with_reducible refine LeO.ite ?_ ?_)
   |(with_reducible refine LeO.bind ?_ (fun _ => ?_))
   |exact sum_Add.mono _ _ _ _ _
   |exact sum_Nans.mono _ _ _
   |exact LeO.none _
   |refine LeO.ite ?_ ?_
   |refine LeO.bind ?_ (fun _ => ?_)
set_option maxHeartbeats 8000000 in
set_option maxRecDepth 100000 in
theorem sum_Sub.calls (k : Nat) (a0 : Int) (a1 : Int) (a2 : Int) (a3 : Int) (r1 : Int) (r2 : Bool) (r3 : Bool) (r4 : Bool) (r5 : Bool) (r6 : Bool) (w : World) (h : sum_Sub.f k a0 a1 a2 a3 = some (r1, r2, r3, r4, r5, r6)) :
  Calls Try.prog 13 #[.int .i64 a0, .int .i64 a1, .int .u32 a2, .int .u32 a3] w fun e w' => e = .returned (.tuple #[.int .u32 r1, .agg #[.bool r2, .bool r3, .bool r4, .bool r5, .bool r6]]) ∧ Below w.heap.size w w' := by
 have hu27 := Try.underlying27
 have HB := Aside0.mk (Below.refl w.heap.size w)
 have H : ((sum_Nans.f k a0 (([a2, a3] : List Int))).bind fun bt275 => (if bt275.2.2.2.2.2.2 = true then (some (bt275.1, bt275.2.1, bt275.2.2.1, bt275.2.2.2.1, bt275.2.2.2.2.1, bt275.2.2.2.2.2.1)) else ((format_Turn.f a0 a3).bind fun t283 => ((sum_Add.f k a0 a1 a2 t283).bind fun bt284 => (some (bt284.1, bt284.2.1, bt284.2.2.1, bt284.2.2.2.1, bt284.2.2.2.2.1, bt284.2.2.2.2.2)))))) = some (r1, r2, r3, r4, r5, r6) := h
 clear h
 obtain ⟨y272, hy272⟩ : ∃ y_ : List Int, y_ = (([a2, a3] : List Int)) := ⟨_, rfl⟩
 replace H : ((sum_Nans.f k a0 y272).bind fun bt275 => (if bt275.2.2.2.2.2.2 = true then (some (bt275.1, bt275.2.1, bt275.2.2.1, bt275.2.2.2.1, bt275.2.2.2.2.1, bt275.2.2.2.2.2.1)) else ((format_Turn.f a0 a3).bind fun t283 => ((sum_Add.f k a0 a1 a2 t283).bind fun bt284 => (some (bt284.1, bt284.2.1, bt284.2.2.1, bt284.2.2.2.1, bt284.2.2.2.2.1, bt284.2.2.2.2.2)))))) = some (r1, r2, r3, r4, r5, r6) := by first | (rw [hy272]; with_reducible exact H) | (have H2_ := (Option.bind_some _ _).symm.trans H; rw [hy272]; with_reducible exact H2_) | (have H2_ := (Option.bind_some _ _).symm.trans H; with_reducible exact H2_) | with_reducible exact H | (rw [hy272]; exact H) | exact H
 have Ny272 := Aside0.mk hy272
 clear hy272
 replace H := Option.bind_eq_some_iff.mp H
 obtain ⟨⟨t275, t276, t277, t278, t279, t280, t281⟩, A50, H⟩ := H
 replace H : (if t281 = true then (some (t275, t276, t277, t278, t279, t280)) else ((format_Turn.f a0 a3).bind fun t283 => ((sum_Add.f k a0 a1 a2 t283).bind fun bt284 => (some (bt284.1, bt284.2.1, bt284.2.2.1, bt284.2.2.2.1, bt284.2.2.2.2.1, bt284.2.2.2.2.2))))) = some (r1, r2, r3, r4, r5, r6) := H
 have A5 := Aside0.mk A50
 clear A50
 by_cases c6 : t281 = true
 ·subst c6
  have H1 : (some (t275, t276, t277, t278, t279, t280)) = some (r1, r2, r3, r4, r5, r6) := by rw [if_pos rfl] at H; exact H
  clear H
  have H := H1
  clear H1
  simp only [Option.some.injEq, Prod.mk.injEq] at H
  obtain ⟨rfl, rfl, rfl, rfl, rfl, rfl⟩ := H
  go_enter Try.func13, Try.ntmps13
  try go_wp2_with (first | ((with_reducible refine gate_dst (N := 9) rfl ?_); refine box_event ?hg (N := 9) ?hd (cs := F5) (t := 27) ?hr ?_; (case hd => rfl); (case hg => rfl); (case hr => first | (go_simp; done) | (go_simp; rfl)); intro gb271 hg w7 hbox hb; have n0_ := Aside0.mk (below_step (bl0 HB.out) hb); have n1_ := Aside0.mk (hbox); have n2_ := Aside0.mk ((by rw [hg]; exact (below_size (bl0 HB.out)) : w.heap.size ≤ gb271)); have n3_ := n2_; clear HB; have HB := n0_; have BK271 := n1_; have GW271 := n2_; have GE271 := n3_; clear n0_ n1_ n2_ n3_; clear hb hbox hg) | ((with_reducible refine gate_dst (N := 17) rfl ?_); refine Kd.R_lit (Kd.int .u32) _ 22 ?hg (N := 17) ?hd (xs := ([a2, a3] : List Int)) (inner := [.int .u32 a2, .int .u32 a3]) (ok := fun _ => True) (okp := fun _ => True) ?hr ?hp (fun _ hk => hk) trivial (Below.refl _ _) (Nat.le_refl _) (by simp) ?_; (case hd => rfl); (case hg => rfl); (case hr => first | (go_simp; done) | (go_simp; rfl)); (case hp => exact (Reps.one (show Kd.M (Kd.int .u32) _ _ _ a2 [.int .u32 a2] from rfl) (Reps.one (show Kd.M (Kd.int .u32) _ _ _ a3 [.int .u32 a3] from rfl) (Reps.none _ _)))); intro v273 w8 ho9 hb hg_ hnew_; clear hg_ hnew_; (first | rw [← Ny272.out] at ho9 | (simp only [Int.reduceToNat] at ho9; rw [← Ny272.out] at ho9)); have n0_ := Aside0.mk (Kd.R_lower ho9 (below_size (bl1 HB.out GE271.out))); have n1_ := Aside0.mk (blk_below (g := gb271) (o := .cells #[.bool false, .bool false, .bool false, .bool false, .bool false] 27 (0, 0)) (bv BK271.out) hb); have n2_ := Aside0.mk (below_step (bl1 HB.out GE271.out) hb); clear BK271; clear HB; have HO274 := n0_; have BK271 := n1_; have HB := n2_; clear n0_ n1_ n2_; clear hb ho9; obtain ⟨Ao10, co10, eo10⟩ := Kd.R_slice HO274.out; subst eo10) | ((with_reducible refine gate_callee (f := 31) rfl ?_); refine goesL_ (some 18) rfl rfl Try.func31 (by kernel_rfl) rfl #[.int .i64 a0, .slice Ao10 y272.length co10] rfl gl ?_; (with_reducible refine (sum_Nans.calls k a0 _ _ y272 t275 t276 t277 t278 t279 t280 true _ ?side1 ?side2 A5.out).mono ?_); (case side1 => repeat (first | exact (Kd.R_reads' HO274.out).2.2 | (with_reducible refine Kd.C_alloc ?_ _) | (with_reducible refine Kd.C_drewN ?_ _) | (with_reducible refine Kd.C_drew ?_))); (case side2 => exact (Kd.R_reads' HO274.out).2.1); rintro e w11 ⟨rfl, hb⟩; refine ⟨_, rfl, ?_⟩; have n0_ := Aside0.mk (Kd.R_below (by (with_reducible repeat (first | apply Kd.R_alloc | apply Kd.R_drewN | apply Kd.R_drew)); exact HO274.out) hb); have n1_ := Aside0.mk (blk_below (g := gb271) (o := .cells #[.bool false, .bool false, .bool false, .bool false, .bool false] 27 (0, 0)) (bv BK271.out) hb); have n2_ := Aside0.mk (below_step (bl1 HB.out GE271.out) hb); clear HO274; clear BK271; clear HB; have HO274 := n0_; have BK271 := n1_; have HB := n2_; clear n0_ n1_ n2_) | ((with_reducible refine gate_dst (N := 11) rfl ?_); refine box_event ?hg (N := 11) ?hd (cs := F5) (t := 27) ?hr ?_; (case hd => rfl); (case hg => rfl); (case hr => first | (go_simp; done) | (go_simp; rfl)); intro gb282 hg w12 hbox hb; have n0_ := Aside0.mk (Kd.R_below (by (with_reducible repeat (first | apply Kd.R_alloc | apply Kd.R_drewN | apply Kd.R_drew)); exact HO274.out) hb); have n1_ := Aside0.mk (blk_below (g := gb271) (o := .cells #[.bool false, .bool false, .bool false, .bool false, .bool false] 27 (0, 0)) (bv BK271.out) hb); have n2_ := Aside0.mk (below_step (bl1 HB.out GE271.out) hb); have n3_ := Aside0.mk (hbox); have n4_ := Aside0.mk ((by rw [hg]; exact (below_size (bl1 HB.out GE271.out)) : w.heap.size ≤ gb282)); have n5_ := n4_; have n6_ := Aside0.mk ((by rw [hg]; exact Nat.ne_of_lt (blk_lt (g := gb271) (o := .cells F5 27 (0, 0)) (bv BK271.out)) : gb271 ≠ gb282)); have n7_ := Aside0.mk (Ne.symm n6_.out); clear HO274; clear BK271; clear HB; have HO274 := n0_; have BK271 := n1_; have HB := n2_; have BK282 := n3_; have GW282 := n4_; have GE282 := n5_; have NB271_282 := n6_; have NB282_271 := n7_; clear n0_ n1_ n2_ n3_ n4_ n5_ n6_ n7_; clear hb hbox hg; have hnb13 := NB282_271.out; have hnc13 := NB271_282.out; obtain ⟨hcz14_0, hcz14_1, hcz14_2, hcz14_3, hcz14_4⟩ := bc5 BK282.out; obtain ⟨hfz14_0, hfz14_1, hfz14_2, hfz14_3, hfz14_4⟩ := bf5 BK282.out))
  have n0_ : Aside0 (Kd.R (Kd.int .u32) 22 (((((w12.setCell ⟨gb282, 0, none⟩ (.bool t276)).setCell ⟨gb282, 1, none⟩ (.bool t277)).setCell ⟨gb282, 2, none⟩ (.bool t278)).setCell ⟨gb282, 3, none⟩ (.bool t279)).setCell ⟨gb282, 4, none⟩ (.bool t280)) w.heap.size (fun _ => True) (.slice Ao10 y272.length co10) y272) := ⟨by (with_reducible repeat (first | apply Kd.R_alloc | apply Kd.R_drewN | apply Kd.R_drew)); exact Kd.R_mono (Kd.R_far (p := ⟨gb282, 4, none⟩) (Kd.R_far (p := ⟨gb282, 3, none⟩) (Kd.R_far (p := ⟨gb282, 2, none⟩) (Kd.R_far (p := ⟨gb282, 1, none⟩) (Kd.R_far (p := ⟨gb282, 0, none⟩) (Kd.R_types HO274.out BK282.out (by decide)) (fun _ hk => hk.2) (.bool t276)) (fun _ hk => hk.2) (.bool t277)) (fun _ hk => hk.2) (.bool t278)) (fun _ hk => hk.2) (.bool t279)) (fun _ hk => hk.2) (.bool t280)) (fun _ hk => trivial)⟩
  have n1_ : Aside0 ((((((w12.setCell ⟨gb282, 0, none⟩ (.bool t276)).setCell ⟨gb282, 1, none⟩ (.bool t277)).setCell ⟨gb282, 2, none⟩ (.bool t278)).setCell ⟨gb282, 3, none⟩ (.bool t279)).setCell ⟨gb282, 4, none⟩ (.bool t280)).heap[gb271]? = some (.cells #[.bool false, .bool false, .bool false, .bool false, .bool false] 27 (0, 0))) := ⟨by (with_reducible repeat first | apply bd | apply be | apply ba); refine blk_far ?_ NB271_282.out _; (with_reducible repeat first | apply bd | apply be | apply ba); refine blk_far ?_ NB271_282.out _; (with_reducible repeat first | apply bd | apply be | apply ba); refine blk_far ?_ NB271_282.out _; (with_reducible repeat first | apply bd | apply be | apply ba); refine blk_far ?_ NB271_282.out _; (with_reducible repeat first | apply bd | apply be | apply ba); refine blk_far ?_ NB271_282.out _; (with_reducible repeat first | apply bd | apply be | apply ba); exact BK271.out⟩
  have n2_ : Aside0 ((((((w12.setCell ⟨gb282, 0, none⟩ (.bool t276)).setCell ⟨gb282, 1, none⟩ (.bool t277)).setCell ⟨gb282, 2, none⟩ (.bool t278)).setCell ⟨gb282, 3, none⟩ (.bool t279)).setCell ⟨gb282, 4, none⟩ (.bool t280)).heap[gb282]? = some (.cells #[.bool t276, .bool t277, .bool t278, .bool t279, .bool t280] 27 (0, 0))) := ⟨by (with_reducible repeat first | apply bd | apply be | apply ba); refine blk_put (cs := #[.bool t276, .bool t277, .bool t278, .bool t279, .bool false]) ?_ 4 _ rfl; (with_reducible repeat first | apply bd | apply be | apply ba); refine blk_put (cs := #[.bool t276, .bool t277, .bool t278, .bool false, .bool false]) ?_ 3 _ rfl; (with_reducible repeat first | apply bd | apply be | apply ba); refine blk_put (cs := #[.bool t276, .bool t277, .bool false, .bool false, .bool false]) ?_ 2 _ rfl; (with_reducible repeat first | apply bd | apply be | apply ba); refine blk_put (cs := #[.bool t276, .bool false, .bool false, .bool false, .bool false]) ?_ 1 _ rfl; (with_reducible repeat first | apply bd | apply be | apply ba); refine blk_put (cs := F5) ?_ 0 _ rfl; (with_reducible repeat first | apply bd | apply be | apply ba); exact BK282.out⟩
  have n3_ : Aside0 (Below w.heap.size w (((((w12.setCell ⟨gb282, 0, none⟩ (.bool t276)).setCell ⟨gb282, 1, none⟩ (.bool t277)).setCell ⟨gb282, 2, none⟩ (.bool t278)).setCell ⟨gb282, 3, none⟩ (.bool t279)).setCell ⟨gb282, 4, none⟩ (.bool t280))) := ⟨bl2 HB.out GE271.out GE282.out⟩
  (try clear HO274)
  (try clear BK271)
  (try clear BK282)
  (try clear HB)
  generalize (((((w12.setCell ⟨gb282, 0, none⟩ (.bool t276)).setCell ⟨gb282, 1, none⟩ (.bool t277)).setCell ⟨gb282, 2, none⟩ (.bool t278)).setCell ⟨gb282, 3, none⟩ (.bool t279)).setCell ⟨gb282, 4, none⟩ (.bool t280)) = w15 at n0_ n1_ n2_ n3_ ⊢
  have HO274 := n0_
  have BK271 := n1_
  have BK282 := n2_
  have HB := n3_
  clear n0_ n1_ n2_ n3_
  have n0_ := Aside0.mk (Kd.R_drew HO274.out)
  have n1_ := Aside0.mk (blk_drew BK271.out)
  have n2_ := Aside0.mk (blk_drew BK282.out)
  have n3_ := Aside0.mk (below_drew1 HB.out)
  clear HO274
  clear BK271
  clear BK282
  clear HB
  have HO274 := n0_
  have BK271 := n1_
  have BK282 := n2_
  have HB := n3_
  clear n0_ n1_ n2_ n3_
  refine start_ (n := 4) (S := fun w' => w'.cell? ⟨gb282, 0, none⟩ = some (.bool t276) ∧ w'.cell? ⟨gb282, 1, none⟩ = some (.bool t277) ∧ w'.cell? ⟨gb282, 2, none⟩ = some (.bool t278) ∧ w'.cell? ⟨gb282, 3, none⟩ = some (.bool t279) ∧ w'.cell? ⟨gb282, 4, none⟩ = some (.bool t280)) (ds := []) #[false, false, false, false] (by kernel_rfl) rfl rfl ⟨(blk_cell BK282.out 0).trans rfl, (blk_cell BK282.out 1).trans rfl, (blk_cell BK282.out 2).trans rfl, (blk_cell BK282.out 3).trans rfl, (blk_cell BK282.out 4).trans rfl⟩ (fun hHeld => ?_)
  generalize w15.drew = w16 at HO274 BK271 BK282 HB hHeld ⊢
  refine pure_ (i := 0) (N := some 23) (v := ?_) (a' := ?_) #[true, false, false, false] rfl rfl (by kernel_rfl) (fun _ _ _ h => h) (Or.inl ⟨by rfl, ?_⟩) ?_ ?_
  rotate_left
  ·intro w'
   go_simp
   with_reducible rfl
  rotate_left
  ·simp only [Act.put, sb, sz, ss, i64_w, i32_w]
   rfl
  refine pure_ (i := 2) (N := some 8) (v := ?_) (a' := ?_) #[true, false, true, false] rfl rfl (by kernel_rfl) (fun _ _ _ h => h) (Or.inl ⟨by rfl, ?_⟩) ?_ ?_
  rotate_left
  ·intro w'
   go_simp
   with_reducible rfl
  rotate_left
  ·simp only [Act.put, sb, sz, ss, i64_w, i32_w]
   rfl
  refine take_ (i := 1) (N := some 24) (v := ?_) (a' := ?_) #[true, true, true, false] rfl rfl (by kernel_rfl) (fun _ _ _ h => h) (Or.inl ⟨by rfl, ?_⟩) hHeld ?_ ?_
  rotate_left
  ·rintro w' ⟨s0, s1, s2, s3, s4⟩
   go_simp
   with_reducible rfl
  rotate_left
  ·simp only [Act.put, sb, sz, ss, i64_w, i32_w]
   rfl
  refine one_ (i := 3) (N := none) #[true, true, true, true] rfl rfl (by kernel_rfl) (by decide) (fun K hK => ?_)
  have hs17 : w16.cell? ⟨gb271, 0, none⟩ = some (.bool false) := (blk_cell BK271.out 0).trans rfl
  have hfs17 := blk_frozen BK271.out 0
  have hns17_1 := NB282_271.out
  have hms17_1 := NB271_282.out
  have hs18 : w16.cell? ⟨gb271, 1, none⟩ = some (.bool false) := (blk_cell BK271.out 1).trans rfl
  have hfs18 := blk_frozen BK271.out 1
  have hns18_1 := NB282_271.out
  have hms18_1 := NB271_282.out
  have hs19 : w16.cell? ⟨gb271, 2, none⟩ = some (.bool false) := (blk_cell BK271.out 2).trans rfl
  have hfs19 := blk_frozen BK271.out 2
  have hns19_1 := NB282_271.out
  have hms19_1 := NB271_282.out
  have hs20 : w16.cell? ⟨gb271, 3, none⟩ = some (.bool false) := (blk_cell BK271.out 3).trans rfl
  have hfs20 := blk_frozen BK271.out 3
  have hns20_1 := NB282_271.out
  have hms20_1 := NB271_282.out
  have hs21 : w16.cell? ⟨gb271, 4, none⟩ = some (.bool false) := (blk_cell BK271.out 4).trans rfl
  have hfs21 := blk_frozen BK271.out 4
  have hns21_1 := NB282_271.out
  have hms21_1 := NB271_282.out
  refine skip_ (w1 := ?_) (by rfl) rfl ?_ ?_
  rotate_left
  ·go_simp
   rfl
  refine hK.out _ _ ⟨(cf5 NB282_271.out (hHeld.1)), (cf5 NB282_271.out (hHeld.2.1)), (cf5 NB282_271.out (hHeld.2.2.1)), (cf5 NB282_271.out (hHeld.2.2.2.1)), (cf5 NB282_271.out (hHeld.2.2.2.2))⟩ (fun hHeld => ?_)
  clear hK K
  refine done_ (by kernel_rfl) ?_
  try go_wp2
  refine bodyPost_ret (results_tc rfl _ _ gb271 27 #[.bool t276, .bool t277, .bool t278, .bool t279, .bool t280] (0, 0) _ rfl (by (with_reducible repeat first | apply bd | apply be | apply ba); refine blk_put (cs := #[.bool t276, .bool t277, .bool t278, .bool t279, .bool false]) ?_ 4 _ rfl; (with_reducible repeat first | apply bd | apply be | apply ba); refine blk_put (cs := #[.bool t276, .bool t277, .bool t278, .bool false, .bool false]) ?_ 3 _ rfl; (with_reducible repeat first | apply bd | apply be | apply ba); refine blk_put (cs := #[.bool t276, .bool t277, .bool false, .bool false, .bool false]) ?_ 2 _ rfl; (with_reducible repeat first | apply bd | apply be | apply ba); refine blk_put (cs := #[.bool t276, .bool false, .bool false, .bool false, .bool false]) ?_ 1 _ rfl; (with_reducible repeat first | apply bd | apply be | apply ba); refine blk_put (cs := F5) ?_ 0 _ rfl; (with_reducible repeat first | apply bd | apply be | apply ba); exact BK271.out) Try.underlying27 rfl (by kernel_rfl)) rfl ?_
  exact ⟨by first | rfl | (simp [errW_none, errW_some] <;> rfl) | (simp [*, errW_none, errW_some] <;> rfl), bl2 HB.out GE271.out GE282.out⟩
 ·replace c6 := Bool.eq_false_iff.mpr c6
  subst c6
  have H1 : ((format_Turn.f a0 a3).bind fun t283 => ((sum_Add.f k a0 a1 a2 t283).bind fun bt284 => (some (bt284.1, bt284.2.1, bt284.2.2.1, bt284.2.2.2.1, bt284.2.2.2.2.1, bt284.2.2.2.2.2)))) = some (r1, r2, r3, r4, r5, r6) := by rw [if_neg (show ¬ (false = true) by decide)] at H; exact H
  clear H
  have H := H1
  clear H1
  replace H := Option.bind_eq_some_iff.mp H
  obtain ⟨t283, A220, H⟩ := H
  replace H : ((sum_Add.f k a0 a1 a2 t283).bind fun bt284 => (some (bt284.1, bt284.2.1, bt284.2.2.1, bt284.2.2.2.1, bt284.2.2.2.2.1, bt284.2.2.2.2.2))) = some (r1, r2, r3, r4, r5, r6) := H
  have A22 := Aside0.mk A220
  clear A220
  replace H := Option.bind_eq_some_iff.mp H
  obtain ⟨⟨t284, t285, t286, t287, t288, t289⟩, A230, H⟩ := H
  replace H : (some (t284, t285, t286, t287, t288, t289)) = some (r1, r2, r3, r4, r5, r6) := H
  have A23 := Aside0.mk A230
  clear A230
  simp only [Option.some.injEq, Prod.mk.injEq] at H
  obtain ⟨rfl, rfl, rfl, rfl, rfl, rfl⟩ := H
  go_enter Try.func13, Try.ntmps13
  go_wp2_with (first | ((with_reducible refine gate_dst (N := 9) rfl ?_); refine box_event ?hg (N := 9) ?hd (cs := F5) (t := 27) ?hr ?_; (case hd => rfl); (case hg => rfl); (case hr => first | (go_simp; done) | (go_simp; rfl)); intro gb271 hg w24 hbox hb; have n0_ := Aside0.mk (below_step (bl0 HB.out) hb); have n1_ := Aside0.mk (hbox); have n2_ := Aside0.mk ((by rw [hg]; exact (below_size (bl0 HB.out)) : w.heap.size ≤ gb271)); have n3_ := n2_; clear HB; have HB := n0_; have BK271 := n1_; have GW271 := n2_; have GE271 := n3_; clear n0_ n1_ n2_ n3_; clear hb hbox hg) | ((with_reducible refine gate_dst (N := 17) rfl ?_); refine Kd.R_lit (Kd.int .u32) _ 22 ?hg (N := 17) ?hd (xs := ([a2, a3] : List Int)) (inner := [.int .u32 a2, .int .u32 a3]) (ok := fun _ => True) (okp := fun _ => True) ?hr ?hp (fun _ hk => hk) trivial (Below.refl _ _) (Nat.le_refl _) (by simp) ?_; (case hd => rfl); (case hg => rfl); (case hr => first | (go_simp; done) | (go_simp; rfl)); (case hp => exact (Reps.one (show Kd.M (Kd.int .u32) _ _ _ a2 [.int .u32 a2] from rfl) (Reps.one (show Kd.M (Kd.int .u32) _ _ _ a3 [.int .u32 a3] from rfl) (Reps.none _ _)))); intro v273 w25 ho26 hb hg_ hnew_; clear hg_ hnew_; (first | rw [← Ny272.out] at ho26 | (simp only [Int.reduceToNat] at ho26; rw [← Ny272.out] at ho26)); have n0_ := Aside0.mk (Kd.R_lower ho26 (below_size (bl1 HB.out GE271.out))); have n1_ := Aside0.mk (blk_below (g := gb271) (o := .cells #[.bool false, .bool false, .bool false, .bool false, .bool false] 27 (0, 0)) (bv BK271.out) hb); have n2_ := Aside0.mk (below_step (bl1 HB.out GE271.out) hb); clear BK271; clear HB; have HO274 := n0_; have BK271 := n1_; have HB := n2_; clear n0_ n1_ n2_; clear hb ho26; obtain ⟨Ao27, co27, eo27⟩ := Kd.R_slice HO274.out; subst eo27) | ((with_reducible refine gate_callee (f := 31) rfl ?_); refine goesL_ (some 18) rfl rfl Try.func31 (by kernel_rfl) rfl #[.int .i64 a0, .slice Ao27 y272.length co27] rfl gl ?_; (with_reducible refine (sum_Nans.calls k a0 _ _ y272 t275 t276 t277 t278 t279 t280 false _ ?side1 ?side2 A5.out).mono ?_); (case side1 => repeat (first | exact (Kd.R_reads' HO274.out).2.2 | (with_reducible refine Kd.C_alloc ?_ _) | (with_reducible refine Kd.C_drewN ?_ _) | (with_reducible refine Kd.C_drew ?_))); (case side2 => exact (Kd.R_reads' HO274.out).2.1); rintro e w28 ⟨rfl, hb⟩; refine ⟨_, rfl, ?_⟩; have n0_ := Aside0.mk (Kd.R_below (by (with_reducible repeat (first | apply Kd.R_alloc | apply Kd.R_drewN | apply Kd.R_drew)); exact HO274.out) hb); have n1_ := Aside0.mk (blk_below (g := gb271) (o := .cells #[.bool false, .bool false, .bool false, .bool false, .bool false] 27 (0, 0)) (bv BK271.out) hb); have n2_ := Aside0.mk (below_step (bl1 HB.out GE271.out) hb); clear HO274; clear BK271; clear HB; have HO274 := n0_; have BK271 := n1_; have HB := n2_; clear n0_ n1_ n2_) | ((with_reducible refine gate_dst (N := 11) rfl ?_); refine box_event ?hg (N := 11) ?hd (cs := F5) (t := 27) ?hr ?_; (case hd => rfl); (case hg => rfl); (case hr => first | (go_simp; done) | (go_simp; rfl)); intro gb282 hg w29 hbox hb; have n0_ := Aside0.mk (Kd.R_below (by (with_reducible repeat (first | apply Kd.R_alloc | apply Kd.R_drewN | apply Kd.R_drew)); exact HO274.out) hb); have n1_ := Aside0.mk (blk_below (g := gb271) (o := .cells #[.bool false, .bool false, .bool false, .bool false, .bool false] 27 (0, 0)) (bv BK271.out) hb); have n2_ := Aside0.mk (below_step (bl1 HB.out GE271.out) hb); have n3_ := Aside0.mk (hbox); have n4_ := Aside0.mk ((by rw [hg]; exact (below_size (bl1 HB.out GE271.out)) : w.heap.size ≤ gb282)); have n5_ := n4_; have n6_ := Aside0.mk ((by rw [hg]; exact Nat.ne_of_lt (blk_lt (g := gb271) (o := .cells F5 27 (0, 0)) (bv BK271.out)) : gb271 ≠ gb282)); have n7_ := Aside0.mk (Ne.symm n6_.out); clear HO274; clear BK271; clear HB; have HO274 := n0_; have BK271 := n1_; have HB := n2_; have BK282 := n3_; have GW282 := n4_; have GE282 := n5_; have NB271_282 := n6_; have NB282_271 := n7_; clear n0_ n1_ n2_ n3_ n4_ n5_ n6_ n7_; clear hb hbox hg; have hnb30 := NB282_271.out; have hnc30 := NB271_282.out; obtain ⟨hcz31_0, hcz31_1, hcz31_2, hcz31_3, hcz31_4⟩ := bc5 BK282.out; obtain ⟨hfz31_0, hfz31_1, hfz31_2, hfz31_3, hfz31_4⟩ := bf5 BK282.out) | ((with_reducible refine gate_store (t := 27) (p := 11) rfl ?_); refine store_event (t := 27) (p := 11) (v := ?vo_w32) (w1 := (((((w29.setCell ⟨gb282, 0, none⟩ (.bool t276)).setCell ⟨gb282, 1, none⟩ (.bool t277)).setCell ⟨gb282, 2, none⟩ (.bool t278)).setCell ⟨gb282, 3, none⟩ (.bool t279)).setCell ⟨gb282, 4, none⟩ (.bool t280))) ?hg ?ho ?hn ?hr ?_; (case ho => rfl); (case hg => rfl); (case hn => rfl); (case hr => first | (go_simp; done) | (go_simp; rfl)); intro w32 hw; have n0_ : Aside0 (Kd.R (Kd.int .u32) 22 w32 w.heap.size (fun _ => True) (.slice Ao27 y272.length co27) y272) := ⟨(by rw [hw]; exact (by (with_reducible repeat (first | apply Kd.R_alloc | apply Kd.R_drewN | apply Kd.R_drew)); exact Kd.R_mono (Kd.R_far (p := ⟨gb282, 4, none⟩) (Kd.R_far (p := ⟨gb282, 3, none⟩) (Kd.R_far (p := ⟨gb282, 2, none⟩) (Kd.R_far (p := ⟨gb282, 1, none⟩) (Kd.R_far (p := ⟨gb282, 0, none⟩) (Kd.R_types HO274.out BK282.out (by decide)) (fun _ hk => hk.2) (.bool t276)) (fun _ hk => hk.2) (.bool t277)) (fun _ hk => hk.2) (.bool t278)) (fun _ hk => hk.2) (.bool t279)) (fun _ hk => hk.2) (.bool t280)) (fun _ hk => trivial)))⟩; have n1_ : Aside0 (w32.heap[gb271]? = some (.cells #[.bool false, .bool false, .bool false, .bool false, .bool false] 27 (0, 0))) := ⟨(by rw [hw]; exact (by (with_reducible repeat first | apply bd | apply be | apply ba); refine blk_far ?_ NB271_282.out _; (with_reducible repeat first | apply bd | apply be | apply ba); refine blk_far ?_ NB271_282.out _; (with_reducible repeat first | apply bd | apply be | apply ba); refine blk_far ?_ NB271_282.out _; (with_reducible repeat first | apply bd | apply be | apply ba); refine blk_far ?_ NB271_282.out _; (with_reducible repeat first | apply bd | apply be | apply ba); refine blk_far ?_ NB271_282.out _; (with_reducible repeat first | apply bd | apply be | apply ba); exact BK271.out))⟩; have n2_ : Aside0 (w32.heap[gb282]? = some (.cells #[.bool t276, .bool t277, .bool t278, .bool t279, .bool t280] 27 (0, 0))) := ⟨(by rw [hw]; exact (by (with_reducible repeat first | apply bd | apply be | apply ba); refine blk_put (cs := #[.bool t276, .bool t277, .bool t278, .bool t279, .bool false]) ?_ 4 _ rfl; (with_reducible repeat first | apply bd | apply be | apply ba); refine blk_put (cs := #[.bool t276, .bool t277, .bool t278, .bool false, .bool false]) ?_ 3 _ rfl; (with_reducible repeat first | apply bd | apply be | apply ba); refine blk_put (cs := #[.bool t276, .bool t277, .bool false, .bool false, .bool false]) ?_ 2 _ rfl; (with_reducible repeat first | apply bd | apply be | apply ba); refine blk_put (cs := #[.bool t276, .bool false, .bool false, .bool false, .bool false]) ?_ 1 _ rfl; (with_reducible repeat first | apply bd | apply be | apply ba); refine blk_put (cs := F5) ?_ 0 _ rfl; (with_reducible repeat first | apply bd | apply be | apply ba); exact BK282.out))⟩; have n3_ : Aside0 (Below w.heap.size w w32) := ⟨(by rw [hw]; exact (bl2 HB.out GE271.out GE282.out))⟩; clear hw; clear HO274; clear BK271; clear BK282; clear HB; have HO274 := n0_; have BK271 := n1_; have BK282 := n2_; have HB := n3_; clear n0_ n1_ n2_ n3_) | ((with_reducible refine gate_callee (f := 39) rfl ?_); refine goesL_ (some 30) rfl rfl Try.func39 (by kernel_rfl) rfl #[.int .i64 a0, .int .u32 a3] rfl gl ?_; (with_reducible refine (format_Turn.calls a0 a3 t283 _ A22.out).mono ?_); rintro e w' ⟨rfl, ⟨nd, rfl⟩⟩; refine ⟨_, rfl, ?_⟩; (try (rw [drewN_self w32]; generalize hq_ : World.drewN w32 _ = w32; have n0_ : Aside0 (Kd.R (Kd.int .u32) 22 w32 w.heap.size (fun _ => True) (.slice Ao27 y272.length co27) y272) := ⟨by rw [← hq_]; exact (by (with_reducible repeat (first | apply Kd.R_alloc | apply Kd.R_drewN | apply Kd.R_drew)); exact HO274.out)⟩; have n1_ : Aside0 (w32.heap[gb271]? = some (.cells #[.bool false, .bool false, .bool false, .bool false, .bool false] 27 (0, 0))) := ⟨by rw [← hq_]; exact (bv BK271.out)⟩; have n2_ : Aside0 (w32.heap[gb282]? = some (.cells #[.bool t276, .bool t277, .bool t278, .bool t279, .bool t280] 27 (0, 0))) := ⟨by rw [← hq_]; exact (bv BK282.out)⟩; have n3_ : Aside0 (Below w.heap.size w w32) := ⟨by rw [← hq_]; exact (bl2 HB.out GE271.out GE282.out)⟩; clear HO274 BK271 BK282 HB hq_; have HO274 := n0_; have BK271 := n1_; have BK282 := n2_; have HB := n3_; clear n0_ n1_ n2_ n3_))) | ((with_reducible refine gate_callee (f := 12) rfl ?_); refine goesL_ (some 31) rfl rfl Try.func12 (by kernel_rfl) rfl #[.int .i64 a0, .int .i64 a1, .int .u32 a2, .int .u32 t283] rfl gl ?_; (with_reducible refine (sum_Add.calls k a0 a1 a2 t283 t284 t285 t286 t287 t288 t289 _ A23.out).mono ?_); rintro e w33 ⟨rfl, hb⟩; refine ⟨_, rfl, ?_⟩; have n0_ := Aside0.mk (Kd.R_below (by (with_reducible repeat (first | apply Kd.R_alloc | apply Kd.R_drewN | apply Kd.R_drew)); exact HO274.out) hb); have n1_ := Aside0.mk (blk_below (g := gb271) (o := .cells #[.bool false, .bool false, .bool false, .bool false, .bool false] 27 (0, 0)) (bv BK271.out) hb); have n2_ := Aside0.mk (blk_below (g := gb282) (o := .cells #[.bool t276, .bool t277, .bool t278, .bool t279, .bool t280] 27 (0, 0)) (bv BK282.out) hb); have n3_ := Aside0.mk (below_step (bl2 HB.out GE271.out GE282.out) hb); clear HO274; clear BK271; clear BK282; clear HB; have HO274 := n0_; have BK271 := n1_; have BK282 := n2_; have HB := n3_; clear n0_ n1_ n2_ n3_; obtain ⟨hcz34_0, hcz34_1, hcz34_2, hcz34_3, hcz34_4⟩ := bc5 BK271.out; obtain ⟨hfz34_0, hfz34_1, hfz34_2, hfz34_3, hfz34_4⟩ := bf5 BK271.out))
  refine bodyPost_ret (results_tc rfl _ _ gb271 27 #[.bool t285, .bool t286, .bool t287, .bool t288, .bool t289] (0, 0) _ rfl (by (with_reducible repeat first | apply bd | apply be | apply ba); refine blk_put (cs := #[.bool t285, .bool t286, .bool t287, .bool t288, .bool false]) ?_ 4 _ rfl; (with_reducible repeat first | apply bd | apply be | apply ba); refine blk_put (cs := #[.bool t285, .bool t286, .bool t287, .bool false, .bool false]) ?_ 3 _ rfl; (with_reducible repeat first | apply bd | apply be | apply ba); refine blk_put (cs := #[.bool t285, .bool t286, .bool false, .bool false, .bool false]) ?_ 2 _ rfl; (with_reducible repeat first | apply bd | apply be | apply ba); refine blk_put (cs := #[.bool t285, .bool false, .bool false, .bool false, .bool false]) ?_ 1 _ rfl; (with_reducible repeat first | apply bd | apply be | apply ba); refine blk_put (cs := F5) ?_ 0 _ rfl; (with_reducible repeat first | apply bd | apply be | apply ba); exact BK271.out) Try.underlying27 rfl (by kernel_rfl)) rfl ?_
  exact ⟨by first | rfl | (simp [errW_none, errW_some] <;> rfl) | (simp [*, errW_none, errW_some] <;> rfl), bl2 HB.out GE271.out GE282.out⟩

/-! ### anneallaw4_known: function 9 -/
def anneallaw4_known.f (k : Nat)  : Option (Bool) := (sum_Add.f k 2 0 1065353216 1065353216).bind fun bt290 => ((sum_Sub.f k 0 0 31744 31744).bind fun bt297 => (if bt290.1 = 1073741824 then (if (!bt290.2.1 && (!bt290.2.2.1 && (!bt290.2.2.2.1 && (!bt290.2.2.2.2.1 && (!bt290.2.2.2.2.2))))) = true then (if bt297.1 = 32256 then (some (bt297.2.1 && (!bt297.2.2.1 && (!bt297.2.2.2.1 && (!bt297.2.2.2.2.1 && (!bt297.2.2.2.2.2)))))) else (some false)) else (some false)) else (some false)))
theorem anneallaw4_known.mono : ∀ k, LeO (anneallaw4_known.f k ) (anneallaw4_known.f (k + 1) ) := by
 intro  k
 unfold anneallaw4_known.f
 repeat' first
   |(with_reducible exact sum_Add.mono _ _ _ _ _)
   |(with_reducible exact sum_Sub.mono _ _ _ _ _)
   |(with_reducible exact LeO.refl _)
   |(with_reducible exact LeO.none _)
   |(with_reducible refine LeO.ite ?_ ?_)
   |(with_reducible refine LeO.bind ?_ (fun _ => ?_))
   |exact sum_Add.mono _ _ _ _ _
   |exact sum_Sub.mono _ _ _ _ _
   |exact LeO.none _
   |refine LeO.ite ?_ ?_
   |refine LeO.bind ?_ (fun _ => ?_)
set_option maxHeartbeats 8000000 in
set_option maxRecDepth 100000 in
theorem anneallaw4_known.calls (k : Nat)  (r : Bool) (w : World) (h : anneallaw4_known.f k  = some r) :
  Calls Try.prog 9 #[] w fun e w' => e = .returned (.bool r) ∧ Below w.heap.size w w' := by
 have hu27 := Try.underlying27
 have HB := Aside0.mk (Below.refl w.heap.size w)
 have H : ((sum_Add.f k 2 0 1065353216 1065353216).bind fun bt290 => ((sum_Sub.f k 0 0 31744 31744).bind fun bt297 => (if bt290.1 = 1073741824 then (if (!bt290.2.1 && (!bt290.2.2.1 && (!bt290.2.2.2.1 && (!bt290.2.2.2.2.1 && (!bt290.2.2.2.2.2))))) = true then (if bt297.1 = 32256 then (some (bt297.2.1 && (!bt297.2.2.1 && (!bt297.2.2.2.1 && (!bt297.2.2.2.2.1 && (!bt297.2.2.2.2.2)))))) else (some false)) else (some false)) else (some false)))) = some r := h
 clear h
 replace H := Option.bind_eq_some_iff.mp H
 obtain ⟨⟨t290, t291, t292, t293, t294, t295⟩, A10, H⟩ := H
 replace H : ((sum_Sub.f k 0 0 31744 31744).bind fun bt297 => (if t290 = 1073741824 then (if (!t291 && (!t292 && (!t293 && (!t294 && (!t295))))) = true then (if bt297.1 = 32256 then (some (bt297.2.1 && (!bt297.2.2.1 && (!bt297.2.2.2.1 && (!bt297.2.2.2.2.1 && (!bt297.2.2.2.2.2)))))) else (some false)) else (some false)) else (some false))) = some r := H
 have A1 := Aside0.mk A10
 clear A10
 replace H := Option.bind_eq_some_iff.mp H
 obtain ⟨⟨t297, t298, t299, t300, t301, t302⟩, A20, H⟩ := H
 replace H : (if t290 = 1073741824 then (if (!t291 && (!t292 && (!t293 && (!t294 && (!t295))))) = true then (if t297 = 32256 then (some (t298 && (!t299 && (!t300 && (!t301 && (!t302)))))) else (some false)) else (some false)) else (some false)) = some r := H
 have A2 := Aside0.mk A20
 clear A20
 by_cases c3 : t290 = 1073741824
 ·rw [if_pos c3] at H
  have c3b0 : (t290 == 1073741824) = true := beq_iff_eq.mpr c3
  have c3b1 : (t290 != 1073741824) = false := bne_eq_false_iff_eq.mpr c3
  clear c3
  by_cases c4 : (!t291 && (!t292 && (!t293 && (!t294 && (!t295))))) = true
  ·rw [if_pos c4] at H
   have c4b0 : (!t291 && (!t292 && (!t293 && (!t294 && (!t295))))) = true := c4
   clear c4
   by_cases c5 : t297 = 32256
   ·rw [if_pos c5] at H
    have c5b0 : (t297 == 32256) = true := beq_iff_eq.mpr c5
    have c5b1 : (t297 != 32256) = false := bne_eq_false_iff_eq.mpr c5
    clear c5
    obtain rfl := Option.some.inj H
    go_enter Try.func9, Try.ntmps9
    go_wp2_with (first | ((with_reducible refine gate_callee (f := 12) rfl ?_); refine goesL_ (some 6) rfl rfl Try.func12 (by kernel_rfl) rfl #[.int .i64 2, .int .i64 0, .int .u32 1065353216, .int .u32 1065353216] rfl gl ?_; (with_reducible refine (sum_Add.calls k 2 0 1065353216 1065353216 t290 t291 t292 t293 t294 t295 _ A1.out).mono ?_); rintro e w6 ⟨rfl, hb⟩; refine ⟨_, rfl, ?_⟩; have n0_ := Aside0.mk (below_step (bl0 HB.out) hb); clear HB; have HB := n0_; clear n0_) | ((with_reducible refine gate_dst (N := 2) rfl ?_); refine box_event ?hg (N := 2) ?hd (cs := F5) (t := 27) ?hr ?_; (case hd => rfl); (case hg => rfl); (case hr => first | (go_simp; done) | (go_simp; rfl)); intro gb296 hg w7 hbox hb; have n0_ := Aside0.mk (below_step (bl0 HB.out) hb); have n1_ := Aside0.mk (hbox); have n2_ := Aside0.mk ((by rw [hg]; exact (below_size (bl0 HB.out)) : w.heap.size ≤ gb296)); have n3_ := n2_; clear HB; have HB := n0_; have BK296 := n1_; have GW296 := n2_; have GE296 := n3_; clear n0_ n1_ n2_ n3_; clear hb hbox hg; obtain ⟨hcz8_0, hcz8_1, hcz8_2, hcz8_3, hcz8_4⟩ := bc5 BK296.out; obtain ⟨hfz8_0, hfz8_1, hfz8_2, hfz8_3, hfz8_4⟩ := bf5 BK296.out) | ((with_reducible refine gate_callee (f := 13) rfl ?_); refine goesL_ (some 10) rfl rfl Try.func13 (by kernel_rfl) rfl #[.int .i64 0, .int .i64 0, .int .u32 31744, .int .u32 31744] rfl gl ?_; (with_reducible refine (sum_Sub.calls k 0 0 31744 31744 t297 t298 t299 t300 t301 t302 _ A2.out).mono ?_); rintro e w9 ⟨rfl, hb⟩; refine ⟨_, rfl, ?_⟩; have n0_ := Aside0.mk (blk_below (g := gb296) (o := .cells #[.bool t291, .bool t292, .bool t293, .bool t294, .bool t295] 27 (0, 0)) (by (with_reducible repeat first | apply bd | apply be | apply ba); refine blk_put (cs := #[.bool t291, .bool t292, .bool t293, .bool t294, .bool false]) ?_ 4 _ rfl; (with_reducible repeat first | apply bd | apply be | apply ba); refine blk_put (cs := #[.bool t291, .bool t292, .bool t293, .bool false, .bool false]) ?_ 3 _ rfl; (with_reducible repeat first | apply bd | apply be | apply ba); refine blk_put (cs := #[.bool t291, .bool t292, .bool false, .bool false, .bool false]) ?_ 2 _ rfl; (with_reducible repeat first | apply bd | apply be | apply ba); refine blk_put (cs := #[.bool t291, .bool false, .bool false, .bool false, .bool false]) ?_ 1 _ rfl; (with_reducible repeat first | apply bd | apply be | apply ba); refine blk_put (cs := F5) ?_ 0 _ rfl; (with_reducible repeat first | apply bd | apply be | apply ba); exact BK296.out) hb); have n1_ := Aside0.mk (below_step (bl1 HB.out GE296.out) hb); clear BK296; clear HB; have BK296 := n0_; have HB := n1_; clear n0_ n1_) | ((with_reducible refine gate_dst (N := 4) rfl ?_); refine box_event ?hg (N := 4) ?hd (cs := F5) (t := 27) ?hr ?_; (case hd => rfl); (case hg => rfl); (case hr => first | (go_simp; done) | (go_simp; rfl)); intro gb303 hg w10 hbox hb; have n0_ := Aside0.mk (blk_below (g := gb296) (o := .cells #[.bool t291, .bool t292, .bool t293, .bool t294, .bool t295] 27 (0, 0)) (bv BK296.out) hb); have n1_ := Aside0.mk (below_step (bl1 HB.out GE296.out) hb); have n2_ := Aside0.mk (hbox); have n3_ := Aside0.mk ((by rw [hg]; exact (below_size (bl1 HB.out GE296.out)) : w.heap.size ≤ gb303)); have n4_ := n3_; have n5_ := Aside0.mk ((by rw [hg]; exact Nat.ne_of_lt (blk_lt (g := gb296) (o := .cells #[.bool t291, .bool t292, .bool t293, .bool t294, .bool t295] 27 (0, 0)) (bv BK296.out)) : gb296 ≠ gb303)); have n6_ := Aside0.mk (Ne.symm n5_.out); clear BK296; clear HB; have BK296 := n0_; have HB := n1_; have BK303 := n2_; have GW303 := n3_; have GE303 := n4_; have NB296_303 := n5_; have NB303_296 := n6_; clear n0_ n1_ n2_ n3_ n4_ n5_ n6_; clear hb hbox hg; have hnb11 := NB303_296.out; have hnc11 := NB296_303.out; obtain ⟨hcz12_0, hcz12_1, hcz12_2, hcz12_3, hcz12_4⟩ := bc5 BK303.out; obtain ⟨hfz12_0, hfz12_1, hfz12_2, hfz12_3, hfz12_4⟩ := bf5 BK303.out; obtain ⟨hcz13_0, hcz13_1, hcz13_2, hcz13_3, hcz13_4⟩ := bc5 BK296.out; obtain ⟨hfz13_0, hfz13_1, hfz13_2, hfz13_3, hfz13_4⟩ := bf5 BK296.out))
    go_ret
    exact ⟨by first | rfl | (simp [errW_none, errW_some] <;> rfl) | (simp [*, errW_none, errW_some] <;> rfl), bl2 HB.out GE296.out GE303.out⟩
   ·rw [if_neg c5] at H
    have c5b0 : (t297 == 32256) = false := beq_eq_false_iff_ne.mpr c5
    have c5b1 : (t297 != 32256) = true := bne_iff_ne.mpr c5
    obtain rfl := Option.some.inj H
    go_enter Try.func9, Try.ntmps9
    go_wp2_with (first | ((with_reducible refine gate_callee (f := 12) rfl ?_); refine goesL_ (some 6) rfl rfl Try.func12 (by kernel_rfl) rfl #[.int .i64 2, .int .i64 0, .int .u32 1065353216, .int .u32 1065353216] rfl gl ?_; (with_reducible refine (sum_Add.calls k 2 0 1065353216 1065353216 t290 t291 t292 t293 t294 t295 _ A1.out).mono ?_); rintro e w14 ⟨rfl, hb⟩; refine ⟨_, rfl, ?_⟩; have n0_ := Aside0.mk (below_step (bl0 HB.out) hb); clear HB; have HB := n0_; clear n0_) | ((with_reducible refine gate_dst (N := 2) rfl ?_); refine box_event ?hg (N := 2) ?hd (cs := F5) (t := 27) ?hr ?_; (case hd => rfl); (case hg => rfl); (case hr => first | (go_simp; done) | (go_simp; rfl)); intro gb296 hg w15 hbox hb; have n0_ := Aside0.mk (below_step (bl0 HB.out) hb); have n1_ := Aside0.mk (hbox); have n2_ := Aside0.mk ((by rw [hg]; exact (below_size (bl0 HB.out)) : w.heap.size ≤ gb296)); have n3_ := n2_; clear HB; have HB := n0_; have BK296 := n1_; have GW296 := n2_; have GE296 := n3_; clear n0_ n1_ n2_ n3_; clear hb hbox hg; obtain ⟨hcz16_0, hcz16_1, hcz16_2, hcz16_3, hcz16_4⟩ := bc5 BK296.out; obtain ⟨hfz16_0, hfz16_1, hfz16_2, hfz16_3, hfz16_4⟩ := bf5 BK296.out) | ((with_reducible refine gate_callee (f := 13) rfl ?_); refine goesL_ (some 10) rfl rfl Try.func13 (by kernel_rfl) rfl #[.int .i64 0, .int .i64 0, .int .u32 31744, .int .u32 31744] rfl gl ?_; (with_reducible refine (sum_Sub.calls k 0 0 31744 31744 t297 t298 t299 t300 t301 t302 _ A2.out).mono ?_); rintro e w17 ⟨rfl, hb⟩; refine ⟨_, rfl, ?_⟩; have n0_ := Aside0.mk (blk_below (g := gb296) (o := .cells #[.bool t291, .bool t292, .bool t293, .bool t294, .bool t295] 27 (0, 0)) (by (with_reducible repeat first | apply bd | apply be | apply ba); refine blk_put (cs := #[.bool t291, .bool t292, .bool t293, .bool t294, .bool false]) ?_ 4 _ rfl; (with_reducible repeat first | apply bd | apply be | apply ba); refine blk_put (cs := #[.bool t291, .bool t292, .bool t293, .bool false, .bool false]) ?_ 3 _ rfl; (with_reducible repeat first | apply bd | apply be | apply ba); refine blk_put (cs := #[.bool t291, .bool t292, .bool false, .bool false, .bool false]) ?_ 2 _ rfl; (with_reducible repeat first | apply bd | apply be | apply ba); refine blk_put (cs := #[.bool t291, .bool false, .bool false, .bool false, .bool false]) ?_ 1 _ rfl; (with_reducible repeat first | apply bd | apply be | apply ba); refine blk_put (cs := F5) ?_ 0 _ rfl; (with_reducible repeat first | apply bd | apply be | apply ba); exact BK296.out) hb); have n1_ := Aside0.mk (below_step (bl1 HB.out GE296.out) hb); clear BK296; clear HB; have BK296 := n0_; have HB := n1_; clear n0_ n1_) | ((with_reducible refine gate_dst (N := 4) rfl ?_); refine box_event ?hg (N := 4) ?hd (cs := F5) (t := 27) ?hr ?_; (case hd => rfl); (case hg => rfl); (case hr => first | (go_simp; done) | (go_simp; rfl)); intro gb303 hg w18 hbox hb; have n0_ := Aside0.mk (blk_below (g := gb296) (o := .cells #[.bool t291, .bool t292, .bool t293, .bool t294, .bool t295] 27 (0, 0)) (bv BK296.out) hb); have n1_ := Aside0.mk (below_step (bl1 HB.out GE296.out) hb); have n2_ := Aside0.mk (hbox); have n3_ := Aside0.mk ((by rw [hg]; exact (below_size (bl1 HB.out GE296.out)) : w.heap.size ≤ gb303)); have n4_ := n3_; have n5_ := Aside0.mk ((by rw [hg]; exact Nat.ne_of_lt (blk_lt (g := gb296) (o := .cells #[.bool t291, .bool t292, .bool t293, .bool t294, .bool t295] 27 (0, 0)) (bv BK296.out)) : gb296 ≠ gb303)); have n6_ := Aside0.mk (Ne.symm n5_.out); clear BK296; clear HB; have BK296 := n0_; have HB := n1_; have BK303 := n2_; have GW303 := n3_; have GE303 := n4_; have NB296_303 := n5_; have NB303_296 := n6_; clear n0_ n1_ n2_ n3_ n4_ n5_ n6_; clear hb hbox hg; have hnb19 := NB303_296.out; have hnc19 := NB296_303.out; obtain ⟨hcz20_0, hcz20_1, hcz20_2, hcz20_3, hcz20_4⟩ := bc5 BK303.out; obtain ⟨hfz20_0, hfz20_1, hfz20_2, hfz20_3, hfz20_4⟩ := bf5 BK303.out; obtain ⟨hcz21_0, hcz21_1, hcz21_2, hcz21_3, hcz21_4⟩ := bc5 BK296.out; obtain ⟨hfz21_0, hfz21_1, hfz21_2, hfz21_3, hfz21_4⟩ := bf5 BK296.out))
    go_ret
    exact ⟨by first | rfl | (simp [errW_none, errW_some] <;> rfl) | (simp [*, errW_none, errW_some] <;> rfl), bl2 HB.out GE296.out GE303.out⟩
  ·rw [if_neg c4] at H
   have c4b0 : (!t291 && (!t292 && (!t293 && (!t294 && (!t295))))) = false := by simpa using c4
   clear c4
   obtain rfl := Option.some.inj H
   go_enter Try.func9, Try.ntmps9
   go_wp2_with (first | ((with_reducible refine gate_callee (f := 12) rfl ?_); refine goesL_ (some 6) rfl rfl Try.func12 (by kernel_rfl) rfl #[.int .i64 2, .int .i64 0, .int .u32 1065353216, .int .u32 1065353216] rfl gl ?_; (with_reducible refine (sum_Add.calls k 2 0 1065353216 1065353216 t290 t291 t292 t293 t294 t295 _ A1.out).mono ?_); rintro e w22 ⟨rfl, hb⟩; refine ⟨_, rfl, ?_⟩; have n0_ := Aside0.mk (below_step (bl0 HB.out) hb); clear HB; have HB := n0_; clear n0_) | ((with_reducible refine gate_dst (N := 2) rfl ?_); refine box_event ?hg (N := 2) ?hd (cs := F5) (t := 27) ?hr ?_; (case hd => rfl); (case hg => rfl); (case hr => first | (go_simp; done) | (go_simp; rfl)); intro gb296 hg w23 hbox hb; have n0_ := Aside0.mk (below_step (bl0 HB.out) hb); have n1_ := Aside0.mk (hbox); have n2_ := Aside0.mk ((by rw [hg]; exact (below_size (bl0 HB.out)) : w.heap.size ≤ gb296)); have n3_ := n2_; clear HB; have HB := n0_; have BK296 := n1_; have GW296 := n2_; have GE296 := n3_; clear n0_ n1_ n2_ n3_; clear hb hbox hg; obtain ⟨hcz24_0, hcz24_1, hcz24_2, hcz24_3, hcz24_4⟩ := bc5 BK296.out; obtain ⟨hfz24_0, hfz24_1, hfz24_2, hfz24_3, hfz24_4⟩ := bf5 BK296.out) | ((with_reducible refine gate_callee (f := 13) rfl ?_); refine goesL_ (some 10) rfl rfl Try.func13 (by kernel_rfl) rfl #[.int .i64 0, .int .i64 0, .int .u32 31744, .int .u32 31744] rfl gl ?_; (with_reducible refine (sum_Sub.calls k 0 0 31744 31744 t297 t298 t299 t300 t301 t302 _ A2.out).mono ?_); rintro e w25 ⟨rfl, hb⟩; refine ⟨_, rfl, ?_⟩; have n0_ := Aside0.mk (blk_below (g := gb296) (o := .cells #[.bool t291, .bool t292, .bool t293, .bool t294, .bool t295] 27 (0, 0)) (by (with_reducible repeat first | apply bd | apply be | apply ba); refine blk_put (cs := #[.bool t291, .bool t292, .bool t293, .bool t294, .bool false]) ?_ 4 _ rfl; (with_reducible repeat first | apply bd | apply be | apply ba); refine blk_put (cs := #[.bool t291, .bool t292, .bool t293, .bool false, .bool false]) ?_ 3 _ rfl; (with_reducible repeat first | apply bd | apply be | apply ba); refine blk_put (cs := #[.bool t291, .bool t292, .bool false, .bool false, .bool false]) ?_ 2 _ rfl; (with_reducible repeat first | apply bd | apply be | apply ba); refine blk_put (cs := #[.bool t291, .bool false, .bool false, .bool false, .bool false]) ?_ 1 _ rfl; (with_reducible repeat first | apply bd | apply be | apply ba); refine blk_put (cs := F5) ?_ 0 _ rfl; (with_reducible repeat first | apply bd | apply be | apply ba); exact BK296.out) hb); have n1_ := Aside0.mk (below_step (bl1 HB.out GE296.out) hb); clear BK296; clear HB; have BK296 := n0_; have HB := n1_; clear n0_ n1_) | ((with_reducible refine gate_dst (N := 4) rfl ?_); refine box_event ?hg (N := 4) ?hd (cs := F5) (t := 27) ?hr ?_; (case hd => rfl); (case hg => rfl); (case hr => first | (go_simp; done) | (go_simp; rfl)); intro gb303 hg w26 hbox hb; have n0_ := Aside0.mk (blk_below (g := gb296) (o := .cells #[.bool t291, .bool t292, .bool t293, .bool t294, .bool t295] 27 (0, 0)) (bv BK296.out) hb); have n1_ := Aside0.mk (below_step (bl1 HB.out GE296.out) hb); have n2_ := Aside0.mk (hbox); have n3_ := Aside0.mk ((by rw [hg]; exact (below_size (bl1 HB.out GE296.out)) : w.heap.size ≤ gb303)); have n4_ := n3_; have n5_ := Aside0.mk ((by rw [hg]; exact Nat.ne_of_lt (blk_lt (g := gb296) (o := .cells #[.bool t291, .bool t292, .bool t293, .bool t294, .bool t295] 27 (0, 0)) (bv BK296.out)) : gb296 ≠ gb303)); have n6_ := Aside0.mk (Ne.symm n5_.out); clear BK296; clear HB; have BK296 := n0_; have HB := n1_; have BK303 := n2_; have GW303 := n3_; have GE303 := n4_; have NB296_303 := n5_; have NB303_296 := n6_; clear n0_ n1_ n2_ n3_ n4_ n5_ n6_; clear hb hbox hg; have hnb27 := NB303_296.out; have hnc27 := NB296_303.out; obtain ⟨hcz28_0, hcz28_1, hcz28_2, hcz28_3, hcz28_4⟩ := bc5 BK303.out; obtain ⟨hfz28_0, hfz28_1, hfz28_2, hfz28_3, hfz28_4⟩ := bf5 BK303.out; obtain ⟨hcz29_0, hcz29_1, hcz29_2, hcz29_3, hcz29_4⟩ := bc5 BK296.out; obtain ⟨hfz29_0, hfz29_1, hfz29_2, hfz29_3, hfz29_4⟩ := bf5 BK296.out))
   go_ret
   exact ⟨by first | rfl | (simp [errW_none, errW_some] <;> rfl) | (simp [*, errW_none, errW_some] <;> rfl), bl2 HB.out GE296.out GE303.out⟩
 ·rw [if_neg c3] at H
  have c3b0 : (t290 == 1073741824) = false := beq_eq_false_iff_ne.mpr c3
  have c3b1 : (t290 != 1073741824) = true := bne_iff_ne.mpr c3
  obtain rfl := Option.some.inj H
  go_enter Try.func9, Try.ntmps9
  go_wp2_with (first | ((with_reducible refine gate_callee (f := 12) rfl ?_); refine goesL_ (some 6) rfl rfl Try.func12 (by kernel_rfl) rfl #[.int .i64 2, .int .i64 0, .int .u32 1065353216, .int .u32 1065353216] rfl gl ?_; (with_reducible refine (sum_Add.calls k 2 0 1065353216 1065353216 t290 t291 t292 t293 t294 t295 _ A1.out).mono ?_); rintro e w30 ⟨rfl, hb⟩; refine ⟨_, rfl, ?_⟩; have n0_ := Aside0.mk (below_step (bl0 HB.out) hb); clear HB; have HB := n0_; clear n0_) | ((with_reducible refine gate_dst (N := 2) rfl ?_); refine box_event ?hg (N := 2) ?hd (cs := F5) (t := 27) ?hr ?_; (case hd => rfl); (case hg => rfl); (case hr => first | (go_simp; done) | (go_simp; rfl)); intro gb296 hg w31 hbox hb; have n0_ := Aside0.mk (below_step (bl0 HB.out) hb); have n1_ := Aside0.mk (hbox); have n2_ := Aside0.mk ((by rw [hg]; exact (below_size (bl0 HB.out)) : w.heap.size ≤ gb296)); have n3_ := n2_; clear HB; have HB := n0_; have BK296 := n1_; have GW296 := n2_; have GE296 := n3_; clear n0_ n1_ n2_ n3_; clear hb hbox hg; obtain ⟨hcz32_0, hcz32_1, hcz32_2, hcz32_3, hcz32_4⟩ := bc5 BK296.out; obtain ⟨hfz32_0, hfz32_1, hfz32_2, hfz32_3, hfz32_4⟩ := bf5 BK296.out) | ((with_reducible refine gate_callee (f := 13) rfl ?_); refine goesL_ (some 10) rfl rfl Try.func13 (by kernel_rfl) rfl #[.int .i64 0, .int .i64 0, .int .u32 31744, .int .u32 31744] rfl gl ?_; (with_reducible refine (sum_Sub.calls k 0 0 31744 31744 t297 t298 t299 t300 t301 t302 _ A2.out).mono ?_); rintro e w33 ⟨rfl, hb⟩; refine ⟨_, rfl, ?_⟩; have n0_ := Aside0.mk (blk_below (g := gb296) (o := .cells #[.bool t291, .bool t292, .bool t293, .bool t294, .bool t295] 27 (0, 0)) (by (with_reducible repeat first | apply bd | apply be | apply ba); refine blk_put (cs := #[.bool t291, .bool t292, .bool t293, .bool t294, .bool false]) ?_ 4 _ rfl; (with_reducible repeat first | apply bd | apply be | apply ba); refine blk_put (cs := #[.bool t291, .bool t292, .bool t293, .bool false, .bool false]) ?_ 3 _ rfl; (with_reducible repeat first | apply bd | apply be | apply ba); refine blk_put (cs := #[.bool t291, .bool t292, .bool false, .bool false, .bool false]) ?_ 2 _ rfl; (with_reducible repeat first | apply bd | apply be | apply ba); refine blk_put (cs := #[.bool t291, .bool false, .bool false, .bool false, .bool false]) ?_ 1 _ rfl; (with_reducible repeat first | apply bd | apply be | apply ba); refine blk_put (cs := F5) ?_ 0 _ rfl; (with_reducible repeat first | apply bd | apply be | apply ba); exact BK296.out) hb); have n1_ := Aside0.mk (below_step (bl1 HB.out GE296.out) hb); clear BK296; clear HB; have BK296 := n0_; have HB := n1_; clear n0_ n1_) | ((with_reducible refine gate_dst (N := 4) rfl ?_); refine box_event ?hg (N := 4) ?hd (cs := F5) (t := 27) ?hr ?_; (case hd => rfl); (case hg => rfl); (case hr => first | (go_simp; done) | (go_simp; rfl)); intro gb303 hg w34 hbox hb; have n0_ := Aside0.mk (blk_below (g := gb296) (o := .cells #[.bool t291, .bool t292, .bool t293, .bool t294, .bool t295] 27 (0, 0)) (bv BK296.out) hb); have n1_ := Aside0.mk (below_step (bl1 HB.out GE296.out) hb); have n2_ := Aside0.mk (hbox); have n3_ := Aside0.mk ((by rw [hg]; exact (below_size (bl1 HB.out GE296.out)) : w.heap.size ≤ gb303)); have n4_ := n3_; have n5_ := Aside0.mk ((by rw [hg]; exact Nat.ne_of_lt (blk_lt (g := gb296) (o := .cells #[.bool t291, .bool t292, .bool t293, .bool t294, .bool t295] 27 (0, 0)) (bv BK296.out)) : gb296 ≠ gb303)); have n6_ := Aside0.mk (Ne.symm n5_.out); clear BK296; clear HB; have BK296 := n0_; have HB := n1_; have BK303 := n2_; have GW303 := n3_; have GE303 := n4_; have NB296_303 := n5_; have NB303_296 := n6_; clear n0_ n1_ n2_ n3_ n4_ n5_ n6_; clear hb hbox hg; have hnb35 := NB303_296.out; have hnc35 := NB296_303.out; obtain ⟨hcz36_0, hcz36_1, hcz36_2, hcz36_3, hcz36_4⟩ := bc5 BK303.out; obtain ⟨hfz36_0, hfz36_1, hfz36_2, hfz36_3, hfz36_4⟩ := bf5 BK303.out))
  go_ret
  exact ⟨by first | rfl | (simp [errW_none, errW_some] <;> rfl) | (simp [*, errW_none, errW_some] <;> rfl), bl2 HB.out GE296.out GE303.out⟩

/-! ### anneallaw4_form: function 10 -/
def anneallaw4_form.f (a0 : Int) : Option (Int) := (some (([0, 1, 2] : List Int) : List Int)).bind fun y304 => (if 0 ≤ (Int.tmod a0 3) then (if (Int.tmod a0 3) < (y304.length : Int) then (some (rd y304 (Int.tmod a0 3))) else (none)) else (none))
set_option maxHeartbeats 8000000 in
set_option maxRecDepth 100000 in
theorem anneallaw4_form.calls (a0 : Int) (r : Int) (w : World) (h : anneallaw4_form.f a0 = some r) :
  Calls Try.prog 10 #[.int .u8 a0] w fun e w' => e = .returned (.int .i64 r) ∧ Below w.heap.size w w' := by
 have HB := Aside0.mk (Below.refl w.heap.size w)
 have H : ((some (([0, 1, 2] : List Int) : List Int)).bind fun y304 => (if 0 ≤ (Int.tmod a0 3) then (if (Int.tmod a0 3) < (y304.length : Int) then (some (rd y304 (Int.tmod a0 3))) else (none)) else (none))) = some r := h
 clear h
 obtain ⟨y304, hy304⟩ : ∃ y_ : List Int, y_ = (([0, 1, 2] : List Int)) := ⟨_, rfl⟩
 replace H : (if 0 ≤ (Int.tmod a0 3) then (if (Int.tmod a0 3) < (y304.length : Int) then (some (rd y304 (Int.tmod a0 3))) else (none)) else (none)) = some r := by first | (rw [hy304]; with_reducible exact H) | (have H2_ := (Option.bind_some _ _).symm.trans H; rw [hy304]; with_reducible exact H2_) | (have H2_ := (Option.bind_some _ _).symm.trans H; with_reducible exact H2_) | with_reducible exact H | (rw [hy304]; exact H) | exact H
 have Ny304 := Aside0.mk hy304
 clear hy304
 obtain ⟨ji2, hji2⟩ : ∃ j_ : Int, (Int.tmod a0 3) = j_ := ⟨_, rfl⟩
 replace H : (if 0 ≤ (ji2) then (if (ji2) < (y304.length : Int) then (some (rd y304 (ji2))) else (none)) else (none)) = some r := by first | (rw [hji2] at H; exact H) | (simp only [hji2] at H ⊢; exact H)
 by_cases c3 : 0 ≤ (ji2)
 ·rw [if_pos c3] at H
  have c3b0 : decide (0 ≤ (ji2)) = true := decide_eq_true c3
  clear c3
  by_cases c4 : (ji2) < (y304.length : Int)
  ·rw [if_pos c4] at H
   have c4b0 : decide ((ji2) < (y304.length : Int)) = true := decide_eq_true c4
   clear c4
   obtain rfl := Option.some.inj H
   go_enter Try.func10, Try.ntmps10
   go_wp2_with (first | ((with_reducible refine gate_dst (N := 3) rfl ?_); refine Kd.R_lit (Kd.int .i64) _ 3 ?hg (N := 3) ?hd (xs := ([0, 1, 2] : List Int)) (inner := [.int .i64 0, .int .i64 1, .int .i64 2]) (ok := fun _ => True) (okp := fun _ => True) ?hr ?hp (fun _ hk => hk) trivial (Below.refl _ _) (Nat.le_refl _) (by simp) ?_; (case hd => rfl); (case hg => rfl); (case hr => first | (go_simp; done) | (go_simp; rfl)); (case hp => exact (Reps.one (show Kd.M (Kd.int .i64) _ _ _ 0 [.int .i64 0] from rfl) (Reps.one (show Kd.M (Kd.int .i64) _ _ _ 1 [.int .i64 1] from rfl) (Reps.one (show Kd.M (Kd.int .i64) _ _ _ 2 [.int .i64 2] from rfl) (Reps.none _ _))))); intro v305 w5 ho6 hb hg_ hnew_; clear hg_ hnew_; (first | rw [← Ny304.out] at ho6 | (simp only [Int.reduceToNat] at ho6; rw [← Ny304.out] at ho6)); have n0_ := Aside0.mk (Kd.R_lower ho6 (below_size (bl0 HB.out))); have n1_ := Aside0.mk (below_step (bl0 HB.out) hb); clear HB; have HO306 := n0_; have HB := n1_; clear n0_ n1_; clear hb ho6; obtain ⟨Ao7, co7, eo7⟩ := Kd.R_slice HO306.out; subst eo7; have p307 : 0 ≤ ((ji2) : Int) := of_decide_eq_true (by first | (with_reducible assumption) | assumption); have q307 : (ji2) < (y304.length : Int) := of_decide_eq_true (by first | (with_reducible assumption) | assumption); obtain ⟨ad307, e307, hx307_0⟩ := Kd.at_int (Kd.R_reads' HO306.out).2.2 (ji2) p307 q307; cases e307; replace p307 := eq_true p307; replace q307 := eq_true q307))
   go_ret
   exact ⟨by first | rfl | (simp [errW_none, errW_some] <;> rfl) | (simp only [← hji2]; first | rfl | (simp [errW_none, errW_some] <;> rfl)) | (simp [*, errW_none, errW_some] <;> rfl), bl0 HB.out⟩
  ·rw [if_neg c4] at H
   exact absurd H (by simp)
 ·rw [if_neg c3] at H
  exact absurd H (by simp)

/-! ### annealref1_Widths: function 29 -/
def annealref1_Widths.f (a0 : Int) : Option (Int × Int) := if a0 = 0 then (some (5, 10)) else (if a0 = 1 then (some (8, 7)) else (some (8, 23)))
set_option maxHeartbeats 8000000 in
set_option maxRecDepth 100000 in
theorem annealref1_Widths.calls (a0 : Int) (r1 : Int) (r2 : Int) (w : World) (h : annealref1_Widths.f a0 = some (r1, r2)) :
  Calls Try.prog 29 #[.int .i64 a0] w fun e w' => e = .returned (.tuple #[.int .i64 r1, .int .i64 r2]) ∧ Drawn0 w w' := by
 have H : (if a0 = 0 then (some (5, 10)) else (if a0 = 1 then (some (8, 7)) else (some (8, 23)))) = some (r1, r2) := h
 clear h
 by_cases c2 : a0 = 0
 ·rw [if_pos c2] at H
  have c2b0 : (a0 == 0) = true := beq_iff_eq.mpr c2
  have c2b1 : (a0 != 0) = false := bne_eq_false_iff_eq.mpr c2
  clear c2
  simp only [Option.some.injEq, Prod.mk.injEq] at H
  obtain ⟨rfl, rfl⟩ := H
  go_enter Try.func29, Try.ntmps29
  go_wp2
  go_ret2
  exact ⟨by first | rfl | (simp; done) | (simp [*]; done) | (congr 1; (try unfold wrap64); omega) | (congr 1; rw [IntKind.wrap_u64]; omega), by repeat (first | exact Drawn0.refl _ | apply Drawn0.step)⟩
 ·rw [if_neg c2] at H
  have c2b0 : (a0 == 0) = false := beq_eq_false_iff_ne.mpr c2
  have c2b1 : (a0 != 0) = true := bne_iff_ne.mpr c2
  by_cases c3 : a0 = 1
  ·rw [if_pos c3] at H
   have c3b0 : (a0 == 1) = true := beq_iff_eq.mpr c3
   have c3b1 : (a0 != 1) = false := bne_eq_false_iff_eq.mpr c3
   clear c3
   simp only [Option.some.injEq, Prod.mk.injEq] at H
   obtain ⟨rfl, rfl⟩ := H
   go_enter Try.func29, Try.ntmps29
   go_wp2
   go_ret2
   exact ⟨by first | rfl | (simp; done) | (simp [*]; done) | (congr 1; (try unfold wrap64); omega) | (congr 1; rw [IntKind.wrap_u64]; omega), by repeat (first | exact Drawn0.refl _ | apply Drawn0.step)⟩
  ·rw [if_neg c3] at H
   have c3b0 : (a0 == 1) = false := beq_eq_false_iff_ne.mpr c3
   have c3b1 : (a0 != 1) = true := bne_iff_ne.mpr c3
   simp only [Option.some.injEq, Prod.mk.injEq] at H
   obtain ⟨rfl, rfl⟩ := H
   go_enter Try.func29, Try.ntmps29
   go_wp2
   go_ret2
   exact ⟨by first | rfl | (simp; done) | (simp [*]; done) | (congr 1; (try unfold wrap64); omega) | (congr 1; rw [IntKind.wrap_u64]; omega), by repeat (first | exact Drawn0.refl _ | apply Drawn0.step)⟩

end Go.Proofs.Ytlkjoibpfhjhcaa.P
