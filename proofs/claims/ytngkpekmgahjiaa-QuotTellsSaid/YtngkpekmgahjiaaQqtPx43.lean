import Derived.Test.YtngkpekmgahjiaaQqtZ
import Derived.Test.YtngkpekmgahjiaaQqtM1
import Derived.Test.YtngkpekmgahjiaaQqtPx17
import Derived.Test.YtngkpekmgahjiaaQqtM5
import Derived.Test.YtngkpekmgahjiaaQqtM7
-- Printed by a program of this session's out of Lean's print of the translation; Lean checks it.
namespace Go.Proofs.Ytngkpekmgahjiaa.P
open Go.RowKit Go.Proofs.YtngkpekmgahjiaaW.PrintWords Go.Proofs.YtngkpekmgahjiaaW.PrintLast Go.Proofs.YtngkpekmgahjiaaW.PrintMore
attribute [local go_sem] max2_int min2_int max_two min_two max_three min_three max_four min_four   -- for this text's walks alone
set_option linter.unusedVariables false
set_option linter.unusedSimpArgs false

/-! ### annealref1_Root: function 77 -/
def annealref1_Root.l0 : Nat → Int → Int → Int → Option (Int × Bool)
 |0, _, _, _ => none
 |k + 1, x0, x4, x5 => if x5 ≥ 0 then (if 0 ≤ x5 then (if (IntKind.u64.wrap ((Go.bits .or .u64 x4 (shl .u64 1 x5)) * (Go.bits .or .u64 x4 (shl .u64 1 x5)))) ≤ x0 then (annealref1_Root.l0 k x0 (Go.bits .or .u64 x4 (shl .u64 1 x5)) (wrap64 (x5 - 1))) else (annealref1_Root.l0 k x0 x4 (wrap64 (x5 - 1)))) else (none)) else (some ((x4) % 4294967296, ((IntKind.u64.wrap (x4 * x4)) == x0)))
def annealref1_Root.f (k : Nat) (a0 : Int) : Option (Int × Bool) := annealref1_Root.l0 k a0 0 31
theorem annealref1_Root.mono_l : ∀ k, (∀ y0 y1 y2, LeO (annealref1_Root.l0 k y0 y1 y2) (annealref1_Root.l0 (k + 1) y0 y1 y2))
 |0 => fun _ _ _ r h => by simp [annealref1_Root.l0] at h
 |k + 1 => by
  have ih0 := annealref1_Root.mono_l k
  ·intro y0 y1 y2
   unfold annealref1_Root.l0
   repeat' first
   |(with_reducible exact ih0 _ _ _)
   |(with_reducible exact LeO.refl _)
   |(with_reducible exact LeO.none _)
   |(with_reducible refine LeO.ite ?_ ?_)
   |(with_reducible refine LeO.bind ?_ (fun _ => ?_))
   |exact ih0 _ _ _
   |exact LeO.none _
   |refine LeO.ite ?_ ?_
   |refine LeO.bind ?_ (fun _ => ?_)
theorem annealref1_Root.mono : ∀ a0 k, LeO (annealref1_Root.f k a0) (annealref1_Root.f (k + 1) a0) := by
 intro a0 k
 have ih0 := annealref1_Root.mono_l k
 unfold annealref1_Root.f
 repeat' first
   |(with_reducible exact ih0 _ _ _)
   |(with_reducible exact LeO.refl _)
   |(with_reducible exact LeO.none _)
   |(with_reducible refine LeO.ite ?_ ?_)
   |(with_reducible refine LeO.bind ?_ (fun _ => ?_))
   |exact ih0 _ _ _
   |exact LeO.none _
   |refine LeO.ite ?_ ?_
   |refine LeO.bind ?_ (fun _ => ?_)
set_option maxHeartbeats 8000000 in
set_option maxRecDepth 100000 in
theorem annealref1_Root.calls (k : Nat) (a0 : Int) (r1 : Int) (r2 : Bool) (w : World) (h : annealref1_Root.f k a0 = some (r1, r2)) :
  Calls Try.prog 77 #[.int .u64 a0] w fun e w' => e = .returned (.tuple #[.int .u32 r1, .bool r2]) ∧ Drawn0 w w' := by
 have H : (annealref1_Root.l0 k a0 0 31) = some (r1, r2) := h
 clear h
 have H' := Aside0.mk H
 clear H
 go_enter Try.func77, Try.ntmps77
 go_wp2
 go_loopg [4, 5] k (fun kq v4 v5 w' => ∃ (x4_1 : Int) (x5_1 : Int), v4 = .int .u64 x4_1 ∧ v5 = .int .i64 x5_1 ∧ Aside0 (annealref1_Root.l0 kq a0 x4_1 x5_1 = some (r1, r2)) ∧ Aside0 (kq ≤ k) ∧ Drawn0 w w')
 case atStart => exact ⟨(0), (31), (by first | rfl | (simp; done) | (simp [*]; done) | (congr 1; (try unfold wrap64); omega) | (congr 1; rw [IntKind.wrap_u64]; omega)), (by first | rfl | (simp; done) | (simp [*]; done) | (congr 1; (try unfold wrap64); omega) | (congr 1; rw [IntKind.wrap_u64]; omega)), H', ⟨Nat.le_refl _⟩, by repeat (first | exact Drawn0.refl _ | apply Drawn0.step)⟩
 case round =>
  clear H'
  obtain ⟨x4_1, x5_1, rfl, rfl, HA, HK1, ⟨m1, rfl⟩⟩ := hrel
  cases gk with
  |zero => exact absurd HA.out (by simp [annealref1_Root.l0])
  |succ k1 =>
   have H := HA.out
   clear HA
   simp only [annealref1_Root.l0] at H
   by_cases c2 : x5_1 ≥ 0
   ·rw [if_pos c2] at H
    have c2b0 : decide (0 ≤ x5_1) = true := decide_eq_true c2
    clear c2
    by_cases c3 : 0 ≤ x5_1
    ·rw [if_pos c3] at H
     have c3b0 := eq_true c3
     have c3b1 : decide (0 ≤ x5_1) = true := decide_eq_true c3
     clear c3
     obtain ⟨ji4, hji4⟩ : ∃ j_ : Int, (shl .u64 1 x5_1) = j_ := ⟨_, rfl⟩
     replace H : (if (IntKind.u64.wrap ((Go.bits .or .u64 x4_1 (ji4)) * (Go.bits .or .u64 x4_1 (ji4)))) ≤ a0 then (annealref1_Root.l0 k1 a0 (Go.bits .or .u64 x4_1 (ji4)) (wrap64 (x5_1 - 1))) else (annealref1_Root.l0 k1 a0 x4_1 (wrap64 (x5_1 - 1)))) = some (r1, r2) := by first | (rw [hji4] at H; exact H) | (simp only [hji4] at H ⊢; exact H)
     have hji4_ : (IntKind.u64.wrap (1 * 2 ^ min x5_1.toNat 64)) = ji4 := hji4
     have hji4z : x5_1 ≤ 64 → (IntKind.u64.wrap (1 * 2 ^ x5_1.toNat)) = ji4 := shl_small hji4
     have hji4u : (IntKind.u64.wrap (2 ^ min x5_1.toNat 64)) = ji4 := by have h_ := hji4_; rw [Int.one_mul] at h_; exact h_
     have hji4v : x5_1 ≤ 64 → (IntKind.u64.wrap (2 ^ x5_1.toNat)) = ji4 := fun hle_ => by have h_ := hji4z hle_; rw [Int.one_mul] at h_; exact h_
     by_cases c5 : (IntKind.u64.wrap ((Go.bits .or .u64 x4_1 (ji4)) * (Go.bits .or .u64 x4_1 (ji4)))) ≤ a0
     ·rw [if_pos c5] at H
      have c5b0 : decide ((IntKind.u64.wrap ((Go.bits .or .u64 x4_1 (ji4)) * (Go.bits .or .u64 x4_1 (ji4)))) ≤ a0) = true := decide_eq_true c5
      clear c5
      have H' := Aside0.mk H
      clear H
      go_wp2
      go_roundg k1
      case measure => have := HK1.out; omega
      case rel => exact ⟨(Go.bits .or .u64 x4_1 (ji4)), (wrap64 (x5_1 - 1)), (by first | rfl | (simp; done) | (simp only [← hji4] <;> (first | rfl | (simp; done))) | (simp [*]; done) | (congr 1; (try unfold wrap64); omega) | (congr 1; rw [IntKind.wrap_u64]; omega)), (by first | rfl | (simp; done) | (simp [*]; done) | (congr 1; (try unfold wrap64); omega) | (congr 1; rw [IntKind.wrap_u64]; omega)), H', ⟨by have := HK1.out; omega⟩, by repeat (first | exact Drawn0.refl _ | apply Drawn0.step)⟩
     ·rw [if_neg c5] at H
      have c5b0 : decide ((IntKind.u64.wrap ((Go.bits .or .u64 x4_1 (ji4)) * (Go.bits .or .u64 x4_1 (ji4)))) ≤ a0) = false := decide_eq_false c5
      clear c5
      have H' := Aside0.mk H
      clear H
      go_wp2
      (try subst hji4)
      go_roundg k1
      case measure => have := HK1.out; omega
      case rel => exact ⟨(x4_1), (wrap64 (x5_1 - 1)), (by first | rfl | (simp; done) | (simp [*]; done) | (congr 1; (try unfold wrap64); omega) | (congr 1; rw [IntKind.wrap_u64]; omega)), (by first | rfl | (simp; done) | (simp [*]; done) | (congr 1; (try unfold wrap64); omega) | (congr 1; rw [IntKind.wrap_u64]; omega)), H', ⟨by have := HK1.out; omega⟩, by repeat (first | exact Drawn0.refl _ | apply Drawn0.step)⟩
    ·rw [if_neg c3] at H
     exact absurd H (by simp)
   ·rw [if_neg c2] at H
    have c2b0 : decide (0 ≤ x5_1) = false := decide_eq_false c2
    clear c2
    simp only [Option.some.injEq, Prod.mk.injEq] at H
    obtain ⟨rfl, rfl⟩ := H
    go_wp2
    go_ret2
    exact ⟨by first | rfl | (simp; done) | (simp [*]; done) | (congr 1; (try unfold wrap64); omega) | (congr 1; rw [IntKind.wrap_u64]; omega), by repeat (first | exact Drawn0.refl _ | apply Drawn0.step)⟩

/-! ### annealref1_Sqrt: function 39 -/
def annealref1_Sqrt.l0 : Nat → Int → Int → Int → Int → Option (Int × Bool × Bool × Bool × Bool × Bool)
 |0, _, _, _, _ => none
 |k + 1, x0, x1, x11, x12 => if x12 < 2305843009213693952 then (annealref1_Sqrt.l0 k x0 x1 (wrap64 (x11 - 1)) (IntKind.u64.wrap (x12 * 2))) else (if (Int.tmod x11 2) = 0 then ((annealref1_Root.f k x12).bind fun bt724 => ((annealref1_Pack.f k x0 x1 false (wrap64 (Int.tdiv x11 2)) (IntKind.u64.wrap (bt724.1)) (!bt724.2)).bind fun bt726 => (some (bt726.1, bt726.2.1, bt726.2.2.1, bt726.2.2.2.1, bt726.2.2.2.2.1, bt726.2.2.2.2.2)))) else (annealref1_Sqrt.l0 k x0 x1 (wrap64 (x11 - 1)) (IntKind.u64.wrap (x12 * 2))))
def annealref1_Sqrt.f (k : Nat) (a0 : Int) (a1 : Int) (a2 : Int) : Option (Int × Bool × Bool × Bool × Bool × Bool) := (annealref1_nans.f k a0 (([a2] : List Int))).bind fun bt712 => (if bt712.1 = true then ((annealref1_Nan.f a0).bind fun t714 => (some (t714, bt712.2, false, false, false, false))) else ((annealref1_zero.f k a0 a2).bind fun t715 => (if t715 = true then ((annealref1_Mask.f a0).bind fun t716 => (some (Go.bits .and .u32 a2 t716, false, false, false, false, false))) else ((annealref1_neg.f a0 a2).bind fun t717 => (if t717 = true then ((annealref1_Nan.f a0).bind fun t718 => (some (t718, true, false, false, false, false))) else ((annealref1_inf.f k a0 a2).bind fun t719 => (if t719 = true then ((annealref1_Mask.f a0).bind fun t720 => (some (Go.bits .and .u32 a2 t720, false, false, false, false, false))) else ((annealref1_Unpack.f k a0 a2).bind fun bt721 => (annealref1_Sqrt.l0 k a0 a1 bt721.2.1 bt721.2.2)))))))))
set_option maxHeartbeats 8000000 in
set_option maxRecDepth 100000 in
theorem annealref1_Sqrt.calls (k : Nat) (a0 : Int) (a1 : Int) (a2 : Int) (r1 : Int) (r2 : Bool) (r3 : Bool) (r4 : Bool) (r5 : Bool) (r6 : Bool) (w : World) (h : annealref1_Sqrt.f k a0 a1 a2 = some (r1, r2, r3, r4, r5, r6)) :
  Calls Try.prog 39 #[.int .i64 a0, .int .i64 a1, .int .u32 a2] w fun e w' => e = .returned (.tuple #[.int .u32 r1, .agg #[.bool r2, .bool r3, .bool r4, .bool r5, .bool r6]]) ∧ Below w.heap.size w w' := by
 have hu41 := Try.underlying41
 have HB := Aside0.mk (Below.refl w.heap.size w)
 have H : ((annealref1_nans.f k a0 (([a2] : List Int))).bind fun bt712 => (if bt712.1 = true then ((annealref1_Nan.f a0).bind fun t714 => (some (t714, bt712.2, false, false, false, false))) else ((annealref1_zero.f k a0 a2).bind fun t715 => (if t715 = true then ((annealref1_Mask.f a0).bind fun t716 => (some (Go.bits .and .u32 a2 t716, false, false, false, false, false))) else ((annealref1_neg.f a0 a2).bind fun t717 => (if t717 = true then ((annealref1_Nan.f a0).bind fun t718 => (some (t718, true, false, false, false, false))) else ((annealref1_inf.f k a0 a2).bind fun t719 => (if t719 = true then ((annealref1_Mask.f a0).bind fun t720 => (some (Go.bits .and .u32 a2 t720, false, false, false, false, false))) else ((annealref1_Unpack.f k a0 a2).bind fun bt721 => (annealref1_Sqrt.l0 k a0 a1 bt721.2.1 bt721.2.2)))))))))) = some (r1, r2, r3, r4, r5, r6) := h
 clear h
 obtain ⟨y709, hy709⟩ : ∃ y_ : List Int, y_ = (([a2] : List Int)) := ⟨_, rfl⟩
 replace H : ((annealref1_nans.f k a0 y709).bind fun bt712 => (if bt712.1 = true then ((annealref1_Nan.f a0).bind fun t714 => (some (t714, bt712.2, false, false, false, false))) else ((annealref1_zero.f k a0 a2).bind fun t715 => (if t715 = true then ((annealref1_Mask.f a0).bind fun t716 => (some (Go.bits .and .u32 a2 t716, false, false, false, false, false))) else ((annealref1_neg.f a0 a2).bind fun t717 => (if t717 = true then ((annealref1_Nan.f a0).bind fun t718 => (some (t718, true, false, false, false, false))) else ((annealref1_inf.f k a0 a2).bind fun t719 => (if t719 = true then ((annealref1_Mask.f a0).bind fun t720 => (some (Go.bits .and .u32 a2 t720, false, false, false, false, false))) else ((annealref1_Unpack.f k a0 a2).bind fun bt721 => (annealref1_Sqrt.l0 k a0 a1 bt721.2.1 bt721.2.2)))))))))) = some (r1, r2, r3, r4, r5, r6) := by first | (rw [hy709]; with_reducible exact H) | (have H2_ := (Option.bind_some _ _).symm.trans H; rw [hy709]; with_reducible exact H2_) | (have H2_ := (Option.bind_some _ _).symm.trans H; with_reducible exact H2_) | with_reducible exact H | (rw [hy709]; exact H) | exact H
 have Ny709 := Aside0.mk hy709
 clear hy709
 replace H := Option.bind_eq_some_iff.mp H
 obtain ⟨⟨t712, t713⟩, A40, H⟩ := H
 replace H : (if t712 = true then ((annealref1_Nan.f a0).bind fun t714 => (some (t714, t713, false, false, false, false))) else ((annealref1_zero.f k a0 a2).bind fun t715 => (if t715 = true then ((annealref1_Mask.f a0).bind fun t716 => (some (Go.bits .and .u32 a2 t716, false, false, false, false, false))) else ((annealref1_neg.f a0 a2).bind fun t717 => (if t717 = true then ((annealref1_Nan.f a0).bind fun t718 => (some (t718, true, false, false, false, false))) else ((annealref1_inf.f k a0 a2).bind fun t719 => (if t719 = true then ((annealref1_Mask.f a0).bind fun t720 => (some (Go.bits .and .u32 a2 t720, false, false, false, false, false))) else ((annealref1_Unpack.f k a0 a2).bind fun bt721 => (annealref1_Sqrt.l0 k a0 a1 bt721.2.1 bt721.2.2))))))))) = some (r1, r2, r3, r4, r5, r6) := H
 have A4 := Aside0.mk A40
 clear A40
 by_cases c5 : t712 = true
 ·subst c5
  have H1 : ((annealref1_Nan.f a0).bind fun t714 => (some (t714, t713, false, false, false, false))) = some (r1, r2, r3, r4, r5, r6) := by rw [if_pos rfl] at H; exact H
  clear H
  have H := H1
  clear H1
  replace H := Option.bind_eq_some_iff.mp H
  obtain ⟨t714, A60, H⟩ := H
  replace H : (some (t714, t713, false, false, false, false)) = some (r1, r2, r3, r4, r5, r6) := H
  have A6 := Aside0.mk A60
  clear A60
  simp only [Option.some.injEq, Prod.mk.injEq] at H
  obtain ⟨rfl, rfl, rfl, rfl, rfl, rfl⟩ := H
  go_enter Try.func39, Try.ntmps39
  go_wp2_with (first | ((with_reducible refine gate_dst (N := 7) rfl ?_); refine box_event ?hg (N := 7) ?hd (cs := F5) (t := 41) ?hr ?_; (case hd => rfl); (case hg => rfl); (case hr => first | (go_simp; done) | (go_simp; rfl)); intro gb708 hg w7 hbox hb; have n0_ := Aside0.mk (below_step (bl0 HB.out) hb); have n1_ := Aside0.mk (hbox); have n2_ := Aside0.mk ((by rw [hg]; exact (below_size (bl0 HB.out)) : w.heap.size ≤ gb708)); have n3_ := n2_; clear HB; have HB := n0_; have BK708 := n1_; have GW708 := n2_; have GE708 := n3_; clear n0_ n1_ n2_ n3_; clear hb hbox hg) | ((with_reducible refine gate_dst (N := 18) rfl ?_); refine Kd.R_lit (Kd.int .u32) _ 22 ?hg (N := 18) ?hd (xs := ([a2] : List Int)) (inner := [.int .u32 a2]) (ok := fun _ => True) (okp := fun _ => True) ?hr ?hp (fun _ hk => hk) trivial (Below.refl _ _) (Nat.le_refl _) (by simp) ?_; (case hd => rfl); (case hg => rfl); (case hr => first | (go_simp; done) | (go_simp; rfl)); (case hp => exact (Reps.one (show Kd.M (Kd.int .u32) _ _ _ a2 [.int .u32 a2] from rfl) (Reps.none _ _))); intro v710 w8 ho9 hb hg_ hnew_; clear hg_ hnew_; (first | rw [← Ny709.out] at ho9 | (simp only [Int.reduceToNat] at ho9; rw [← Ny709.out] at ho9)); have n0_ := Aside0.mk (Kd.R_lower ho9 (below_size (bl1 HB.out GE708.out))); have n1_ := Aside0.mk (blk_below (g := gb708) (o := .cells #[.bool false, .bool false, .bool false, .bool false, .bool false] 41 (0, 0)) (bv BK708.out) hb); have n2_ := Aside0.mk (below_step (bl1 HB.out GE708.out) hb); clear BK708; clear HB; have HO711 := n0_; have BK708 := n1_; have HB := n2_; clear n0_ n1_ n2_; clear hb ho9; obtain ⟨Ao10, co10, eo10⟩ := Kd.R_slice HO711.out; subst eo10) | ((with_reducible refine gate_callee (f := 57) rfl ?_); refine goesL_ (some 19) rfl rfl Try.func57 (by kernel_rfl) rfl #[.int .i64 a0, .slice Ao10 y709.length co10] rfl gl ?_; (with_reducible refine (annealref1_nans.calls k a0 _ _ y709 true t713 _ ?side1 ?side2 A4.out).mono ?_); (case side1 => repeat (first | exact (Kd.R_reads' HO711.out).2.2 | (with_reducible refine Kd.C_alloc ?_ _) | (with_reducible refine Kd.C_drewN ?_ _) | (with_reducible refine Kd.C_drew ?_))); (case side2 => exact (Kd.R_reads' HO711.out).2.1); rintro e w' ⟨rfl, ⟨nd, rfl⟩⟩; refine ⟨_, rfl, ?_⟩; (try (rw [drewN_self w8]; generalize hq_ : World.drewN w8 _ = w8; have n0_ : Aside0 (Kd.R (Kd.int .u32) 22 w8 w.heap.size (fun _ => True) (.slice Ao10 y709.length co10) y709) := ⟨by rw [← hq_]; exact (by (with_reducible repeat (first | apply Kd.R_alloc | apply Kd.R_drewN | apply Kd.R_drew)); exact HO711.out)⟩; have n1_ : Aside0 (w8.heap[gb708]? = some (.cells #[.bool false, .bool false, .bool false, .bool false, .bool false] 41 (0, 0))) := ⟨by rw [← hq_]; exact (bv BK708.out)⟩; have n2_ : Aside0 (Below w.heap.size w w8) := ⟨by rw [← hq_]; exact (bl1 HB.out GE708.out)⟩; clear HO711 BK708 HB hq_; have HO711 := n0_; have BK708 := n1_; have HB := n2_; clear n0_ n1_ n2_))) | ((with_reducible refine gate_callee (f := 43) rfl ?_); refine goesL_ (some 24) rfl rfl Try.func43 (by kernel_rfl) rfl #[.int .i64 a0] rfl gl ?_; (with_reducible refine (annealref1_Nan.calls a0 t714 _ A6.out).mono ?_); rintro e w' ⟨rfl, ⟨nd, rfl⟩⟩; refine ⟨_, rfl, ?_⟩; (try (rw [drewN_self w8]; generalize hq_ : World.drewN w8 _ = w8; have n0_ : Aside0 (Kd.R (Kd.int .u32) 22 w8 w.heap.size (fun _ => True) (.slice Ao10 y709.length co10) y709) := ⟨by rw [← hq_]; exact (by (with_reducible repeat (first | apply Kd.R_alloc | apply Kd.R_drewN | apply Kd.R_drew)); exact HO711.out)⟩; have n1_ : Aside0 (w8.heap[gb708]? = some (.cells #[.bool false, .bool false, .bool false, .bool false, .bool false] 41 (0, 0))) := ⟨by rw [← hq_]; exact (bv BK708.out)⟩; have n2_ : Aside0 (Below w.heap.size w w8) := ⟨by rw [← hq_]; exact (bl1 HB.out GE708.out)⟩; clear HO711 BK708 HB hq_; have HO711 := n0_; have BK708 := n1_; have HB := n2_; clear n0_ n1_ n2_)); obtain ⟨hcz11_0, hcz11_1, hcz11_2, hcz11_3, hcz11_4⟩ := bc5 BK708.out; obtain ⟨hfz11_0, hfz11_1, hfz11_2, hfz11_3, hfz11_4⟩ := bf5 BK708.out))
  refine bodyPost_ret (results_tc rfl _ _ gb708 41 #[.bool t713, .bool false, .bool false, .bool false, .bool false] (0, 0) _ rfl (by (with_reducible repeat first | apply bd | apply be | apply ba); refine blk_put (cs := #[.bool t713, .bool false, .bool false, .bool false, .bool false]) ?_ 4 _ rfl; (with_reducible repeat first | apply bd | apply be | apply ba); refine blk_put (cs := #[.bool t713, .bool false, .bool false, .bool false, .bool false]) ?_ 3 _ rfl; (with_reducible repeat first | apply bd | apply be | apply ba); refine blk_put (cs := #[.bool t713, .bool false, .bool false, .bool false, .bool false]) ?_ 2 _ rfl; (with_reducible repeat first | apply bd | apply be | apply ba); refine blk_put (cs := #[.bool t713, .bool false, .bool false, .bool false, .bool false]) ?_ 1 _ rfl; (with_reducible repeat first | apply bd | apply be | apply ba); refine blk_put (cs := F5) ?_ 0 _ rfl; (with_reducible repeat first | apply bd | apply be | apply ba); exact BK708.out) Try.underlying41 rfl (by kernel_rfl)) rfl ?_
  exact ⟨by first | rfl | (simp [errW_none, errW_some] <;> rfl) | (simp [*, errW_none, errW_some] <;> rfl), bl1 HB.out GE708.out⟩
 ·replace c5 := Bool.eq_false_iff.mpr c5
  subst c5
  have H1 : ((annealref1_zero.f k a0 a2).bind fun t715 => (if t715 = true then ((annealref1_Mask.f a0).bind fun t716 => (some (Go.bits .and .u32 a2 t716, false, false, false, false, false))) else ((annealref1_neg.f a0 a2).bind fun t717 => (if t717 = true then ((annealref1_Nan.f a0).bind fun t718 => (some (t718, true, false, false, false, false))) else ((annealref1_inf.f k a0 a2).bind fun t719 => (if t719 = true then ((annealref1_Mask.f a0).bind fun t720 => (some (Go.bits .and .u32 a2 t720, false, false, false, false, false))) else ((annealref1_Unpack.f k a0 a2).bind fun bt721 => (annealref1_Sqrt.l0 k a0 a1 bt721.2.1 bt721.2.2)))))))) = some (r1, r2, r3, r4, r5, r6) := by rw [if_neg (show ¬ (false = true) by decide)] at H; exact H
  clear H
  have H := H1
  clear H1
  replace H := Option.bind_eq_some_iff.mp H
  obtain ⟨t715, A120, H⟩ := H
  replace H : (if t715 = true then ((annealref1_Mask.f a0).bind fun t716 => (some (Go.bits .and .u32 a2 t716, false, false, false, false, false))) else ((annealref1_neg.f a0 a2).bind fun t717 => (if t717 = true then ((annealref1_Nan.f a0).bind fun t718 => (some (t718, true, false, false, false, false))) else ((annealref1_inf.f k a0 a2).bind fun t719 => (if t719 = true then ((annealref1_Mask.f a0).bind fun t720 => (some (Go.bits .and .u32 a2 t720, false, false, false, false, false))) else ((annealref1_Unpack.f k a0 a2).bind fun bt721 => (annealref1_Sqrt.l0 k a0 a1 bt721.2.1 bt721.2.2))))))) = some (r1, r2, r3, r4, r5, r6) := H
  have A12 := Aside0.mk A120
  clear A120
  by_cases c13 : t715 = true
  ·subst c13
   have H1 : ((annealref1_Mask.f a0).bind fun t716 => (some (Go.bits .and .u32 a2 t716, false, false, false, false, false))) = some (r1, r2, r3, r4, r5, r6) := by rw [if_pos rfl] at H; exact H
   clear H
   have H := H1
   clear H1
   replace H := Option.bind_eq_some_iff.mp H
   obtain ⟨t716, A140, H⟩ := H
   replace H : (some (Go.bits .and .u32 a2 t716, false, false, false, false, false)) = some (r1, r2, r3, r4, r5, r6) := H
   have A14 := Aside0.mk A140
   clear A140
   simp only [Option.some.injEq, Prod.mk.injEq] at H
   obtain ⟨rfl, rfl, rfl, rfl, rfl, rfl⟩ := H
   go_enter Try.func39, Try.ntmps39
   go_wp2_with (first | ((with_reducible refine gate_dst (N := 7) rfl ?_); refine box_event ?hg (N := 7) ?hd (cs := F5) (t := 41) ?hr ?_; (case hd => rfl); (case hg => rfl); (case hr => first | (go_simp; done) | (go_simp; rfl)); intro gb708 hg w15 hbox hb; have n0_ := Aside0.mk (below_step (bl0 HB.out) hb); have n1_ := Aside0.mk (hbox); have n2_ := Aside0.mk ((by rw [hg]; exact (below_size (bl0 HB.out)) : w.heap.size ≤ gb708)); have n3_ := n2_; clear HB; have HB := n0_; have BK708 := n1_; have GW708 := n2_; have GE708 := n3_; clear n0_ n1_ n2_ n3_; clear hb hbox hg) | ((with_reducible refine gate_dst (N := 18) rfl ?_); refine Kd.R_lit (Kd.int .u32) _ 22 ?hg (N := 18) ?hd (xs := ([a2] : List Int)) (inner := [.int .u32 a2]) (ok := fun _ => True) (okp := fun _ => True) ?hr ?hp (fun _ hk => hk) trivial (Below.refl _ _) (Nat.le_refl _) (by simp) ?_; (case hd => rfl); (case hg => rfl); (case hr => first | (go_simp; done) | (go_simp; rfl)); (case hp => exact (Reps.one (show Kd.M (Kd.int .u32) _ _ _ a2 [.int .u32 a2] from rfl) (Reps.none _ _))); intro v710 w16 ho17 hb hg_ hnew_; clear hg_ hnew_; (first | rw [← Ny709.out] at ho17 | (simp only [Int.reduceToNat] at ho17; rw [← Ny709.out] at ho17)); have n0_ := Aside0.mk (Kd.R_lower ho17 (below_size (bl1 HB.out GE708.out))); have n1_ := Aside0.mk (blk_below (g := gb708) (o := .cells #[.bool false, .bool false, .bool false, .bool false, .bool false] 41 (0, 0)) (bv BK708.out) hb); have n2_ := Aside0.mk (below_step (bl1 HB.out GE708.out) hb); clear BK708; clear HB; have HO711 := n0_; have BK708 := n1_; have HB := n2_; clear n0_ n1_ n2_; clear hb ho17; obtain ⟨Ao18, co18, eo18⟩ := Kd.R_slice HO711.out; subst eo18) | ((with_reducible refine gate_callee (f := 57) rfl ?_); refine goesL_ (some 19) rfl rfl Try.func57 (by kernel_rfl) rfl #[.int .i64 a0, .slice Ao18 y709.length co18] rfl gl ?_; (with_reducible refine (annealref1_nans.calls k a0 _ _ y709 false t713 _ ?side1 ?side2 A4.out).mono ?_); (case side1 => repeat (first | exact (Kd.R_reads' HO711.out).2.2 | (with_reducible refine Kd.C_alloc ?_ _) | (with_reducible refine Kd.C_drewN ?_ _) | (with_reducible refine Kd.C_drew ?_))); (case side2 => exact (Kd.R_reads' HO711.out).2.1); rintro e w' ⟨rfl, ⟨nd, rfl⟩⟩; refine ⟨_, rfl, ?_⟩; (try (rw [drewN_self w16]; generalize hq_ : World.drewN w16 _ = w16; have n0_ : Aside0 (Kd.R (Kd.int .u32) 22 w16 w.heap.size (fun _ => True) (.slice Ao18 y709.length co18) y709) := ⟨by rw [← hq_]; exact (by (with_reducible repeat (first | apply Kd.R_alloc | apply Kd.R_drewN | apply Kd.R_drew)); exact HO711.out)⟩; have n1_ : Aside0 (w16.heap[gb708]? = some (.cells #[.bool false, .bool false, .bool false, .bool false, .bool false] 41 (0, 0))) := ⟨by rw [← hq_]; exact (bv BK708.out)⟩; have n2_ : Aside0 (Below w.heap.size w w16) := ⟨by rw [← hq_]; exact (bl1 HB.out GE708.out)⟩; clear HO711 BK708 HB hq_; have HO711 := n0_; have BK708 := n1_; have HB := n2_; clear n0_ n1_ n2_))) | ((with_reducible refine gate_callee (f := 72) rfl ?_); refine goesL_ (some 29) rfl rfl Try.func72 (by kernel_rfl) rfl #[.int .i64 a0, .int .u32 a2] rfl gl ?_; (with_reducible refine (annealref1_zero.calls k a0 a2 true _ A12.out).mono ?_); rintro e w' ⟨rfl, ⟨nd, rfl⟩⟩; refine ⟨_, rfl, ?_⟩; (try (rw [drewN_self w16]; generalize hq_ : World.drewN w16 _ = w16; have n0_ : Aside0 (Kd.R (Kd.int .u32) 22 w16 w.heap.size (fun _ => True) (.slice Ao18 y709.length co18) y709) := ⟨by rw [← hq_]; exact (by (with_reducible repeat (first | apply Kd.R_alloc | apply Kd.R_drewN | apply Kd.R_drew)); exact HO711.out)⟩; have n1_ : Aside0 (w16.heap[gb708]? = some (.cells #[.bool false, .bool false, .bool false, .bool false, .bool false] 41 (0, 0))) := ⟨by rw [← hq_]; exact (bv BK708.out)⟩; have n2_ : Aside0 (Below w.heap.size w w16) := ⟨by rw [← hq_]; exact (bl1 HB.out GE708.out)⟩; clear HO711 BK708 HB hq_; have HO711 := n0_; have BK708 := n1_; have HB := n2_; clear n0_ n1_ n2_))) | ((with_reducible refine gate_callee (f := 59) rfl ?_); refine goesL_ (some 32) rfl rfl Try.func59 (by kernel_rfl) rfl #[.int .i64 a0] rfl gl ?_; (with_reducible refine (annealref1_Mask.calls a0 t716 _ A14.out).mono ?_); rintro e w' ⟨rfl, ⟨nd, rfl⟩⟩; refine ⟨_, rfl, ?_⟩; (try (rw [drewN_self w16]; generalize hq_ : World.drewN w16 _ = w16; have n0_ : Aside0 (Kd.R (Kd.int .u32) 22 w16 w.heap.size (fun _ => True) (.slice Ao18 y709.length co18) y709) := ⟨by rw [← hq_]; exact (by (with_reducible repeat (first | apply Kd.R_alloc | apply Kd.R_drewN | apply Kd.R_drew)); exact HO711.out)⟩; have n1_ : Aside0 (w16.heap[gb708]? = some (.cells #[.bool false, .bool false, .bool false, .bool false, .bool false] 41 (0, 0))) := ⟨by rw [← hq_]; exact (bv BK708.out)⟩; have n2_ : Aside0 (Below w.heap.size w w16) := ⟨by rw [← hq_]; exact (bl1 HB.out GE708.out)⟩; clear HO711 BK708 HB hq_; have HO711 := n0_; have BK708 := n1_; have HB := n2_; clear n0_ n1_ n2_)); obtain ⟨hcz19_0, hcz19_1, hcz19_2, hcz19_3, hcz19_4⟩ := bc5 BK708.out; obtain ⟨hfz19_0, hfz19_1, hfz19_2, hfz19_3, hfz19_4⟩ := bf5 BK708.out))
   refine bodyPost_ret (results_tc rfl _ _ gb708 41 #[.bool false, .bool false, .bool false, .bool false, .bool false] (0, 0) _ rfl (by (with_reducible repeat first | apply bd | apply be | apply ba); refine blk_put (cs := F5) ?_ 4 _ rfl; (with_reducible repeat first | apply bd | apply be | apply ba); refine blk_put (cs := F5) ?_ 3 _ rfl; (with_reducible repeat first | apply bd | apply be | apply ba); refine blk_put (cs := F5) ?_ 2 _ rfl; (with_reducible repeat first | apply bd | apply be | apply ba); refine blk_put (cs := F5) ?_ 1 _ rfl; (with_reducible repeat first | apply bd | apply be | apply ba); refine blk_put (cs := F5) ?_ 0 _ rfl; (with_reducible repeat first | apply bd | apply be | apply ba); exact BK708.out) Try.underlying41 rfl (by kernel_rfl)) rfl ?_
   exact ⟨by first | rfl | (simp [errW_none, errW_some] <;> rfl) | (simp [*, errW_none, errW_some] <;> rfl), bl1 HB.out GE708.out⟩
  ·replace c13 := Bool.eq_false_iff.mpr c13
   subst c13
   have H1 : ((annealref1_neg.f a0 a2).bind fun t717 => (if t717 = true then ((annealref1_Nan.f a0).bind fun t718 => (some (t718, true, false, false, false, false))) else ((annealref1_inf.f k a0 a2).bind fun t719 => (if t719 = true then ((annealref1_Mask.f a0).bind fun t720 => (some (Go.bits .and .u32 a2 t720, false, false, false, false, false))) else ((annealref1_Unpack.f k a0 a2).bind fun bt721 => (annealref1_Sqrt.l0 k a0 a1 bt721.2.1 bt721.2.2)))))) = some (r1, r2, r3, r4, r5, r6) := by rw [if_neg (show ¬ (false = true) by decide)] at H; exact H
   clear H
   have H := H1
   clear H1
   replace H := Option.bind_eq_some_iff.mp H
   obtain ⟨t717, A200, H⟩ := H
   replace H : (if t717 = true then ((annealref1_Nan.f a0).bind fun t718 => (some (t718, true, false, false, false, false))) else ((annealref1_inf.f k a0 a2).bind fun t719 => (if t719 = true then ((annealref1_Mask.f a0).bind fun t720 => (some (Go.bits .and .u32 a2 t720, false, false, false, false, false))) else ((annealref1_Unpack.f k a0 a2).bind fun bt721 => (annealref1_Sqrt.l0 k a0 a1 bt721.2.1 bt721.2.2))))) = some (r1, r2, r3, r4, r5, r6) := H
   have A20 := Aside0.mk A200
   clear A200
   by_cases c21 : t717 = true
   ·subst c21
    have H1 : ((annealref1_Nan.f a0).bind fun t718 => (some (t718, true, false, false, false, false))) = some (r1, r2, r3, r4, r5, r6) := by rw [if_pos rfl] at H; exact H
    clear H
    have H := H1
    clear H1
    replace H := Option.bind_eq_some_iff.mp H
    obtain ⟨t718, A220, H⟩ := H
    replace H : (some (t718, true, false, false, false, false)) = some (r1, r2, r3, r4, r5, r6) := H
    have A22 := Aside0.mk A220
    clear A220
    simp only [Option.some.injEq, Prod.mk.injEq] at H
    obtain ⟨rfl, rfl, rfl, rfl, rfl, rfl⟩ := H
    go_enter Try.func39, Try.ntmps39
    go_wp2_with (first | ((with_reducible refine gate_dst (N := 7) rfl ?_); refine box_event ?hg (N := 7) ?hd (cs := F5) (t := 41) ?hr ?_; (case hd => rfl); (case hg => rfl); (case hr => first | (go_simp; done) | (go_simp; rfl)); intro gb708 hg w23 hbox hb; have n0_ := Aside0.mk (below_step (bl0 HB.out) hb); have n1_ := Aside0.mk (hbox); have n2_ := Aside0.mk ((by rw [hg]; exact (below_size (bl0 HB.out)) : w.heap.size ≤ gb708)); have n3_ := n2_; clear HB; have HB := n0_; have BK708 := n1_; have GW708 := n2_; have GE708 := n3_; clear n0_ n1_ n2_ n3_; clear hb hbox hg) | ((with_reducible refine gate_dst (N := 18) rfl ?_); refine Kd.R_lit (Kd.int .u32) _ 22 ?hg (N := 18) ?hd (xs := ([a2] : List Int)) (inner := [.int .u32 a2]) (ok := fun _ => True) (okp := fun _ => True) ?hr ?hp (fun _ hk => hk) trivial (Below.refl _ _) (Nat.le_refl _) (by simp) ?_; (case hd => rfl); (case hg => rfl); (case hr => first | (go_simp; done) | (go_simp; rfl)); (case hp => exact (Reps.one (show Kd.M (Kd.int .u32) _ _ _ a2 [.int .u32 a2] from rfl) (Reps.none _ _))); intro v710 w24 ho25 hb hg_ hnew_; clear hg_ hnew_; (first | rw [← Ny709.out] at ho25 | (simp only [Int.reduceToNat] at ho25; rw [← Ny709.out] at ho25)); have n0_ := Aside0.mk (Kd.R_lower ho25 (below_size (bl1 HB.out GE708.out))); have n1_ := Aside0.mk (blk_below (g := gb708) (o := .cells #[.bool false, .bool false, .bool false, .bool false, .bool false] 41 (0, 0)) (bv BK708.out) hb); have n2_ := Aside0.mk (below_step (bl1 HB.out GE708.out) hb); clear BK708; clear HB; have HO711 := n0_; have BK708 := n1_; have HB := n2_; clear n0_ n1_ n2_; clear hb ho25; obtain ⟨Ao26, co26, eo26⟩ := Kd.R_slice HO711.out; subst eo26) | ((with_reducible refine gate_callee (f := 57) rfl ?_); refine goesL_ (some 19) rfl rfl Try.func57 (by kernel_rfl) rfl #[.int .i64 a0, .slice Ao26 y709.length co26] rfl gl ?_; (with_reducible refine (annealref1_nans.calls k a0 _ _ y709 false t713 _ ?side1 ?side2 A4.out).mono ?_); (case side1 => repeat (first | exact (Kd.R_reads' HO711.out).2.2 | (with_reducible refine Kd.C_alloc ?_ _) | (with_reducible refine Kd.C_drewN ?_ _) | (with_reducible refine Kd.C_drew ?_))); (case side2 => exact (Kd.R_reads' HO711.out).2.1); rintro e w' ⟨rfl, ⟨nd, rfl⟩⟩; refine ⟨_, rfl, ?_⟩; (try (rw [drewN_self w24]; generalize hq_ : World.drewN w24 _ = w24; have n0_ : Aside0 (Kd.R (Kd.int .u32) 22 w24 w.heap.size (fun _ => True) (.slice Ao26 y709.length co26) y709) := ⟨by rw [← hq_]; exact (by (with_reducible repeat (first | apply Kd.R_alloc | apply Kd.R_drewN | apply Kd.R_drew)); exact HO711.out)⟩; have n1_ : Aside0 (w24.heap[gb708]? = some (.cells #[.bool false, .bool false, .bool false, .bool false, .bool false] 41 (0, 0))) := ⟨by rw [← hq_]; exact (bv BK708.out)⟩; have n2_ : Aside0 (Below w.heap.size w w24) := ⟨by rw [← hq_]; exact (bl1 HB.out GE708.out)⟩; clear HO711 BK708 HB hq_; have HO711 := n0_; have BK708 := n1_; have HB := n2_; clear n0_ n1_ n2_))) | ((with_reducible refine gate_callee (f := 72) rfl ?_); refine goesL_ (some 29) rfl rfl Try.func72 (by kernel_rfl) rfl #[.int .i64 a0, .int .u32 a2] rfl gl ?_; (with_reducible refine (annealref1_zero.calls k a0 a2 false _ A12.out).mono ?_); rintro e w' ⟨rfl, ⟨nd, rfl⟩⟩; refine ⟨_, rfl, ?_⟩; (try (rw [drewN_self w24]; generalize hq_ : World.drewN w24 _ = w24; have n0_ : Aside0 (Kd.R (Kd.int .u32) 22 w24 w.heap.size (fun _ => True) (.slice Ao26 y709.length co26) y709) := ⟨by rw [← hq_]; exact (by (with_reducible repeat (first | apply Kd.R_alloc | apply Kd.R_drewN | apply Kd.R_drew)); exact HO711.out)⟩; have n1_ : Aside0 (w24.heap[gb708]? = some (.cells #[.bool false, .bool false, .bool false, .bool false, .bool false] 41 (0, 0))) := ⟨by rw [← hq_]; exact (bv BK708.out)⟩; have n2_ : Aside0 (Below w.heap.size w w24) := ⟨by rw [← hq_]; exact (bl1 HB.out GE708.out)⟩; clear HO711 BK708 HB hq_; have HO711 := n0_; have BK708 := n1_; have HB := n2_; clear n0_ n1_ n2_))) | ((with_reducible refine gate_callee (f := 71) rfl ?_); refine goesL_ (some 37) rfl rfl Try.func71 (by kernel_rfl) rfl #[.int .i64 a0, .int .u32 a2] rfl gl ?_; (with_reducible refine (annealref1_neg.calls a0 a2 true _ A20.out).mono ?_); rintro e w' ⟨rfl, ⟨nd, rfl⟩⟩; refine ⟨_, rfl, ?_⟩; (try (rw [drewN_self w24]; generalize hq_ : World.drewN w24 _ = w24; have n0_ : Aside0 (Kd.R (Kd.int .u32) 22 w24 w.heap.size (fun _ => True) (.slice Ao26 y709.length co26) y709) := ⟨by rw [← hq_]; exact (by (with_reducible repeat (first | apply Kd.R_alloc | apply Kd.R_drewN | apply Kd.R_drew)); exact HO711.out)⟩; have n1_ : Aside0 (w24.heap[gb708]? = some (.cells #[.bool false, .bool false, .bool false, .bool false, .bool false] 41 (0, 0))) := ⟨by rw [← hq_]; exact (bv BK708.out)⟩; have n2_ : Aside0 (Below w.heap.size w w24) := ⟨by rw [← hq_]; exact (bl1 HB.out GE708.out)⟩; clear HO711 BK708 HB hq_; have HO711 := n0_; have BK708 := n1_; have HB := n2_; clear n0_ n1_ n2_))) | ((with_reducible refine gate_callee (f := 43) rfl ?_); refine goesL_ (some 39) rfl rfl Try.func43 (by kernel_rfl) rfl #[.int .i64 a0] rfl gl ?_; (with_reducible refine (annealref1_Nan.calls a0 t718 _ A22.out).mono ?_); rintro e w' ⟨rfl, ⟨nd, rfl⟩⟩; refine ⟨_, rfl, ?_⟩; (try (rw [drewN_self w24]; generalize hq_ : World.drewN w24 _ = w24; have n0_ : Aside0 (Kd.R (Kd.int .u32) 22 w24 w.heap.size (fun _ => True) (.slice Ao26 y709.length co26) y709) := ⟨by rw [← hq_]; exact (by (with_reducible repeat (first | apply Kd.R_alloc | apply Kd.R_drewN | apply Kd.R_drew)); exact HO711.out)⟩; have n1_ : Aside0 (w24.heap[gb708]? = some (.cells #[.bool false, .bool false, .bool false, .bool false, .bool false] 41 (0, 0))) := ⟨by rw [← hq_]; exact (bv BK708.out)⟩; have n2_ : Aside0 (Below w.heap.size w w24) := ⟨by rw [← hq_]; exact (bl1 HB.out GE708.out)⟩; clear HO711 BK708 HB hq_; have HO711 := n0_; have BK708 := n1_; have HB := n2_; clear n0_ n1_ n2_)); obtain ⟨hcz27_0, hcz27_1, hcz27_2, hcz27_3, hcz27_4⟩ := bc5 BK708.out; obtain ⟨hfz27_0, hfz27_1, hfz27_2, hfz27_3, hfz27_4⟩ := bf5 BK708.out))
    refine bodyPost_ret (results_tc rfl _ _ gb708 41 #[.bool true, .bool false, .bool false, .bool false, .bool false] (0, 0) _ rfl (by (with_reducible repeat first | apply bd | apply be | apply ba); refine blk_put (cs := #[.bool true, .bool false, .bool false, .bool false, .bool false]) ?_ 4 _ rfl; (with_reducible repeat first | apply bd | apply be | apply ba); refine blk_put (cs := #[.bool true, .bool false, .bool false, .bool false, .bool false]) ?_ 3 _ rfl; (with_reducible repeat first | apply bd | apply be | apply ba); refine blk_put (cs := #[.bool true, .bool false, .bool false, .bool false, .bool false]) ?_ 2 _ rfl; (with_reducible repeat first | apply bd | apply be | apply ba); refine blk_put (cs := #[.bool true, .bool false, .bool false, .bool false, .bool false]) ?_ 1 _ rfl; (with_reducible repeat first | apply bd | apply be | apply ba); refine blk_put (cs := F5) ?_ 0 _ rfl; (with_reducible repeat first | apply bd | apply be | apply ba); exact BK708.out) Try.underlying41 rfl (by kernel_rfl)) rfl ?_
    exact ⟨by first | rfl | (simp [errW_none, errW_some] <;> rfl) | (simp [*, errW_none, errW_some] <;> rfl), bl1 HB.out GE708.out⟩
   ·replace c21 := Bool.eq_false_iff.mpr c21
    subst c21
    have H1 : ((annealref1_inf.f k a0 a2).bind fun t719 => (if t719 = true then ((annealref1_Mask.f a0).bind fun t720 => (some (Go.bits .and .u32 a2 t720, false, false, false, false, false))) else ((annealref1_Unpack.f k a0 a2).bind fun bt721 => (annealref1_Sqrt.l0 k a0 a1 bt721.2.1 bt721.2.2)))) = some (r1, r2, r3, r4, r5, r6) := by rw [if_neg (show ¬ (false = true) by decide)] at H; exact H
    clear H
    have H := H1
    clear H1
    replace H := Option.bind_eq_some_iff.mp H
    obtain ⟨t719, A280, H⟩ := H
    replace H : (if t719 = true then ((annealref1_Mask.f a0).bind fun t720 => (some (Go.bits .and .u32 a2 t720, false, false, false, false, false))) else ((annealref1_Unpack.f k a0 a2).bind fun bt721 => (annealref1_Sqrt.l0 k a0 a1 bt721.2.1 bt721.2.2))) = some (r1, r2, r3, r4, r5, r6) := H
    have A28 := Aside0.mk A280
    clear A280
    by_cases c29 : t719 = true
    ·subst c29
     have H1 : ((annealref1_Mask.f a0).bind fun t720 => (some (Go.bits .and .u32 a2 t720, false, false, false, false, false))) = some (r1, r2, r3, r4, r5, r6) := by rw [if_pos rfl] at H; exact H
     clear H
     have H := H1
     clear H1
     replace H := Option.bind_eq_some_iff.mp H
     obtain ⟨t720, A300, H⟩ := H
     replace H : (some (Go.bits .and .u32 a2 t720, false, false, false, false, false)) = some (r1, r2, r3, r4, r5, r6) := H
     have A30 := Aside0.mk A300
     clear A300
     simp only [Option.some.injEq, Prod.mk.injEq] at H
     obtain ⟨rfl, rfl, rfl, rfl, rfl, rfl⟩ := H
     go_enter Try.func39, Try.ntmps39
     go_wp2_with (first | ((with_reducible refine gate_dst (N := 7) rfl ?_); refine box_event ?hg (N := 7) ?hd (cs := F5) (t := 41) ?hr ?_; (case hd => rfl); (case hg => rfl); (case hr => first | (go_simp; done) | (go_simp; rfl)); intro gb708 hg w31 hbox hb; have n0_ := Aside0.mk (below_step (bl0 HB.out) hb); have n1_ := Aside0.mk (hbox); have n2_ := Aside0.mk ((by rw [hg]; exact (below_size (bl0 HB.out)) : w.heap.size ≤ gb708)); have n3_ := n2_; clear HB; have HB := n0_; have BK708 := n1_; have GW708 := n2_; have GE708 := n3_; clear n0_ n1_ n2_ n3_; clear hb hbox hg) | ((with_reducible refine gate_dst (N := 18) rfl ?_); refine Kd.R_lit (Kd.int .u32) _ 22 ?hg (N := 18) ?hd (xs := ([a2] : List Int)) (inner := [.int .u32 a2]) (ok := fun _ => True) (okp := fun _ => True) ?hr ?hp (fun _ hk => hk) trivial (Below.refl _ _) (Nat.le_refl _) (by simp) ?_; (case hd => rfl); (case hg => rfl); (case hr => first | (go_simp; done) | (go_simp; rfl)); (case hp => exact (Reps.one (show Kd.M (Kd.int .u32) _ _ _ a2 [.int .u32 a2] from rfl) (Reps.none _ _))); intro v710 w32 ho33 hb hg_ hnew_; clear hg_ hnew_; (first | rw [← Ny709.out] at ho33 | (simp only [Int.reduceToNat] at ho33; rw [← Ny709.out] at ho33)); have n0_ := Aside0.mk (Kd.R_lower ho33 (below_size (bl1 HB.out GE708.out))); have n1_ := Aside0.mk (blk_below (g := gb708) (o := .cells #[.bool false, .bool false, .bool false, .bool false, .bool false] 41 (0, 0)) (bv BK708.out) hb); have n2_ := Aside0.mk (below_step (bl1 HB.out GE708.out) hb); clear BK708; clear HB; have HO711 := n0_; have BK708 := n1_; have HB := n2_; clear n0_ n1_ n2_; clear hb ho33; obtain ⟨Ao34, co34, eo34⟩ := Kd.R_slice HO711.out; subst eo34) | ((with_reducible refine gate_callee (f := 57) rfl ?_); refine goesL_ (some 19) rfl rfl Try.func57 (by kernel_rfl) rfl #[.int .i64 a0, .slice Ao34 y709.length co34] rfl gl ?_; (with_reducible refine (annealref1_nans.calls k a0 _ _ y709 false t713 _ ?side1 ?side2 A4.out).mono ?_); (case side1 => repeat (first | exact (Kd.R_reads' HO711.out).2.2 | (with_reducible refine Kd.C_alloc ?_ _) | (with_reducible refine Kd.C_drewN ?_ _) | (with_reducible refine Kd.C_drew ?_))); (case side2 => exact (Kd.R_reads' HO711.out).2.1); rintro e w' ⟨rfl, ⟨nd, rfl⟩⟩; refine ⟨_, rfl, ?_⟩; (try (rw [drewN_self w32]; generalize hq_ : World.drewN w32 _ = w32; have n0_ : Aside0 (Kd.R (Kd.int .u32) 22 w32 w.heap.size (fun _ => True) (.slice Ao34 y709.length co34) y709) := ⟨by rw [← hq_]; exact (by (with_reducible repeat (first | apply Kd.R_alloc | apply Kd.R_drewN | apply Kd.R_drew)); exact HO711.out)⟩; have n1_ : Aside0 (w32.heap[gb708]? = some (.cells #[.bool false, .bool false, .bool false, .bool false, .bool false] 41 (0, 0))) := ⟨by rw [← hq_]; exact (bv BK708.out)⟩; have n2_ : Aside0 (Below w.heap.size w w32) := ⟨by rw [← hq_]; exact (bl1 HB.out GE708.out)⟩; clear HO711 BK708 HB hq_; have HO711 := n0_; have BK708 := n1_; have HB := n2_; clear n0_ n1_ n2_))) | ((with_reducible refine gate_callee (f := 72) rfl ?_); refine goesL_ (some 29) rfl rfl Try.func72 (by kernel_rfl) rfl #[.int .i64 a0, .int .u32 a2] rfl gl ?_; (with_reducible refine (annealref1_zero.calls k a0 a2 false _ A12.out).mono ?_); rintro e w' ⟨rfl, ⟨nd, rfl⟩⟩; refine ⟨_, rfl, ?_⟩; (try (rw [drewN_self w32]; generalize hq_ : World.drewN w32 _ = w32; have n0_ : Aside0 (Kd.R (Kd.int .u32) 22 w32 w.heap.size (fun _ => True) (.slice Ao34 y709.length co34) y709) := ⟨by rw [← hq_]; exact (by (with_reducible repeat (first | apply Kd.R_alloc | apply Kd.R_drewN | apply Kd.R_drew)); exact HO711.out)⟩; have n1_ : Aside0 (w32.heap[gb708]? = some (.cells #[.bool false, .bool false, .bool false, .bool false, .bool false] 41 (0, 0))) := ⟨by rw [← hq_]; exact (bv BK708.out)⟩; have n2_ : Aside0 (Below w.heap.size w w32) := ⟨by rw [← hq_]; exact (bl1 HB.out GE708.out)⟩; clear HO711 BK708 HB hq_; have HO711 := n0_; have BK708 := n1_; have HB := n2_; clear n0_ n1_ n2_))) | ((with_reducible refine gate_callee (f := 71) rfl ?_); refine goesL_ (some 37) rfl rfl Try.func71 (by kernel_rfl) rfl #[.int .i64 a0, .int .u32 a2] rfl gl ?_; (with_reducible refine (annealref1_neg.calls a0 a2 false _ A20.out).mono ?_); rintro e w' ⟨rfl, ⟨nd, rfl⟩⟩; refine ⟨_, rfl, ?_⟩; (try (rw [drewN_self w32]; generalize hq_ : World.drewN w32 _ = w32; have n0_ : Aside0 (Kd.R (Kd.int .u32) 22 w32 w.heap.size (fun _ => True) (.slice Ao34 y709.length co34) y709) := ⟨by rw [← hq_]; exact (by (with_reducible repeat (first | apply Kd.R_alloc | apply Kd.R_drewN | apply Kd.R_drew)); exact HO711.out)⟩; have n1_ : Aside0 (w32.heap[gb708]? = some (.cells #[.bool false, .bool false, .bool false, .bool false, .bool false] 41 (0, 0))) := ⟨by rw [← hq_]; exact (bv BK708.out)⟩; have n2_ : Aside0 (Below w.heap.size w w32) := ⟨by rw [← hq_]; exact (bl1 HB.out GE708.out)⟩; clear HO711 BK708 HB hq_; have HO711 := n0_; have BK708 := n1_; have HB := n2_; clear n0_ n1_ n2_))) | ((with_reducible refine gate_callee (f := 73) rfl ?_); refine goesL_ (some 43) rfl rfl Try.func73 (by kernel_rfl) rfl #[.int .i64 a0, .int .u32 a2] rfl gl ?_; (with_reducible refine (annealref1_inf.calls k a0 a2 true _ A28.out).mono ?_); rintro e w' ⟨rfl, ⟨nd, rfl⟩⟩; refine ⟨_, rfl, ?_⟩; (try (rw [drewN_self w32]; generalize hq_ : World.drewN w32 _ = w32; have n0_ : Aside0 (Kd.R (Kd.int .u32) 22 w32 w.heap.size (fun _ => True) (.slice Ao34 y709.length co34) y709) := ⟨by rw [← hq_]; exact (by (with_reducible repeat (first | apply Kd.R_alloc | apply Kd.R_drewN | apply Kd.R_drew)); exact HO711.out)⟩; have n1_ : Aside0 (w32.heap[gb708]? = some (.cells #[.bool false, .bool false, .bool false, .bool false, .bool false] 41 (0, 0))) := ⟨by rw [← hq_]; exact (bv BK708.out)⟩; have n2_ : Aside0 (Below w.heap.size w w32) := ⟨by rw [← hq_]; exact (bl1 HB.out GE708.out)⟩; clear HO711 BK708 HB hq_; have HO711 := n0_; have BK708 := n1_; have HB := n2_; clear n0_ n1_ n2_))) | ((with_reducible refine gate_callee (f := 59) rfl ?_); refine goesL_ (some 46) rfl rfl Try.func59 (by kernel_rfl) rfl #[.int .i64 a0] rfl gl ?_; (with_reducible refine (annealref1_Mask.calls a0 t720 _ A30.out).mono ?_); rintro e w' ⟨rfl, ⟨nd, rfl⟩⟩; refine ⟨_, rfl, ?_⟩; (try (rw [drewN_self w32]; generalize hq_ : World.drewN w32 _ = w32; have n0_ : Aside0 (Kd.R (Kd.int .u32) 22 w32 w.heap.size (fun _ => True) (.slice Ao34 y709.length co34) y709) := ⟨by rw [← hq_]; exact (by (with_reducible repeat (first | apply Kd.R_alloc | apply Kd.R_drewN | apply Kd.R_drew)); exact HO711.out)⟩; have n1_ : Aside0 (w32.heap[gb708]? = some (.cells #[.bool false, .bool false, .bool false, .bool false, .bool false] 41 (0, 0))) := ⟨by rw [← hq_]; exact (bv BK708.out)⟩; have n2_ : Aside0 (Below w.heap.size w w32) := ⟨by rw [← hq_]; exact (bl1 HB.out GE708.out)⟩; clear HO711 BK708 HB hq_; have HO711 := n0_; have BK708 := n1_; have HB := n2_; clear n0_ n1_ n2_)); obtain ⟨hcz35_0, hcz35_1, hcz35_2, hcz35_3, hcz35_4⟩ := bc5 BK708.out; obtain ⟨hfz35_0, hfz35_1, hfz35_2, hfz35_3, hfz35_4⟩ := bf5 BK708.out))
     refine bodyPost_ret (results_tc rfl _ _ gb708 41 #[.bool false, .bool false, .bool false, .bool false, .bool false] (0, 0) _ rfl (by (with_reducible repeat first | apply bd | apply be | apply ba); refine blk_put (cs := F5) ?_ 4 _ rfl; (with_reducible repeat first | apply bd | apply be | apply ba); refine blk_put (cs := F5) ?_ 3 _ rfl; (with_reducible repeat first | apply bd | apply be | apply ba); refine blk_put (cs := F5) ?_ 2 _ rfl; (with_reducible repeat first | apply bd | apply be | apply ba); refine blk_put (cs := F5) ?_ 1 _ rfl; (with_reducible repeat first | apply bd | apply be | apply ba); refine blk_put (cs := F5) ?_ 0 _ rfl; (with_reducible repeat first | apply bd | apply be | apply ba); exact BK708.out) Try.underlying41 rfl (by kernel_rfl)) rfl ?_
     exact ⟨by first | rfl | (simp [errW_none, errW_some] <;> rfl) | (simp [*, errW_none, errW_some] <;> rfl), bl1 HB.out GE708.out⟩
    ·replace c29 := Bool.eq_false_iff.mpr c29
     subst c29
     have H1 : ((annealref1_Unpack.f k a0 a2).bind fun bt721 => (annealref1_Sqrt.l0 k a0 a1 bt721.2.1 bt721.2.2)) = some (r1, r2, r3, r4, r5, r6) := by rw [if_neg (show ¬ (false = true) by decide)] at H; exact H
     clear H
     have H := H1
     clear H1
     replace H := Option.bind_eq_some_iff.mp H
     obtain ⟨⟨t721, t722, t723⟩, A360, H⟩ := H
     replace H : (annealref1_Sqrt.l0 k a0 a1 t722 t723) = some (r1, r2, r3, r4, r5, r6) := H
     have A36 := Aside0.mk A360
     clear A360
     have H' := Aside0.mk H
     clear H
     go_enter Try.func39, Try.ntmps39
     go_wp2_with (first | ((with_reducible refine gate_dst (N := 7) rfl ?_); refine box_event ?hg (N := 7) ?hd (cs := F5) (t := 41) ?hr ?_; (case hd => rfl); (case hg => rfl); (case hr => first | (go_simp; done) | (go_simp; rfl)); intro gb708 hg w37 hbox hb; have n0_ := Aside0.mk (below_step (bl0 HB.out) hb); have n1_ := Aside0.mk (hbox); have n2_ := Aside0.mk ((by rw [hg]; exact (below_size (bl0 HB.out)) : w.heap.size ≤ gb708)); have n3_ := n2_; clear HB; have HB := n0_; have BK708 := n1_; have GW708 := n2_; have GE708 := n3_; clear n0_ n1_ n2_ n3_; clear hb hbox hg) | ((with_reducible refine gate_dst (N := 18) rfl ?_); refine Kd.R_lit (Kd.int .u32) _ 22 ?hg (N := 18) ?hd (xs := ([a2] : List Int)) (inner := [.int .u32 a2]) (ok := fun _ => True) (okp := fun _ => True) ?hr ?hp (fun _ hk => hk) trivial (Below.refl _ _) (Nat.le_refl _) (by simp) ?_; (case hd => rfl); (case hg => rfl); (case hr => first | (go_simp; done) | (go_simp; rfl)); (case hp => exact (Reps.one (show Kd.M (Kd.int .u32) _ _ _ a2 [.int .u32 a2] from rfl) (Reps.none _ _))); intro v710 w38 ho39 hb hg_ hnew_; clear hg_ hnew_; (first | rw [← Ny709.out] at ho39 | (simp only [Int.reduceToNat] at ho39; rw [← Ny709.out] at ho39)); have n0_ := Aside0.mk (Kd.R_lower ho39 (below_size (bl1 HB.out GE708.out))); have n1_ := Aside0.mk (blk_below (g := gb708) (o := .cells #[.bool false, .bool false, .bool false, .bool false, .bool false] 41 (0, 0)) (bv BK708.out) hb); have n2_ := Aside0.mk (below_step (bl1 HB.out GE708.out) hb); clear BK708; clear HB; have HO711 := n0_; have BK708 := n1_; have HB := n2_; clear n0_ n1_ n2_; clear hb ho39; obtain ⟨Ao40, co40, eo40⟩ := Kd.R_slice HO711.out; subst eo40) | ((with_reducible refine gate_callee (f := 57) rfl ?_); refine goesL_ (some 19) rfl rfl Try.func57 (by kernel_rfl) rfl #[.int .i64 a0, .slice Ao40 y709.length co40] rfl gl ?_; (with_reducible refine (annealref1_nans.calls k a0 _ _ y709 false t713 _ ?side1 ?side2 A4.out).mono ?_); (case side1 => repeat (first | exact (Kd.R_reads' HO711.out).2.2 | (with_reducible refine Kd.C_alloc ?_ _) | (with_reducible refine Kd.C_drewN ?_ _) | (with_reducible refine Kd.C_drew ?_))); (case side2 => exact (Kd.R_reads' HO711.out).2.1); rintro e w' ⟨rfl, ⟨nd, rfl⟩⟩; refine ⟨_, rfl, ?_⟩) | ((with_reducible refine gate_callee (f := 72) rfl ?_); refine goesL_ (some 29) rfl rfl Try.func72 (by kernel_rfl) rfl #[.int .i64 a0, .int .u32 a2] rfl gl ?_; (with_reducible refine (annealref1_zero.calls k a0 a2 false _ A12.out).mono ?_); rintro e w' ⟨rfl, ⟨nd, rfl⟩⟩; refine ⟨_, rfl, ?_⟩) | ((with_reducible refine gate_callee (f := 71) rfl ?_); refine goesL_ (some 37) rfl rfl Try.func71 (by kernel_rfl) rfl #[.int .i64 a0, .int .u32 a2] rfl gl ?_; (with_reducible refine (annealref1_neg.calls a0 a2 false _ A20.out).mono ?_); rintro e w' ⟨rfl, ⟨nd, rfl⟩⟩; refine ⟨_, rfl, ?_⟩) | ((with_reducible refine gate_callee (f := 73) rfl ?_); refine goesL_ (some 43) rfl rfl Try.func73 (by kernel_rfl) rfl #[.int .i64 a0, .int .u32 a2] rfl gl ?_; (with_reducible refine (annealref1_inf.calls k a0 a2 false _ A28.out).mono ?_); rintro e w' ⟨rfl, ⟨nd, rfl⟩⟩; refine ⟨_, rfl, ?_⟩) | ((with_reducible refine gate_callee (f := 60) rfl ?_); refine goesL_ (some 52) rfl rfl Try.func60 (by kernel_rfl) rfl #[.int .i64 a0, .int .u32 a2] rfl gl ?_; (with_reducible refine (annealref1_Unpack.calls k a0 a2 t721 t722 t723 _ A36.out).mono ?_); rintro e w' ⟨rfl, ⟨nd, rfl⟩⟩; refine ⟨_, rfl, ?_⟩))
     go_loopg [11, 12] k (fun kq v11 v12 w' => ∃ (x11_1 : Int) (x12_1 : Int), v11 = .int .i64 x11_1 ∧ v12 = .int .u64 x12_1 ∧ Aside0 (annealref1_Sqrt.l0 kq a0 a1 x11_1 x12_1 = some (r1, r2, r3, r4, r5, r6)) ∧ Aside0 (kq ≤ k) ∧ Aside0 (w'.heap[gb708]? = some (.cells #[.bool false, .bool false, .bool false, .bool false, .bool false] 41 (0, 0))) ∧ Aside0 (Below w.heap.size w w'))
     case atStart => exact ⟨(t722), (t723), (by first | rfl | (simp; done) | (simp [*]; done) | (congr 1; (try unfold wrap64); omega) | (congr 1; rw [IntKind.wrap_u64]; omega)), (by first | rfl | (simp; done) | (simp [*]; done) | (congr 1; (try unfold wrap64); omega) | (congr 1; rw [IntKind.wrap_u64]; omega)), H', ⟨Nat.le_refl _⟩, ⟨by (with_reducible repeat first | apply bd | apply be | apply ba); exact BK708.out⟩, ⟨bl1 HB.out GE708.out⟩⟩
     case round =>
      clear H'
      try clear c1 c2 p2 c3 c4 c5 c6 p6 c7 c13 c21 c29 c39 hcz11_0 hcz11_1 hcz11_2 hcz11_3 hcz11_4 hcz19_0 hcz19_1 hcz19_2 hcz19_3 hcz19_4 hcz27_0 hcz27_1 hcz27_2 hcz27_3 hcz27_4 hcz35_0 hcz35_1 hcz35_2 hcz35_3 hcz35_4 hfz11_0 hfz11_1 hfz11_2 hfz11_3 hfz11_4 hfz19_0 hfz19_1 hfz19_2 hfz19_3 hfz19_4 hfz27_0 hfz27_1 hfz27_2 hfz27_3 hfz27_4 hfz35_0 hfz35_1 hfz35_2 hfz35_3 hfz35_4
      obtain ⟨x11_1, x12_1, rfl, rfl, HA, HK1, BK708, HB⟩ := hrel
      cases gk with
      |zero => exact absurd HA.out (by simp [annealref1_Sqrt.l0])
      |succ k1 =>
       have H := HA.out
       clear HA
       simp only [annealref1_Sqrt.l0] at H
       by_cases c41 : x12_1 < 2305843009213693952
       ·rw [if_pos c41] at H
        have c41b0 : decide (x12_1 < 2305843009213693952) = true := decide_eq_true c41
        clear c41
        have H' := Aside0.mk H
        clear H
        go_wp2
        go_roundg k1
        case measure => have := HK1.out; omega
        case rel => exact ⟨(wrap64 (x11_1 - 1)), (IntKind.u64.wrap (x12_1 * 2)), (by first | rfl | (simp; done) | (simp [*]; done) | (congr 1; (try unfold wrap64); omega) | (congr 1; rw [IntKind.wrap_u64]; omega)), (by first | rfl | (simp; done) | (simp [*]; done) | (congr 1; (try unfold wrap64); omega) | (congr 1; rw [IntKind.wrap_u64]; omega)), H', ⟨by have := HK1.out; omega⟩, ⟨by (with_reducible repeat first | apply bd | apply be | apply ba); exact BK708.out⟩, ⟨bl1 HB.out GE708.out⟩⟩
       ·rw [if_neg c41] at H
        have c41b0 : decide (x12_1 < 2305843009213693952) = false := decide_eq_false c41
        clear c41
        by_cases c42 : (Int.tmod x11_1 2) = 0
        ·rw [if_pos c42] at H
         have c42b0 : ((Int.tmod x11_1 2) == 0) = true := beq_iff_eq.mpr c42
         have c42b1 : ((Int.tmod x11_1 2) != 0) = false := bne_eq_false_iff_eq.mpr c42
         clear c42
         replace H := Option.bind_eq_some_iff.mp H
         obtain ⟨⟨t724, t725⟩, A430, H⟩ := H
         replace H : ((annealref1_Pack.f k1 a0 a1 false (wrap64 (Int.tdiv x11_1 2)) (IntKind.u64.wrap (t724)) (!t725)).bind fun bt726 => (some (bt726.1, bt726.2.1, bt726.2.2.1, bt726.2.2.2.1, bt726.2.2.2.2.1, bt726.2.2.2.2.2))) = some (r1, r2, r3, r4, r5, r6) := H
         have A43 := Aside0.mk A430
         clear A430
         replace H := Option.bind_eq_some_iff.mp H
         obtain ⟨⟨t726, t727, t728, t729, t730, t731⟩, A440, H⟩ := H
         replace H : (some (t726, t727, t728, t729, t730, t731)) = some (r1, r2, r3, r4, r5, r6) := H
         have A44 := Aside0.mk A440
         clear A440
         simp only [Option.some.injEq, Prod.mk.injEq] at H
         obtain ⟨rfl, rfl, rfl, rfl, rfl, rfl⟩ := H
         go_wp2_with (first | ((with_reducible refine gate_callee (f := 77) rfl ?_); refine goesL_ (some 69) rfl rfl Try.func77 (by kernel_rfl) rfl #[.int .u64 x12_1] rfl gl ?_; (with_reducible refine (annealref1_Root.calls k1 x12_1 t724 t725 _ A43.out).mono ?_); rintro e w' ⟨rfl, ⟨nd, rfl⟩⟩; refine ⟨_, rfl, ?_⟩; (try (rw [drewN_self wr]; generalize hq_ : World.drewN wr _ = wr; have n0_ : Aside0 (wr.heap[gb708]? = some (.cells #[.bool false, .bool false, .bool false, .bool false, .bool false] 41 (0, 0))) := ⟨by rw [← hq_]; exact (bv BK708.out)⟩; have n1_ : Aside0 (Below w.heap.size w wr) := ⟨by rw [← hq_]; exact (bl1 HB.out GE708.out)⟩; clear BK708 HB hq_; have BK708 := n0_; have HB := n1_; clear n0_ n1_))) | ((with_reducible refine gate_callee (f := 52) rfl ?_); refine goesL_ (some 80) rfl rfl Try.func52 (by kernel_rfl) rfl #[.int .i64 a0, .int .i64 a1, .bool false, .int .i64 (wrap64 (Int.tdiv x11_1 2)), .int .u64 (IntKind.u64.wrap (t724)), .bool (!t725)] rfl gl ?_; (with_reducible refine (annealref1_Pack.calls k1 a0 a1 false (wrap64 (Int.tdiv x11_1 2)) (IntKind.u64.wrap (t724)) (!t725) t726 t727 t728 t729 t730 t731 _ A44.out).mono ?_); rintro e w45 ⟨rfl, hb⟩; refine ⟨_, rfl, ?_⟩; have n0_ := Aside0.mk (blk_below (g := gb708) (o := .cells #[.bool false, .bool false, .bool false, .bool false, .bool false] 41 (0, 0)) (bv BK708.out) hb); have n1_ := Aside0.mk (below_step (bl1 HB.out GE708.out) hb); clear BK708; clear HB; have BK708 := n0_; have HB := n1_; clear n0_ n1_; obtain ⟨hcz46_0, hcz46_1, hcz46_2, hcz46_3, hcz46_4⟩ := bc5 BK708.out; obtain ⟨hfz46_0, hfz46_1, hfz46_2, hfz46_3, hfz46_4⟩ := bf5 BK708.out))
         refine bodyPost_ret (results_tc rfl _ _ gb708 41 #[.bool t727, .bool t728, .bool t729, .bool t730, .bool t731] (0, 0) _ rfl (by (with_reducible repeat first | apply bd | apply be | apply ba); refine blk_put (cs := #[.bool t727, .bool t728, .bool t729, .bool t730, .bool false]) ?_ 4 _ rfl; (with_reducible repeat first | apply bd | apply be | apply ba); refine blk_put (cs := #[.bool t727, .bool t728, .bool t729, .bool false, .bool false]) ?_ 3 _ rfl; (with_reducible repeat first | apply bd | apply be | apply ba); refine blk_put (cs := #[.bool t727, .bool t728, .bool false, .bool false, .bool false]) ?_ 2 _ rfl; (with_reducible repeat first | apply bd | apply be | apply ba); refine blk_put (cs := #[.bool t727, .bool false, .bool false, .bool false, .bool false]) ?_ 1 _ rfl; (with_reducible repeat first | apply bd | apply be | apply ba); refine blk_put (cs := F5) ?_ 0 _ rfl; (with_reducible repeat first | apply bd | apply be | apply ba); exact BK708.out) Try.underlying41 rfl (by kernel_rfl)) rfl ?_
         exact ⟨by first | rfl | (simp [errW_none, errW_some] <;> rfl) | (simp [*, errW_none, errW_some] <;> rfl), bl1 HB.out GE708.out⟩
        ·rw [if_neg c42] at H
         have c42b0 : ((Int.tmod x11_1 2) == 0) = false := beq_eq_false_iff_ne.mpr c42
         have c42b1 : ((Int.tmod x11_1 2) != 0) = true := bne_iff_ne.mpr c42
         have H' := Aside0.mk H
         clear H
         go_wp2
         go_roundg k1
         case measure => have := HK1.out; omega
         case rel => exact ⟨(wrap64 (x11_1 - 1)), (IntKind.u64.wrap (x12_1 * 2)), (by first | rfl | (simp; done) | (simp [*]; done) | (congr 1; (try unfold wrap64); omega) | (congr 1; rw [IntKind.wrap_u64]; omega)), (by first | rfl | (simp; done) | (simp [*]; done) | (congr 1; (try unfold wrap64); omega) | (congr 1; rw [IntKind.wrap_u64]; omega)), H', ⟨by have := HK1.out; omega⟩, ⟨by (with_reducible repeat first | apply bd | apply be | apply ba); exact BK708.out⟩, ⟨bl1 HB.out GE708.out⟩⟩

end Go.Proofs.Ytngkpekmgahjiaa.P
