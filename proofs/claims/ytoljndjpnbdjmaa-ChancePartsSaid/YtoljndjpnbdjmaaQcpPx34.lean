import Derived.Test.YtoljndjpnbdjmaaQcpPx0
import Derived.Test.YtoljndjpnbdjmaaQcpPx15
import Derived.Test.YtoljndjpnbdjmaaQcpPx23
import Derived.Test.YtoljndjpnbdjmaaQcpPx24
import Derived.Test.YtoljndjpnbdjmaaQcpPx30
import Derived.Test.YtoljndjpnbdjmaaQcpPx31
-- Printed by a program of this session's out of Lean's print of the translation; Lean checks it.
namespace Go.Proofs.Ytoljndjpnbdjmaa.P
open Go.RowKit Go.Proofs.YtoljndjpnbdjmaaW.PrintWords Go.Proofs.YtoljndjpnbdjmaaW.PrintLast Go.Proofs.YtoljndjpnbdjmaaW.PrintMore
attribute [local go_sem] max2_int min2_int max_two min_two max_three min_three max_four min_four   -- for this text's walks alone
set_option linter.unusedVariables false
set_option linter.unusedSimpArgs false

-- NOT PRINTED: function 12 (anneallaw11_ChanceBetween)

/-! ### anneallaw11_ChanceExact: function 13 -/
/-! ### anneallaw11_ChanceParts: function 14 -/
mutual
def anneallaw11_ChanceParts.j0 : Nat → Int → Int → Int → Option (Bool)
  | 0, _, _, _ => none
  | k + 1, x2, x7, x8 => anneallaw11_ChanceParts.l0 k x7 x8 (x7 / 65536) ((x2) % 4294967296)
def anneallaw11_ChanceParts.l0 : Nat → Int → Int → Int → Int → Option (Bool)
  | 0, _, _, _, _ => none
  | k + 1, x7, x8, x9, x10 => if x10 < 65536 then (if x8 > x10 then ((chance_Narrow.f k 1 x7 ((x10 * 65536) % 4294967296)).bind fun t675 => (if t675 = ((x9 + 1) % 4294967296) then (anneallaw11_ChanceParts.l0 k x7 x8 x9 ((x10 + 4099) % 4294967296)) else (some false))) else ((chance_Narrow.f k 1 x7 ((x10 * 65536) % 4294967296)).bind fun t676 => (if t676 = x9 then (anneallaw11_ChanceParts.l0 k x7 x8 x9 ((x10 + 4099) % 4294967296)) else (some false)))) else (some true)
end
def anneallaw11_ChanceParts.f (k : Nat) (a0 : Bool) (a1 : Int) (a2 : Int) : Option (Bool) := (anneallaw11_known.f k).bind fun t674 => (if t674 = true then (if a0 = true then (anneallaw11_ChanceParts.j0 k a2 (Go.bits .or .u32 (Go.bits .or .u32 1065353216 (Go.bits .and .u32 a1 8388607)) 2147483648) (Go.bits .and .u32 (Go.bits .or .u32 1065353216 (Go.bits .and .u32 a1 8388607)) 65535)) else (anneallaw11_ChanceParts.j0 k a2 (Go.bits .or .u32 1065353216 (Go.bits .and .u32 a1 8388607)) (Go.bits .and .u32 (Go.bits .or .u32 1065353216 (Go.bits .and .u32 a1 8388607)) 65535))) else (some false))
set_option maxHeartbeats 8000000 in
set_option maxRecDepth 100000 in
theorem anneallaw11_ChanceParts.calls (k : Nat) (a0 : Bool) (a1 : Int) (a2 : Int) (r : Bool) (w : World) (h : anneallaw11_ChanceParts.f k a0 a1 a2 = some r) :
    Calls Try.prog 14 #[.bool a0, .int .u32 a1, .int .u8 a2] w fun e w' => e = .returned (.bool r) ∧ Below w.heap.size w w' := by
  have HB := Aside0.mk (Below.refl w.heap.size w)
  have H : ((anneallaw11_known.f k).bind fun t674 => (if t674 = true then (if a0 = true then (anneallaw11_ChanceParts.j0 k a2 (Go.bits .or .u32 (Go.bits .or .u32 1065353216 (Go.bits .and .u32 a1 8388607)) 2147483648) (Go.bits .and .u32 (Go.bits .or .u32 1065353216 (Go.bits .and .u32 a1 8388607)) 65535)) else (anneallaw11_ChanceParts.j0 k a2 (Go.bits .or .u32 1065353216 (Go.bits .and .u32 a1 8388607)) (Go.bits .and .u32 (Go.bits .or .u32 1065353216 (Go.bits .and .u32 a1 8388607)) 65535))) else (some false))) = some r := h
  clear h
  replace H := Option.bind_eq_some_iff.mp H
  obtain ⟨t674, A40, H⟩ := H
  replace H : (if t674 = true then (if a0 = true then (anneallaw11_ChanceParts.j0 k a2 (Go.bits .or .u32 (Go.bits .or .u32 1065353216 (Go.bits .and .u32 a1 8388607)) 2147483648) (Go.bits .and .u32 (Go.bits .or .u32 1065353216 (Go.bits .and .u32 a1 8388607)) 65535)) else (anneallaw11_ChanceParts.j0 k a2 (Go.bits .or .u32 1065353216 (Go.bits .and .u32 a1 8388607)) (Go.bits .and .u32 (Go.bits .or .u32 1065353216 (Go.bits .and .u32 a1 8388607)) 65535))) else (some false)) = some r := H
  have A4 := Aside0.mk A40
  clear A40
  by_cases c5 : t674 = true
  · subst c5
    have H1 : (if a0 = true then (anneallaw11_ChanceParts.j0 k a2 (Go.bits .or .u32 (Go.bits .or .u32 1065353216 (Go.bits .and .u32 a1 8388607)) 2147483648) (Go.bits .and .u32 (Go.bits .or .u32 1065353216 (Go.bits .and .u32 a1 8388607)) 65535)) else (anneallaw11_ChanceParts.j0 k a2 (Go.bits .or .u32 1065353216 (Go.bits .and .u32 a1 8388607)) (Go.bits .and .u32 (Go.bits .or .u32 1065353216 (Go.bits .and .u32 a1 8388607)) 65535))) = some r := by rw [if_pos rfl] at H; exact H
    clear H
    have H := H1
    clear H1
    have HC6 := Aside0.mk H
    clear H
    go_enter Try.func14, Try.ntmps14
    go_upto_if 19 with (first | ((with_reducible refine gate_callee (f := 37) rfl ?_); refine goesL_ (some 12) rfl rfl Try.func37 (by kernel_rfl) rfl #[] rfl (by (try simp only [List.map_toArray, List.map_cons, List.map_nil]); first | done | rfl | (simp only [List.length_drop, List.length_take]; rfl)) ?_; (with_reducible refine (anneallaw11_known.calls k  true _ A4.out).mono ?_); rintro e w7 ⟨rfl, hb⟩; refine ⟨_, rfl, ?_⟩; have n0_ := Aside0.mk (below_step (by repeat (first | (with_reducible first | exact HB.out | apply below_alloc | apply pw_below_drewN | apply below_drew1) | exact HB.out)) hb); clear HB; have HB := n0_; clear n0_; (try clear hb); (try clear hb2); (try clear hk); (try clear hi)))
    (try simp only [Act.put, List.setIfInBounds_toArray, List.set_cons_zero, List.set_cons_succ])
    go_cut [7] (fun v7 wc => ∃ (kq : Nat) (x7_5 : Int), v7 = .int .u32 x7_5 ∧ Aside0 (anneallaw11_ChanceParts.j0 kq a2 x7_5 (Go.bits .and .u32 (Go.bits .or .u32 1065353216 (Go.bits .and .u32 a1 8388607)) 65535) = some r) ∧ Aside0 (kq ≤ k) ∧ Aside0 (Below w.heap.size w wc))
    case first =>
      have H := HC6.out
      clear HC6
      by_cases c8 : a0 = true
      · subst c8
        have H1 : (anneallaw11_ChanceParts.j0 k a2 (Go.bits .or .u32 (Go.bits .or .u32 1065353216 (Go.bits .and .u32 a1 8388607)) 2147483648) (Go.bits .and .u32 (Go.bits .or .u32 1065353216 (Go.bits .and .u32 a1 8388607)) 65535)) = some r := by rw [if_pos rfl] at H; exact H
        clear H
        have H := H1
        clear H1
        have H' := Aside0.mk H
        clear H
        go_wp2
        go_meet
        case rel => exact ⟨_, (Go.bits .or .u32 (Go.bits .or .u32 1065353216 (Go.bits .and .u32 a1 8388607)) 2147483648), (by first | rfl | (simp; done) | (simp [*]; done) | (congr 1; (try unfold wrap64); omega) | (congr 1; rw [IntKind.wrap_u64]; omega)), H', ⟨by first | omega | exact Nat.le_refl _⟩, ⟨by repeat (first | (with_reducible first | exact HB.out | apply below_alloc | apply pw_below_drewN | apply below_drew1) | exact HB.out)⟩⟩
      · replace c8 := Bool.eq_false_iff.mpr c8
        subst c8
        have H1 : (anneallaw11_ChanceParts.j0 k a2 (Go.bits .or .u32 1065353216 (Go.bits .and .u32 a1 8388607)) (Go.bits .and .u32 (Go.bits .or .u32 1065353216 (Go.bits .and .u32 a1 8388607)) 65535)) = some r := by rw [if_neg (show ¬ (false = true) by decide)] at H; exact H
        clear H
        have H := H1
        clear H1
        have H' := Aside0.mk H
        clear H
        go_wp2
        go_meet
        case rel => exact ⟨_, (Go.bits .or .u32 1065353216 (Go.bits .and .u32 a1 8388607)), (by first | rfl | (simp; done) | (simp [*]; done) | (congr 1; (try unfold wrap64); omega) | (congr 1; rw [IntKind.wrap_u64]; omega)), H', ⟨by first | omega | exact Nat.le_refl _⟩, ⟨by repeat (first | (with_reducible first | exact HB.out | apply below_alloc | apply pw_below_drewN | apply below_drew1) | exact HB.out)⟩⟩
    case rest =>
      clear HC6
      try clear c1
      try clear p2
      try clear c3
      try clear c5
      try clear p6
      try clear c8
      obtain ⟨kq, x7_5, rfl, HA, HJ5, HB⟩ := hcut
      cases kq with
      | zero => exact absurd HA.out (by simp [anneallaw11_ChanceParts.j0])
      | succ kj5 =>
        have H := HA.out
        clear HA
        simp only [anneallaw11_ChanceParts.j0] at H
        have H' := Aside0.mk H
        clear H
        go_wp2
        go_loopg [10] kj5 (fun kq v10 w' => ∃ (x10_2 : Int), v10 = .int .u32 x10_2 ∧ Aside0 (anneallaw11_ChanceParts.l0 kq x7_5 (Go.bits .and .u32 (Go.bits .or .u32 1065353216 (Go.bits .and .u32 a1 8388607)) 65535) (x7_5 / 65536) x10_2 = some r) ∧ Aside0 (kq ≤ kj5) ∧ Aside0 (Below w.heap.size w w'))
        case atStart => exact ⟨((a2) % 4294967296), (by first | rfl | (simp; done) | (simp [*]; done) | (congr 1; (try unfold wrap64); omega) | (congr 1; rw [IntKind.wrap_u64]; omega)), H', ⟨Nat.le_refl _⟩, ⟨by repeat (first | (with_reducible first | exact HB.out | apply below_alloc | apply pw_below_drewN | apply below_drew1) | exact HB.out)⟩⟩
        case round =>
          clear H'
          try clear c1
          try clear p2
          try clear c3
          try clear c5
          try clear p6
          try clear c8
          try clear p2
          try clear p6
          obtain ⟨x10_2, rfl, HA, HK2, HB⟩ := hrel
          cases gk with
          | zero => exact absurd HA.out (by simp [anneallaw11_ChanceParts.l0])
          | succ k2 =>
            have H := HA.out
            clear HA
            simp only [anneallaw11_ChanceParts.l0] at H
            by_cases c9 : x10_2 < 65536
            · rw [if_pos c9] at H
              have c9b0 : decide (x10_2 < 65536) = true := decide_eq_true c9
              clear c9
              by_cases c10 : (Go.bits .and .u32 (Go.bits .or .u32 1065353216 (Go.bits .and .u32 a1 8388607)) 65535) > x10_2
              · rw [if_pos c10] at H
                have c10b0 : decide (x10_2 < (Go.bits .and .u32 (Go.bits .or .u32 1065353216 (Go.bits .and .u32 a1 8388607)) 65535)) = true := decide_eq_true c10
                clear c10
                obtain ⟨ji11, hji11⟩ : ∃ j_ : Int, (((x7_5 / 65536) + 1) % 4294967296) = j_ := ⟨_, rfl⟩
                replace H : ((chance_Narrow.f k2 1 x7_5 ((x10_2 * 65536) % 4294967296)).bind fun t675 => (if t675 = (ji11) then (anneallaw11_ChanceParts.l0 k2 x7_5 (Go.bits .and .u32 (Go.bits .or .u32 1065353216 (Go.bits .and .u32 a1 8388607)) 65535) (x7_5 / 65536) ((x10_2 + 4099) % 4294967296)) else (some false))) = some r := by first | (rw [hji11] at H; exact H) | (simp only [hji11] at H ⊢; exact H)
                have hji11l : 0 ≤ ji11 := by rw [← hji11]; exact Int.emod_nonneg _ (by decide)
                have hji11h : ji11 ≤ 4294967295 := by have := Int.emod_lt_of_pos (((x7_5 / 65536) + 1)) (show (0 : Int) < 4294967296 by decide); omega
                have hji11w : (IntKind.u32.wrap ((x7_5 / 65536) + 1)) = ji11 := (u32_w _).trans hji11
                (try (have hji11_ := hji11; simp only [Int.add_emod_emod, Int.emod_add_emod, Int.sub_emod_emod, Int.emod_sub_emod] at hji11_))
                replace H := Option.bind_eq_some_iff.mp H
                obtain ⟨t675, A120, H⟩ := H
                replace H : (if t675 = (ji11) then (anneallaw11_ChanceParts.l0 k2 x7_5 (Go.bits .and .u32 (Go.bits .or .u32 1065353216 (Go.bits .and .u32 a1 8388607)) 65535) (x7_5 / 65536) ((x10_2 + 4099) % 4294967296)) else (some false)) = some r := H
                have A12 := Aside0.mk A120
                clear A120
                by_cases c13 : t675 = (ji11)
                · rw [if_pos c13] at H
                  have c13b0 : (t675 == (ji11)) = true := beq_iff_eq.mpr c13
                  have c13b1 : (t675 != (ji11)) = false := bne_eq_false_iff_eq.mpr c13
                  clear c13
                  obtain ⟨ji14, hji14⟩ : ∃ j_ : Int, ((x10_2 + 4099) % 4294967296) = j_ := ⟨_, rfl⟩
                  replace H : (anneallaw11_ChanceParts.l0 k2 x7_5 (Go.bits .and .u32 (Go.bits .or .u32 1065353216 (Go.bits .and .u32 a1 8388607)) 65535) (x7_5 / 65536) ji14) = some r := by first | (rw [hji14] at H; exact H) | (simp only [hji14] at H ⊢; exact H)
                  (try rw [hji14] at A12)
                  have hji14l : 0 ≤ ji14 := by rw [← hji14]; exact Int.emod_nonneg _ (by decide)
                  have hji14h : ji14 ≤ 4294967295 := by have := Int.emod_lt_of_pos ((x10_2 + 4099)) (show (0 : Int) < 4294967296 by decide); omega
                  have hji14w : (IntKind.u32.wrap (x10_2 + 4099)) = ji14 := (u32_w _).trans hji14
                  (try (have hji14_ := hji14; simp only [Int.add_emod_emod, Int.emod_add_emod, Int.sub_emod_emod, Int.emod_sub_emod] at hji14_))
                  have H' := Aside0.mk H
                  clear H
                  go_wp2_with (first | ((with_reducible refine gate_callee (f := 38) rfl ?_); refine goesL_ (some 39) rfl rfl Try.func38 (by kernel_rfl) rfl #[.int .i64 1, .int .u32 x7_5, .int .u32 ((x10_2 * 65536) % 4294967296)] rfl (by (try simp only [List.map_toArray, List.map_cons, List.map_nil]); first | done | rfl | (simp only [List.length_drop, List.length_take]; rfl)) ?_; (with_reducible refine (chance_Narrow.calls k2 1 x7_5 ((x10_2 * 65536) % 4294967296) t675 _ A12.out).mono ?_); rintro e w15 ⟨rfl, hb⟩; refine ⟨_, rfl, ?_⟩; have n0_ := Aside0.mk (below_step (by repeat (first | (with_reducible first | exact HB.out | apply below_alloc | apply pw_below_drewN | apply below_drew1) | exact HB.out)) hb); clear HB; have HB := n0_; clear n0_; (try clear hb); (try clear hb2); (try clear hk); (try clear hi)))
                  (try subst hji11)
                  go_roundg k2
                  case measure => have := HJ5.out; have := HK2.out; omega
                  case rel => exact ⟨(ji14), (by first | rfl | (simp; done) | (simp only [← hji14] <;> (first | rfl | (simp; done))) | (simp [*]; done) | (congr 1; (try unfold wrap64); omega) | (congr 1; rw [IntKind.wrap_u64]; omega)), H', ⟨by have := HJ5.out; have := HK2.out; omega⟩, ⟨by repeat (first | (with_reducible first | exact HB.out | apply below_alloc | apply pw_below_drewN | apply below_drew1) | exact HB.out)⟩⟩
                · rw [if_neg c13] at H
                  have c13b0 : (t675 == (ji11)) = false := beq_eq_false_iff_ne.mpr c13
                  have c13b1 : (t675 != (ji11)) = true := bne_iff_ne.mpr c13
                  obtain rfl := Option.some.inj H
                  go_wp2_with (first | ((with_reducible refine gate_callee (f := 38) rfl ?_); refine goesL_ (some 39) rfl rfl Try.func38 (by kernel_rfl) rfl #[.int .i64 1, .int .u32 x7_5, .int .u32 ((x10_2 * 65536) % 4294967296)] rfl (by (try simp only [List.map_toArray, List.map_cons, List.map_nil]); first | done | rfl | (simp only [List.length_drop, List.length_take]; rfl)) ?_; (with_reducible refine (chance_Narrow.calls k2 1 x7_5 ((x10_2 * 65536) % 4294967296) t675 _ A12.out).mono ?_); rintro e w16 ⟨rfl, hb⟩; refine ⟨_, rfl, ?_⟩; have n0_ := Aside0.mk (below_step (by repeat (first | (with_reducible first | exact HB.out | apply below_alloc | apply pw_below_drewN | apply below_drew1) | exact HB.out)) hb); clear HB; have HB := n0_; clear n0_; (try clear hb); (try clear hb2); (try clear hk); (try clear hi)))
                  go_ret
                  exact ⟨by first | rfl | (simp [errW_none, errW_some] <;> rfl) | (simp only [← hji11]; first | rfl | (simp [errW_none, errW_some] <;> rfl)) | (simp [*, errW_none, errW_some] <;> rfl), by repeat (first | (with_reducible first | exact HB.out | apply below_alloc | apply pw_below_drewN | apply below_drew1) | exact HB.out)⟩
              · rw [if_neg c10] at H
                have c10b0 : decide (x10_2 < (Go.bits .and .u32 (Go.bits .or .u32 1065353216 (Go.bits .and .u32 a1 8388607)) 65535)) = false := decide_eq_false c10
                clear c10
                replace H := Option.bind_eq_some_iff.mp H
                obtain ⟨t676, A170, H⟩ := H
                replace H : (if t676 = (x7_5 / 65536) then (anneallaw11_ChanceParts.l0 k2 x7_5 (Go.bits .and .u32 (Go.bits .or .u32 1065353216 (Go.bits .and .u32 a1 8388607)) 65535) (x7_5 / 65536) ((x10_2 + 4099) % 4294967296)) else (some false)) = some r := H
                have A17 := Aside0.mk A170
                clear A170
                by_cases c18 : t676 = (x7_5 / 65536)
                · rw [if_pos c18] at H
                  have c18b0 : (t676 == (x7_5 / 65536)) = true := beq_iff_eq.mpr c18
                  have c18b1 : (t676 != (x7_5 / 65536)) = false := bne_eq_false_iff_eq.mpr c18
                  clear c18
                  obtain ⟨ji19, hji19⟩ : ∃ j_ : Int, ((x10_2 + 4099) % 4294967296) = j_ := ⟨_, rfl⟩
                  replace H : (anneallaw11_ChanceParts.l0 k2 x7_5 (Go.bits .and .u32 (Go.bits .or .u32 1065353216 (Go.bits .and .u32 a1 8388607)) 65535) (x7_5 / 65536) ji19) = some r := by first | (rw [hji19] at H; exact H) | (simp only [hji19] at H ⊢; exact H)
                  (try rw [hji19] at A17)
                  have hji19l : 0 ≤ ji19 := by rw [← hji19]; exact Int.emod_nonneg _ (by decide)
                  have hji19h : ji19 ≤ 4294967295 := by have := Int.emod_lt_of_pos ((x10_2 + 4099)) (show (0 : Int) < 4294967296 by decide); omega
                  have hji19w : (IntKind.u32.wrap (x10_2 + 4099)) = ji19 := (u32_w _).trans hji19
                  (try (have hji19_ := hji19; simp only [Int.add_emod_emod, Int.emod_add_emod, Int.sub_emod_emod, Int.emod_sub_emod] at hji19_))
                  have H' := Aside0.mk H
                  clear H
                  go_wp2_with (first | ((with_reducible refine gate_callee (f := 38) rfl ?_); refine goesL_ (some 39) rfl rfl Try.func38 (by kernel_rfl) rfl #[.int .i64 1, .int .u32 x7_5, .int .u32 ((x10_2 * 65536) % 4294967296)] rfl (by (try simp only [List.map_toArray, List.map_cons, List.map_nil]); first | done | rfl | (simp only [List.length_drop, List.length_take]; rfl)) ?_; (with_reducible refine (chance_Narrow.calls k2 1 x7_5 ((x10_2 * 65536) % 4294967296) t676 _ A17.out).mono ?_); rintro e w20 ⟨rfl, hb⟩; refine ⟨_, rfl, ?_⟩; have n0_ := Aside0.mk (below_step (by repeat (first | (with_reducible first | exact HB.out | apply below_alloc | apply pw_below_drewN | apply below_drew1) | exact HB.out)) hb); clear HB; have HB := n0_; clear n0_; (try clear hb); (try clear hb2); (try clear hk); (try clear hi)))
                  go_roundg k2
                  case measure => have := HJ5.out; have := HK2.out; omega
                  case rel => exact ⟨(ji19), (by first | rfl | (simp; done) | (simp only [← hji19] <;> (first | rfl | (simp; done))) | (simp [*]; done) | (congr 1; (try unfold wrap64); omega) | (congr 1; rw [IntKind.wrap_u64]; omega)), H', ⟨by have := HJ5.out; have := HK2.out; omega⟩, ⟨by repeat (first | (with_reducible first | exact HB.out | apply below_alloc | apply pw_below_drewN | apply below_drew1) | exact HB.out)⟩⟩
                · rw [if_neg c18] at H
                  have c18b0 : (t676 == (x7_5 / 65536)) = false := beq_eq_false_iff_ne.mpr c18
                  have c18b1 : (t676 != (x7_5 / 65536)) = true := bne_iff_ne.mpr c18
                  obtain rfl := Option.some.inj H
                  go_wp2_with (first | ((with_reducible refine gate_callee (f := 38) rfl ?_); refine goesL_ (some 39) rfl rfl Try.func38 (by kernel_rfl) rfl #[.int .i64 1, .int .u32 x7_5, .int .u32 ((x10_2 * 65536) % 4294967296)] rfl (by (try simp only [List.map_toArray, List.map_cons, List.map_nil]); first | done | rfl | (simp only [List.length_drop, List.length_take]; rfl)) ?_; (with_reducible refine (chance_Narrow.calls k2 1 x7_5 ((x10_2 * 65536) % 4294967296) t676 _ A17.out).mono ?_); rintro e w21 ⟨rfl, hb⟩; refine ⟨_, rfl, ?_⟩; have n0_ := Aside0.mk (below_step (by repeat (first | (with_reducible first | exact HB.out | apply below_alloc | apply pw_below_drewN | apply below_drew1) | exact HB.out)) hb); clear HB; have HB := n0_; clear n0_; (try clear hb); (try clear hb2); (try clear hk); (try clear hi)))
                  go_ret
                  exact ⟨by first | rfl | (simp [errW_none, errW_some] <;> rfl) | (simp [*, errW_none, errW_some] <;> rfl), by repeat (first | (with_reducible first | exact HB.out | apply below_alloc | apply pw_below_drewN | apply below_drew1) | exact HB.out)⟩
            · rw [if_neg c9] at H
              have c9b0 : decide (x10_2 < 65536) = false := decide_eq_false c9
              clear c9
              obtain rfl := Option.some.inj H
              go_wp2
              go_ret
              exact ⟨by first | rfl | (simp [errW_none, errW_some] <;> rfl) | (simp [*, errW_none, errW_some] <;> rfl), by repeat (first | (with_reducible first | exact HB.out | apply below_alloc | apply pw_below_drewN | apply below_drew1) | exact HB.out)⟩
  · replace c5 := Bool.eq_false_iff.mpr c5
    subst c5
    have H1 : (some false) = some r := by rw [if_neg (show ¬ (false = true) by decide)] at H; exact H
    clear H
    have H := H1
    clear H1
    obtain rfl := Option.some.inj H
    go_enter Try.func14, Try.ntmps14
    go_wp2_with (first | ((with_reducible refine gate_callee (f := 37) rfl ?_); refine goesL_ (some 12) rfl rfl Try.func37 (by kernel_rfl) rfl #[] rfl (by (try simp only [List.map_toArray, List.map_cons, List.map_nil]); first | done | rfl | (simp only [List.length_drop, List.length_take]; rfl)) ?_; (with_reducible refine (anneallaw11_known.calls k  false _ A4.out).mono ?_); rintro e w22 ⟨rfl, hb⟩; refine ⟨_, rfl, ?_⟩; have n0_ := Aside0.mk (below_step (by repeat (first | (with_reducible first | exact HB.out | apply below_alloc | apply pw_below_drewN | apply below_drew1) | exact HB.out)) hb); clear HB; have HB := n0_; clear n0_; (try clear hb); (try clear hb2); (try clear hk); (try clear hi)))
    go_ret
    exact ⟨by first | rfl | (simp [errW_none, errW_some] <;> rfl) | (simp [*, errW_none, errW_some] <;> rfl), by repeat (first | (with_reducible first | exact HB.out | apply below_alloc | apply pw_below_drewN | apply below_drew1) | exact HB.out)⟩

/-- THE ONE PURE STATEMENT of anneallaw11_ChanceParts: yours. -/
def anneallaw11_ChanceParts.Pure : Prop := ∀ (a0 : Bool) (a1 : Int) (a2 : Int), (Lit.int .u32 a1).wf = true → (Lit.int .u8 a2).wf = true → ∃ k, anneallaw11_ChanceParts.f k a0 a1 a2 = some true
theorem anneallaw11_ChanceParts.walk (P : anneallaw11_ChanceParts.Pure) (a0 : Bool) (a1 : Int) (a2 : Int) (w : World) (w1 : (Lit.int .u32 a1).wf = true) (w2 : (Lit.int .u8 a2).wf = true) :
    Calls Try.prog 14 #[.bool a0, .int .u32 a1, .int .u8 a2] w fun e w' => e = .returned (.bool true) ∧ Below w.heap.size w w' := by
  obtain ⟨k, h⟩ := P a0 a1 a2 w1 w2
  refine (anneallaw11_ChanceParts.calls k a0 a1 a2 true w h).mono ?_
  rintro e w' ⟨rfl, hd⟩
  exact ⟨rfl, hd⟩

end Go.Proofs.Ytoljndjpnbdjmaa.P
