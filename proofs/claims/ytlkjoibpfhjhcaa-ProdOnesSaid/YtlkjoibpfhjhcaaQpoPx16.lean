import Derived.Test.YtlkjoibpfhjhcaaQpoZ
import Derived.Test.YtlkjoibpfhjhcaaQpoM1
import Derived.Test.YtlkjoibpfhjhcaaQpoM4
-- Printed by a program of this session's out of Lean's print of the translation; Lean checks it.
namespace Go.Proofs.Ytlkjoibpfhjhcaa.P
open Go.RowKit Go.Proofs.YtlkjoibpfhjhcaaW.PrintWords Go.Proofs.YtlkjoibpfhjhcaaW.PrintLast Go.Proofs.YtlkjoibpfhjhcaaW.PrintMore
attribute [local go_sem] max2_int min2_int max_two min_two max_three min_three max_four min_four   -- for this text's walks alone
set_option linter.unusedVariables false
set_option linter.unusedSimpArgs false

/-! ### annealseat_Num: function 11 -/
def annealseat_Num.f (a0 : Int) (a1 : Int) : Option (Int) := (annealref1_Widths.f a0).bind fun bt313 => (if 0 ≤ bt313.1 then (if 0 ≤ bt313.2 then (if (shl .u32 3 bt313.2) = 0 then (none) else (if 0 ≤ (wrap64 (bt313.2 - 1)) then (if (shl .u32 9 bt313.2) = 0 then (none) else ((some (([0, 1, ((shl .u32 1 bt313.2) - 1) % 4294967296, shl .u32 1 bt313.2, shl .u32 ((((shl .u32 1 bt313.1) - 1) % 4294967296) / 2) bt313.2, ((shl .u32 ((((shl .u32 1 bt313.1) - 1) % 4294967296) / 2) bt313.2) + 1) % 4294967296, ((shl .u32 ((((shl .u32 1 bt313.1) - 1) % 4294967296) / 2) bt313.2) - 1) % 4294967296, ((shl .u32 ((((shl .u32 1 bt313.1) - 1) % 4294967296) / 2) bt313.2) + (shl .u32 1 bt313.2)) % 4294967296, ((shl .u32 ((((shl .u32 1 bt313.1) - 1) % 4294967296) / 2) bt313.2) + (Int.tmod (a1 / 16) (shl .u32 3 bt313.2))) % 4294967296, ((shl .u32 (((shl .u32 1 bt313.1) - 1) % 4294967296) bt313.2) - 1) % 4294967296, shl .u32 (((shl .u32 1 bt313.1) - 1) % 4294967296) bt313.2, Go.bits .or .u32 (shl .u32 (((shl .u32 1 bt313.1) - 1) % 4294967296) bt313.2) 1, Go.bits .or .u32 (shl .u32 (((shl .u32 1 bt313.1) - 1) % 4294967296) bt313.2) (shl .u32 1 (wrap64 (bt313.2 - 1))), ((shl .u32 ((((shl .u32 1 bt313.1) - 1) % 4294967296) / 2) bt313.2) - (Int.tmod (a1 / 16) (shl .u32 9 bt313.2))) % 4294967296, a1 / 16] : List Int) : List Int)).bind fun y315 => (if 0 ≤ (Int.tmod a1 15) then (if (Int.tmod a1 15) < (y315.length : Int) then ((annealref1_Mask.f a0).bind fun t319 => (if (a1 / 2147483648) = 1 then ((annealref1_Zero.f a0 true).bind fun t320 => (some (Go.bits .or .u32 (Go.bits .and .u32 (rd y315 (Int.tmod a1 15)) t319) t320))) else (some (Go.bits .and .u32 (rd y315 (Int.tmod a1 15)) t319)))) else (none)) else (none)))) else (none))) else (none)) else (none))
def annealseat_Num.T5 : Bool × List (List Nat × List Nat) := (true, [([], []), ([0], [0]), ([1], [1]), ([], []), ([3], [3]), ([], []), ([], []), ([6], [6]), ([], []), ([8], [8]), ([], []), ([], []), ([11], [11]), ([10, 12], [10, 12]), ([], []), ([], []), ([], []), ([16], [16]), ([15, 17], [15, 17]), ([14, 18], [14, 18]), ([], []), ([], []), ([20, 21], [20, 21]), ([22], [22]), ([], []), ([], []), ([24, 25], [24, 25]), ([], []), ([], []), ([27, 28], [27, 28]), ([29], [29]), ([], []), ([], []), ([31, 32], [31, 32]), ([], []), ([34], [34]), ([35], [35]), ([33, 36], [33, 36]), ([], []), ([], []), ([], []), ([40], [40]), ([39, 41], [39, 41]), ([38, 42], [38, 42]), ([], []), ([2, 4, 5, 7, 9, 13, 19, 23, 26, 30, 37, 43, 44], [2, 4, 5, 7, 9, 13, 19, 23, 26, 30, 37, 43, 44]), ([45, 0, 1, 2, 3, 4, 5, 6, 7, 8, 9, 10, 11, 12, 13, 14, 15, 16, 17, 18, 19, 20, 21, 22, 23, 24, 25, 26, 27, 28, 29, 30, 31, 32, 33, 34, 35, 36, 37, 38, 39, 40, 41, 42, 43, 44, 45], [45])])
def annealseat_Num.B5 : List Nat := [0, 1, 3, 0, 8, 0, 0, 64, 0, 256, 0, 0, 2048, 7168, 0, 0, 0, 65536, 229376, 507904, 0, 0, 3145728, 7340032, 0, 0, 50331648, 0, 0, 402653184, 939524096, 0, 0, 6442450944, 0, 17179869184, 51539607552, 135291469824, 0, 0, 0, 1099511627776, 3848290697216, 8521215115264, 0, 35184372088831, 70368744177663]
theorem annealseat_Num.tab5 : rtab .any (opsOf Try.f11 5) = annealseat_Num.T5 := by kernel_rfl
theorem annealseat_Num.bits5 : waitsOk annealseat_Num.T5.2 annealseat_Num.B5 = true := by kernel_rfl
def annealseat_Num.T6 : Bool × List (List Nat × List Nat) := (true, [([], []), ([], []), ([1], [1]), ([0, 2], [0, 2]), ([3], [3]), ([], []), ([5], [5]), ([4, 6], [4, 6]), ([7, 6, 0, 1, 2, 3, 4, 5, 6, 7], [7])])
def annealseat_Num.B6 : List Nat := [0, 0, 2, 7, 15, 0, 32, 127, 255]
theorem annealseat_Num.tab6 : rtab .any (opsOf Try.f11 6) = annealseat_Num.T6 := by kernel_rfl
theorem annealseat_Num.bits6 : waitsOk annealseat_Num.T6.2 annealseat_Num.B6 = true := by kernel_rfl
set_option maxHeartbeats 8000000 in
set_option maxRecDepth 100000 in
theorem annealseat_Num.calls (a0 : Int) (a1 : Int) (r : Int) (w : World) (h : annealseat_Num.f a0 a1 = some r) :
  Calls Try.prog 11 #[.int .i64 a0, .int .u32 a1] w fun e w' => e = .returned (.int .u32 r) ∧ Below w.heap.size w w' := by
 have HB := Aside0.mk (Below.refl w.heap.size w)
 have H : ((annealref1_Widths.f a0).bind fun bt313 => (if 0 ≤ bt313.1 then (if 0 ≤ bt313.2 then (if (shl .u32 3 bt313.2) = 0 then (none) else (if 0 ≤ (wrap64 (bt313.2 - 1)) then (if (shl .u32 9 bt313.2) = 0 then (none) else ((some (([0, 1, ((shl .u32 1 bt313.2) - 1) % 4294967296, shl .u32 1 bt313.2, shl .u32 ((((shl .u32 1 bt313.1) - 1) % 4294967296) / 2) bt313.2, ((shl .u32 ((((shl .u32 1 bt313.1) - 1) % 4294967296) / 2) bt313.2) + 1) % 4294967296, ((shl .u32 ((((shl .u32 1 bt313.1) - 1) % 4294967296) / 2) bt313.2) - 1) % 4294967296, ((shl .u32 ((((shl .u32 1 bt313.1) - 1) % 4294967296) / 2) bt313.2) + (shl .u32 1 bt313.2)) % 4294967296, ((shl .u32 ((((shl .u32 1 bt313.1) - 1) % 4294967296) / 2) bt313.2) + (Int.tmod (a1 / 16) (shl .u32 3 bt313.2))) % 4294967296, ((shl .u32 (((shl .u32 1 bt313.1) - 1) % 4294967296) bt313.2) - 1) % 4294967296, shl .u32 (((shl .u32 1 bt313.1) - 1) % 4294967296) bt313.2, Go.bits .or .u32 (shl .u32 (((shl .u32 1 bt313.1) - 1) % 4294967296) bt313.2) 1, Go.bits .or .u32 (shl .u32 (((shl .u32 1 bt313.1) - 1) % 4294967296) bt313.2) (shl .u32 1 (wrap64 (bt313.2 - 1))), ((shl .u32 ((((shl .u32 1 bt313.1) - 1) % 4294967296) / 2) bt313.2) - (Int.tmod (a1 / 16) (shl .u32 9 bt313.2))) % 4294967296, a1 / 16] : List Int) : List Int)).bind fun y315 => (if 0 ≤ (Int.tmod a1 15) then (if (Int.tmod a1 15) < (y315.length : Int) then ((annealref1_Mask.f a0).bind fun t319 => (if (a1 / 2147483648) = 1 then ((annealref1_Zero.f a0 true).bind fun t320 => (some (Go.bits .or .u32 (Go.bits .and .u32 (rd y315 (Int.tmod a1 15)) t319) t320))) else (some (Go.bits .and .u32 (rd y315 (Int.tmod a1 15)) t319)))) else (none)) else (none)))) else (none))) else (none)) else (none))) = some r := h
 clear h
 replace H := Option.bind_eq_some_iff.mp H
 obtain ⟨⟨t313, t314⟩, A30, H⟩ := H
 replace H : (if 0 ≤ t313 then (if 0 ≤ t314 then (if (shl .u32 3 t314) = 0 then (none) else (if 0 ≤ (wrap64 (t314 - 1)) then (if (shl .u32 9 t314) = 0 then (none) else ((some (([0, 1, ((shl .u32 1 t314) - 1) % 4294967296, shl .u32 1 t314, shl .u32 ((((shl .u32 1 t313) - 1) % 4294967296) / 2) t314, ((shl .u32 ((((shl .u32 1 t313) - 1) % 4294967296) / 2) t314) + 1) % 4294967296, ((shl .u32 ((((shl .u32 1 t313) - 1) % 4294967296) / 2) t314) - 1) % 4294967296, ((shl .u32 ((((shl .u32 1 t313) - 1) % 4294967296) / 2) t314) + (shl .u32 1 t314)) % 4294967296, ((shl .u32 ((((shl .u32 1 t313) - 1) % 4294967296) / 2) t314) + (Int.tmod (a1 / 16) (shl .u32 3 t314))) % 4294967296, ((shl .u32 (((shl .u32 1 t313) - 1) % 4294967296) t314) - 1) % 4294967296, shl .u32 (((shl .u32 1 t313) - 1) % 4294967296) t314, Go.bits .or .u32 (shl .u32 (((shl .u32 1 t313) - 1) % 4294967296) t314) 1, Go.bits .or .u32 (shl .u32 (((shl .u32 1 t313) - 1) % 4294967296) t314) (shl .u32 1 (wrap64 (t314 - 1))), ((shl .u32 ((((shl .u32 1 t313) - 1) % 4294967296) / 2) t314) - (Int.tmod (a1 / 16) (shl .u32 9 t314))) % 4294967296, a1 / 16] : List Int) : List Int)).bind fun y315 => (if 0 ≤ (Int.tmod a1 15) then (if (Int.tmod a1 15) < (y315.length : Int) then ((annealref1_Mask.f a0).bind fun t319 => (if (a1 / 2147483648) = 1 then ((annealref1_Zero.f a0 true).bind fun t320 => (some (Go.bits .or .u32 (Go.bits .and .u32 (rd y315 (Int.tmod a1 15)) t319) t320))) else (some (Go.bits .and .u32 (rd y315 (Int.tmod a1 15)) t319)))) else (none)) else (none)))) else (none))) else (none)) else (none)) = some r := H
 have A3 := Aside0.mk A30
 clear A30
 by_cases c4 : 0 ≤ t313
 ·rw [if_pos c4] at H
  have c4b0 := eq_true c4
  have c4b1 : decide (0 ≤ t313) = true := decide_eq_true c4
  clear c4
  obtain ⟨ji5, hji5⟩ : ∃ j_ : Int, (shl .u32 1 t313) = j_ := ⟨_, rfl⟩
  replace H : (if 0 ≤ t314 then (if (shl .u32 3 t314) = 0 then (none) else (if 0 ≤ (wrap64 (t314 - 1)) then (if (shl .u32 9 t314) = 0 then (none) else ((some (([0, 1, ((shl .u32 1 t314) - 1) % 4294967296, shl .u32 1 t314, shl .u32 ((((ji5) - 1) % 4294967296) / 2) t314, ((shl .u32 ((((ji5) - 1) % 4294967296) / 2) t314) + 1) % 4294967296, ((shl .u32 ((((ji5) - 1) % 4294967296) / 2) t314) - 1) % 4294967296, ((shl .u32 ((((ji5) - 1) % 4294967296) / 2) t314) + (shl .u32 1 t314)) % 4294967296, ((shl .u32 ((((ji5) - 1) % 4294967296) / 2) t314) + (Int.tmod (a1 / 16) (shl .u32 3 t314))) % 4294967296, ((shl .u32 (((ji5) - 1) % 4294967296) t314) - 1) % 4294967296, shl .u32 (((ji5) - 1) % 4294967296) t314, Go.bits .or .u32 (shl .u32 (((ji5) - 1) % 4294967296) t314) 1, Go.bits .or .u32 (shl .u32 (((ji5) - 1) % 4294967296) t314) (shl .u32 1 (wrap64 (t314 - 1))), ((shl .u32 ((((ji5) - 1) % 4294967296) / 2) t314) - (Int.tmod (a1 / 16) (shl .u32 9 t314))) % 4294967296, a1 / 16] : List Int) : List Int)).bind fun y315 => (if 0 ≤ (Int.tmod a1 15) then (if (Int.tmod a1 15) < (y315.length : Int) then ((annealref1_Mask.f a0).bind fun t319 => (if (a1 / 2147483648) = 1 then ((annealref1_Zero.f a0 true).bind fun t320 => (some (Go.bits .or .u32 (Go.bits .and .u32 (rd y315 (Int.tmod a1 15)) t319) t320))) else (some (Go.bits .and .u32 (rd y315 (Int.tmod a1 15)) t319)))) else (none)) else (none)))) else (none))) else (none)) = some r := by first | (rw [hji5] at H; exact H) | (simp only [hji5] at H ⊢; exact H)
  (try rw [hji5] at A3)
  have hji5_ : (IntKind.u32.wrap (1 * 2 ^ min t313.toNat 32)) = ji5 := hji5
  have hji5z : t313 ≤ 32 → (IntKind.u32.wrap (1 * 2 ^ t313.toNat)) = ji5 := shl_small hji5
  have hji5u : (IntKind.u32.wrap (2 ^ min t313.toNat 32)) = ji5 := by have h_ := hji5_; rw [Int.one_mul] at h_; exact h_
  have hji5v : t313 ≤ 32 → (IntKind.u32.wrap (2 ^ t313.toNat)) = ji5 := fun hle_ => by have h_ := hji5z hle_; rw [Int.one_mul] at h_; exact h_
  obtain ⟨ji6, hji6⟩ : ∃ j_ : Int, (((ji5) - 1) % 4294967296) = j_ := ⟨_, rfl⟩
  replace H : (if 0 ≤ t314 then (if (shl .u32 3 t314) = 0 then (none) else (if 0 ≤ (wrap64 (t314 - 1)) then (if (shl .u32 9 t314) = 0 then (none) else ((some (([0, 1, ((shl .u32 1 t314) - 1) % 4294967296, shl .u32 1 t314, shl .u32 ((ji6) / 2) t314, ((shl .u32 ((ji6) / 2) t314) + 1) % 4294967296, ((shl .u32 ((ji6) / 2) t314) - 1) % 4294967296, ((shl .u32 ((ji6) / 2) t314) + (shl .u32 1 t314)) % 4294967296, ((shl .u32 ((ji6) / 2) t314) + (Int.tmod (a1 / 16) (shl .u32 3 t314))) % 4294967296, ((shl .u32 (ji6) t314) - 1) % 4294967296, shl .u32 (ji6) t314, Go.bits .or .u32 (shl .u32 (ji6) t314) 1, Go.bits .or .u32 (shl .u32 (ji6) t314) (shl .u32 1 (wrap64 (t314 - 1))), ((shl .u32 ((ji6) / 2) t314) - (Int.tmod (a1 / 16) (shl .u32 9 t314))) % 4294967296, a1 / 16] : List Int) : List Int)).bind fun y315 => (if 0 ≤ (Int.tmod a1 15) then (if (Int.tmod a1 15) < (y315.length : Int) then ((annealref1_Mask.f a0).bind fun t319 => (if (a1 / 2147483648) = 1 then ((annealref1_Zero.f a0 true).bind fun t320 => (some (Go.bits .or .u32 (Go.bits .and .u32 (rd y315 (Int.tmod a1 15)) t319) t320))) else (some (Go.bits .and .u32 (rd y315 (Int.tmod a1 15)) t319)))) else (none)) else (none)))) else (none))) else (none)) = some r := by first | (rw [hji6] at H; exact H) | (simp only [hji6] at H ⊢; exact H)
  (try rw [hji6] at A3)
  have hji6l : 0 ≤ ji6 := by rw [← hji6]; exact Int.emod_nonneg _ (by decide)
  have hji6h : ji6 ≤ 4294967295 := by have := Int.emod_lt_of_pos (((ji5) - 1)) (show (0 : Int) < 4294967296 by decide); omega
  have hji6w : (IntKind.u32.wrap ((ji5) - 1)) = ji6 := (u32_w _).trans hji6
  (try (have hji6_ := hji6; simp only [Int.add_emod_emod, Int.emod_add_emod, Int.sub_emod_emod, Int.emod_sub_emod] at hji6_))
  by_cases c7 : 0 ≤ t314
  ·rw [if_pos c7] at H
   have c7b0 := eq_true c7
   have c7b1 : decide (0 ≤ t314) = true := decide_eq_true c7
   clear c7
   obtain ⟨ji8, hji8⟩ : ∃ j_ : Int, (shl .u32 ((ji6) / 2) t314) = j_ := ⟨_, rfl⟩
   replace H : (if (shl .u32 3 t314) = 0 then (none) else (if 0 ≤ (wrap64 (t314 - 1)) then (if (shl .u32 9 t314) = 0 then (none) else ((some (([0, 1, ((shl .u32 1 t314) - 1) % 4294967296, shl .u32 1 t314, ji8, ((ji8) + 1) % 4294967296, ((ji8) - 1) % 4294967296, ((ji8) + (shl .u32 1 t314)) % 4294967296, ((ji8) + (Int.tmod (a1 / 16) (shl .u32 3 t314))) % 4294967296, ((shl .u32 (ji6) t314) - 1) % 4294967296, shl .u32 (ji6) t314, Go.bits .or .u32 (shl .u32 (ji6) t314) 1, Go.bits .or .u32 (shl .u32 (ji6) t314) (shl .u32 1 (wrap64 (t314 - 1))), ((ji8) - (Int.tmod (a1 / 16) (shl .u32 9 t314))) % 4294967296, a1 / 16] : List Int) : List Int)).bind fun y315 => (if 0 ≤ (Int.tmod a1 15) then (if (Int.tmod a1 15) < (y315.length : Int) then ((annealref1_Mask.f a0).bind fun t319 => (if (a1 / 2147483648) = 1 then ((annealref1_Zero.f a0 true).bind fun t320 => (some (Go.bits .or .u32 (Go.bits .and .u32 (rd y315 (Int.tmod a1 15)) t319) t320))) else (some (Go.bits .and .u32 (rd y315 (Int.tmod a1 15)) t319)))) else (none)) else (none)))) else (none))) = some r := by first | (rw [hji8] at H; exact H) | (simp only [hji8] at H ⊢; exact H)
   (try rw [hji8] at A3)
   have hji8_ : (IntKind.u32.wrap (((ji6) / 2) * 2 ^ min t314.toNat 32)) = ji8 := hji8
   have hji8z : t314 ≤ 32 → (IntKind.u32.wrap (((ji6) / 2) * 2 ^ t314.toNat)) = ji8 := shl_small hji8
   have c9b0 := eq_true (of_decide_eq_true (by first | (with_reducible assumption) | assumption) : 0 ≤ t314)
   obtain ⟨ji10, hji10⟩ : ∃ j_ : Int, (shl .u32 1 t314) = j_ := ⟨_, rfl⟩
   replace H : (if (shl .u32 3 t314) = 0 then (none) else (if 0 ≤ (wrap64 (t314 - 1)) then (if (shl .u32 9 t314) = 0 then (none) else ((some (([0, 1, ((ji10) - 1) % 4294967296, ji10, ji8, ((ji8) + 1) % 4294967296, ((ji8) - 1) % 4294967296, ((ji8) + (ji10)) % 4294967296, ((ji8) + (Int.tmod (a1 / 16) (shl .u32 3 t314))) % 4294967296, ((shl .u32 (ji6) t314) - 1) % 4294967296, shl .u32 (ji6) t314, Go.bits .or .u32 (shl .u32 (ji6) t314) 1, Go.bits .or .u32 (shl .u32 (ji6) t314) (shl .u32 1 (wrap64 (t314 - 1))), ((ji8) - (Int.tmod (a1 / 16) (shl .u32 9 t314))) % 4294967296, a1 / 16] : List Int) : List Int)).bind fun y315 => (if 0 ≤ (Int.tmod a1 15) then (if (Int.tmod a1 15) < (y315.length : Int) then ((annealref1_Mask.f a0).bind fun t319 => (if (a1 / 2147483648) = 1 then ((annealref1_Zero.f a0 true).bind fun t320 => (some (Go.bits .or .u32 (Go.bits .and .u32 (rd y315 (Int.tmod a1 15)) t319) t320))) else (some (Go.bits .and .u32 (rd y315 (Int.tmod a1 15)) t319)))) else (none)) else (none)))) else (none))) = some r := by first | (rw [hji10] at H; exact H) | (simp only [hji10] at H ⊢; exact H)
   (try rw [hji10] at A3)
   have hji10_ : (IntKind.u32.wrap (1 * 2 ^ min t314.toNat 32)) = ji10 := hji10
   have hji10z : t314 ≤ 32 → (IntKind.u32.wrap (1 * 2 ^ t314.toNat)) = ji10 := shl_small hji10
   have hji10u : (IntKind.u32.wrap (2 ^ min t314.toNat 32)) = ji10 := by have h_ := hji10_; rw [Int.one_mul] at h_; exact h_
   have hji10v : t314 ≤ 32 → (IntKind.u32.wrap (2 ^ t314.toNat)) = ji10 := fun hle_ => by have h_ := hji10z hle_; rw [Int.one_mul] at h_; exact h_
   obtain ⟨ji11, hji11⟩ : ∃ j_ : Int, (((ji10) - 1) % 4294967296) = j_ := ⟨_, rfl⟩
   replace H : (if (shl .u32 3 t314) = 0 then (none) else (if 0 ≤ (wrap64 (t314 - 1)) then (if (shl .u32 9 t314) = 0 then (none) else ((some (([0, 1, ji11, ji10, ji8, ((ji8) + 1) % 4294967296, ((ji8) - 1) % 4294967296, ((ji8) + (ji10)) % 4294967296, ((ji8) + (Int.tmod (a1 / 16) (shl .u32 3 t314))) % 4294967296, ((shl .u32 (ji6) t314) - 1) % 4294967296, shl .u32 (ji6) t314, Go.bits .or .u32 (shl .u32 (ji6) t314) 1, Go.bits .or .u32 (shl .u32 (ji6) t314) (shl .u32 1 (wrap64 (t314 - 1))), ((ji8) - (Int.tmod (a1 / 16) (shl .u32 9 t314))) % 4294967296, a1 / 16] : List Int) : List Int)).bind fun y315 => (if 0 ≤ (Int.tmod a1 15) then (if (Int.tmod a1 15) < (y315.length : Int) then ((annealref1_Mask.f a0).bind fun t319 => (if (a1 / 2147483648) = 1 then ((annealref1_Zero.f a0 true).bind fun t320 => (some (Go.bits .or .u32 (Go.bits .and .u32 (rd y315 (Int.tmod a1 15)) t319) t320))) else (some (Go.bits .and .u32 (rd y315 (Int.tmod a1 15)) t319)))) else (none)) else (none)))) else (none))) = some r := by first | (rw [hji11] at H; exact H) | (simp only [hji11] at H ⊢; exact H)
   (try rw [hji11] at A3)
   have hji11l : 0 ≤ ji11 := by rw [← hji11]; exact Int.emod_nonneg _ (by decide)
   have hji11h : ji11 ≤ 4294967295 := by have := Int.emod_lt_of_pos (((ji10) - 1)) (show (0 : Int) < 4294967296 by decide); omega
   have hji11w : (IntKind.u32.wrap ((ji10) - 1)) = ji11 := (u32_w _).trans hji11
   (try (have hji11_ := hji11; simp only [Int.add_emod_emod, Int.emod_add_emod, Int.sub_emod_emod, Int.emod_sub_emod] at hji11_))
   have c12b0 := eq_true (of_decide_eq_true (by first | (with_reducible assumption) | assumption) : 0 ≤ t314)
   obtain ⟨ji13, hji13⟩ : ∃ j_ : Int, (((ji8) + 1) % 4294967296) = j_ := ⟨_, rfl⟩
   replace H : (if (shl .u32 3 t314) = 0 then (none) else (if 0 ≤ (wrap64 (t314 - 1)) then (if (shl .u32 9 t314) = 0 then (none) else ((some (([0, 1, ji11, ji10, ji8, ji13, ((ji8) - 1) % 4294967296, ((ji8) + (ji10)) % 4294967296, ((ji8) + (Int.tmod (a1 / 16) (shl .u32 3 t314))) % 4294967296, ((shl .u32 (ji6) t314) - 1) % 4294967296, shl .u32 (ji6) t314, Go.bits .or .u32 (shl .u32 (ji6) t314) 1, Go.bits .or .u32 (shl .u32 (ji6) t314) (shl .u32 1 (wrap64 (t314 - 1))), ((ji8) - (Int.tmod (a1 / 16) (shl .u32 9 t314))) % 4294967296, a1 / 16] : List Int) : List Int)).bind fun y315 => (if 0 ≤ (Int.tmod a1 15) then (if (Int.tmod a1 15) < (y315.length : Int) then ((annealref1_Mask.f a0).bind fun t319 => (if (a1 / 2147483648) = 1 then ((annealref1_Zero.f a0 true).bind fun t320 => (some (Go.bits .or .u32 (Go.bits .and .u32 (rd y315 (Int.tmod a1 15)) t319) t320))) else (some (Go.bits .and .u32 (rd y315 (Int.tmod a1 15)) t319)))) else (none)) else (none)))) else (none))) = some r := by first | (rw [hji13] at H; exact H) | (simp only [hji13] at H ⊢; exact H)
   (try rw [hji13] at A3)
   have hji13l : 0 ≤ ji13 := by rw [← hji13]; exact Int.emod_nonneg _ (by decide)
   have hji13h : ji13 ≤ 4294967295 := by have := Int.emod_lt_of_pos (((ji8) + 1)) (show (0 : Int) < 4294967296 by decide); omega
   have hji13w : (IntKind.u32.wrap ((ji8) + 1)) = ji13 := (u32_w _).trans hji13
   (try (have hji13_ := hji13; simp only [Int.add_emod_emod, Int.emod_add_emod, Int.sub_emod_emod, Int.emod_sub_emod] at hji13_))
   obtain ⟨ji14, hji14⟩ : ∃ j_ : Int, (((ji8) - 1) % 4294967296) = j_ := ⟨_, rfl⟩
   replace H : (if (shl .u32 3 t314) = 0 then (none) else (if 0 ≤ (wrap64 (t314 - 1)) then (if (shl .u32 9 t314) = 0 then (none) else ((some (([0, 1, ji11, ji10, ji8, ji13, ji14, ((ji8) + (ji10)) % 4294967296, ((ji8) + (Int.tmod (a1 / 16) (shl .u32 3 t314))) % 4294967296, ((shl .u32 (ji6) t314) - 1) % 4294967296, shl .u32 (ji6) t314, Go.bits .or .u32 (shl .u32 (ji6) t314) 1, Go.bits .or .u32 (shl .u32 (ji6) t314) (shl .u32 1 (wrap64 (t314 - 1))), ((ji8) - (Int.tmod (a1 / 16) (shl .u32 9 t314))) % 4294967296, a1 / 16] : List Int) : List Int)).bind fun y315 => (if 0 ≤ (Int.tmod a1 15) then (if (Int.tmod a1 15) < (y315.length : Int) then ((annealref1_Mask.f a0).bind fun t319 => (if (a1 / 2147483648) = 1 then ((annealref1_Zero.f a0 true).bind fun t320 => (some (Go.bits .or .u32 (Go.bits .and .u32 (rd y315 (Int.tmod a1 15)) t319) t320))) else (some (Go.bits .and .u32 (rd y315 (Int.tmod a1 15)) t319)))) else (none)) else (none)))) else (none))) = some r := by first | (rw [hji14] at H; exact H) | (simp only [hji14] at H ⊢; exact H)
   (try rw [hji14] at A3)
   have hji14l : 0 ≤ ji14 := by rw [← hji14]; exact Int.emod_nonneg _ (by decide)
   have hji14h : ji14 ≤ 4294967295 := by have := Int.emod_lt_of_pos (((ji8) - 1)) (show (0 : Int) < 4294967296 by decide); omega
   have hji14w : (IntKind.u32.wrap ((ji8) - 1)) = ji14 := (u32_w _).trans hji14
   (try (have hji14_ := hji14; simp only [Int.add_emod_emod, Int.emod_add_emod, Int.sub_emod_emod, Int.emod_sub_emod] at hji14_))
   have c15b0 := eq_true (of_decide_eq_true (by first | (with_reducible assumption) | assumption) : 0 ≤ t314)
   obtain ⟨ji16, hji16⟩ : ∃ j_ : Int, (((ji8) + (ji10)) % 4294967296) = j_ := ⟨_, rfl⟩
   replace H : (if (shl .u32 3 t314) = 0 then (none) else (if 0 ≤ (wrap64 (t314 - 1)) then (if (shl .u32 9 t314) = 0 then (none) else ((some (([0, 1, ji11, ji10, ji8, ji13, ji14, ji16, ((ji8) + (Int.tmod (a1 / 16) (shl .u32 3 t314))) % 4294967296, ((shl .u32 (ji6) t314) - 1) % 4294967296, shl .u32 (ji6) t314, Go.bits .or .u32 (shl .u32 (ji6) t314) 1, Go.bits .or .u32 (shl .u32 (ji6) t314) (shl .u32 1 (wrap64 (t314 - 1))), ((ji8) - (Int.tmod (a1 / 16) (shl .u32 9 t314))) % 4294967296, a1 / 16] : List Int) : List Int)).bind fun y315 => (if 0 ≤ (Int.tmod a1 15) then (if (Int.tmod a1 15) < (y315.length : Int) then ((annealref1_Mask.f a0).bind fun t319 => (if (a1 / 2147483648) = 1 then ((annealref1_Zero.f a0 true).bind fun t320 => (some (Go.bits .or .u32 (Go.bits .and .u32 (rd y315 (Int.tmod a1 15)) t319) t320))) else (some (Go.bits .and .u32 (rd y315 (Int.tmod a1 15)) t319)))) else (none)) else (none)))) else (none))) = some r := by first | (rw [hji16] at H; exact H) | (simp only [hji16] at H ⊢; exact H)
   (try rw [hji16] at A3)
   have hji16l : 0 ≤ ji16 := by rw [← hji16]; exact Int.emod_nonneg _ (by decide)
   have hji16h : ji16 ≤ 4294967295 := by have := Int.emod_lt_of_pos (((ji8) + (ji10))) (show (0 : Int) < 4294967296 by decide); omega
   have hji16w : (IntKind.u32.wrap ((ji8) + (ji10))) = ji16 := (u32_w _).trans hji16
   (try (have hji16_ := hji16; simp only [Int.add_emod_emod, Int.emod_add_emod, Int.sub_emod_emod, Int.emod_sub_emod] at hji16_))
   have c17b0 := eq_true (of_decide_eq_true (by first | (with_reducible assumption) | assumption) : 0 ≤ t314)
   obtain ⟨ji18, hji18⟩ : ∃ j_ : Int, (shl .u32 3 t314) = j_ := ⟨_, rfl⟩
   replace H : (if (ji18) = 0 then (none) else (if 0 ≤ (wrap64 (t314 - 1)) then (if (shl .u32 9 t314) = 0 then (none) else ((some (([0, 1, ji11, ji10, ji8, ji13, ji14, ji16, ((ji8) + (Int.tmod (a1 / 16) (ji18))) % 4294967296, ((shl .u32 (ji6) t314) - 1) % 4294967296, shl .u32 (ji6) t314, Go.bits .or .u32 (shl .u32 (ji6) t314) 1, Go.bits .or .u32 (shl .u32 (ji6) t314) (shl .u32 1 (wrap64 (t314 - 1))), ((ji8) - (Int.tmod (a1 / 16) (shl .u32 9 t314))) % 4294967296, a1 / 16] : List Int) : List Int)).bind fun y315 => (if 0 ≤ (Int.tmod a1 15) then (if (Int.tmod a1 15) < (y315.length : Int) then ((annealref1_Mask.f a0).bind fun t319 => (if (a1 / 2147483648) = 1 then ((annealref1_Zero.f a0 true).bind fun t320 => (some (Go.bits .or .u32 (Go.bits .and .u32 (rd y315 (Int.tmod a1 15)) t319) t320))) else (some (Go.bits .and .u32 (rd y315 (Int.tmod a1 15)) t319)))) else (none)) else (none)))) else (none))) = some r := by first | (rw [hji18] at H; exact H) | (simp only [hji18] at H ⊢; exact H)
   (try rw [hji18] at A3)
   have hji18_ : (IntKind.u32.wrap (3 * 2 ^ min t314.toNat 32)) = ji18 := hji18
   have hji18z : t314 ≤ 32 → (IntKind.u32.wrap (3 * 2 ^ t314.toNat)) = ji18 := shl_small hji18
   by_cases c19 : (ji18) = 0
   ·rw [if_pos c19] at H
    exact absurd H (by simp)
   ·rw [if_neg c19] at H
    have c19b0 : ((ji18) == 0) = false := beq_eq_false_iff_ne.mpr c19
    have c19b1 : ((ji18) != 0) = true := bne_iff_ne.mpr c19
    obtain ⟨ji20, hji20⟩ : ∃ j_ : Int, (((ji8) + (Int.tmod (a1 / 16) (ji18))) % 4294967296) = j_ := ⟨_, rfl⟩
    replace H : (if 0 ≤ (wrap64 (t314 - 1)) then (if (shl .u32 9 t314) = 0 then (none) else ((some (([0, 1, ji11, ji10, ji8, ji13, ji14, ji16, ji20, ((shl .u32 (ji6) t314) - 1) % 4294967296, shl .u32 (ji6) t314, Go.bits .or .u32 (shl .u32 (ji6) t314) 1, Go.bits .or .u32 (shl .u32 (ji6) t314) (shl .u32 1 (wrap64 (t314 - 1))), ((ji8) - (Int.tmod (a1 / 16) (shl .u32 9 t314))) % 4294967296, a1 / 16] : List Int) : List Int)).bind fun y315 => (if 0 ≤ (Int.tmod a1 15) then (if (Int.tmod a1 15) < (y315.length : Int) then ((annealref1_Mask.f a0).bind fun t319 => (if (a1 / 2147483648) = 1 then ((annealref1_Zero.f a0 true).bind fun t320 => (some (Go.bits .or .u32 (Go.bits .and .u32 (rd y315 (Int.tmod a1 15)) t319) t320))) else (some (Go.bits .and .u32 (rd y315 (Int.tmod a1 15)) t319)))) else (none)) else (none)))) else (none)) = some r := by first | (rw [hji20] at H; exact H) | (simp only [hji20] at H ⊢; exact H)
    (try rw [hji20] at A3)
    have hji20l : 0 ≤ ji20 := by rw [← hji20]; exact Int.emod_nonneg _ (by decide)
    have hji20h : ji20 ≤ 4294967295 := by have := Int.emod_lt_of_pos (((ji8) + (Int.tmod (a1 / 16) (ji18)))) (show (0 : Int) < 4294967296 by decide); omega
    have hji20w : (IntKind.u32.wrap ((ji8) + (Int.tmod (a1 / 16) (ji18)))) = ji20 := (u32_w _).trans hji20
    (try (have hji20_ := hji20; simp only [Int.add_emod_emod, Int.emod_add_emod, Int.sub_emod_emod, Int.emod_sub_emod] at hji20_))
    have c21b0 := eq_true (of_decide_eq_true (by first | (with_reducible assumption) | assumption) : 0 ≤ t314)
    obtain ⟨ji22, hji22⟩ : ∃ j_ : Int, (shl .u32 (ji6) t314) = j_ := ⟨_, rfl⟩
    replace H : (if 0 ≤ (wrap64 (t314 - 1)) then (if (shl .u32 9 t314) = 0 then (none) else ((some (([0, 1, ji11, ji10, ji8, ji13, ji14, ji16, ji20, ((ji22) - 1) % 4294967296, ji22, Go.bits .or .u32 (ji22) 1, Go.bits .or .u32 (ji22) (shl .u32 1 (wrap64 (t314 - 1))), ((ji8) - (Int.tmod (a1 / 16) (shl .u32 9 t314))) % 4294967296, a1 / 16] : List Int) : List Int)).bind fun y315 => (if 0 ≤ (Int.tmod a1 15) then (if (Int.tmod a1 15) < (y315.length : Int) then ((annealref1_Mask.f a0).bind fun t319 => (if (a1 / 2147483648) = 1 then ((annealref1_Zero.f a0 true).bind fun t320 => (some (Go.bits .or .u32 (Go.bits .and .u32 (rd y315 (Int.tmod a1 15)) t319) t320))) else (some (Go.bits .and .u32 (rd y315 (Int.tmod a1 15)) t319)))) else (none)) else (none)))) else (none)) = some r := by first | (rw [hji22] at H; exact H) | (simp only [hji22] at H ⊢; exact H)
    (try rw [hji22] at A3)
    have hji22_ : (IntKind.u32.wrap ((ji6) * 2 ^ min t314.toNat 32)) = ji22 := hji22
    have hji22z : t314 ≤ 32 → (IntKind.u32.wrap ((ji6) * 2 ^ t314.toNat)) = ji22 := shl_small hji22
    obtain ⟨ji23, hji23⟩ : ∃ j_ : Int, (((ji22) - 1) % 4294967296) = j_ := ⟨_, rfl⟩
    replace H : (if 0 ≤ (wrap64 (t314 - 1)) then (if (shl .u32 9 t314) = 0 then (none) else ((some (([0, 1, ji11, ji10, ji8, ji13, ji14, ji16, ji20, ji23, ji22, Go.bits .or .u32 (ji22) 1, Go.bits .or .u32 (ji22) (shl .u32 1 (wrap64 (t314 - 1))), ((ji8) - (Int.tmod (a1 / 16) (shl .u32 9 t314))) % 4294967296, a1 / 16] : List Int) : List Int)).bind fun y315 => (if 0 ≤ (Int.tmod a1 15) then (if (Int.tmod a1 15) < (y315.length : Int) then ((annealref1_Mask.f a0).bind fun t319 => (if (a1 / 2147483648) = 1 then ((annealref1_Zero.f a0 true).bind fun t320 => (some (Go.bits .or .u32 (Go.bits .and .u32 (rd y315 (Int.tmod a1 15)) t319) t320))) else (some (Go.bits .and .u32 (rd y315 (Int.tmod a1 15)) t319)))) else (none)) else (none)))) else (none)) = some r := by first | (rw [hji23] at H; exact H) | (simp only [hji23] at H ⊢; exact H)
    (try rw [hji23] at A3)
    have hji23l : 0 ≤ ji23 := by rw [← hji23]; exact Int.emod_nonneg _ (by decide)
    have hji23h : ji23 ≤ 4294967295 := by have := Int.emod_lt_of_pos (((ji22) - 1)) (show (0 : Int) < 4294967296 by decide); omega
    have hji23w : (IntKind.u32.wrap ((ji22) - 1)) = ji23 := (u32_w _).trans hji23
    (try (have hji23_ := hji23; simp only [Int.add_emod_emod, Int.emod_add_emod, Int.sub_emod_emod, Int.emod_sub_emod] at hji23_))
    have c24b0 := eq_true (of_decide_eq_true (by first | (with_reducible assumption) | assumption) : 0 ≤ t314)
    have c25b0 := eq_true (of_decide_eq_true (by first | (with_reducible assumption) | assumption) : 0 ≤ t314)
    have c26b0 := eq_true (of_decide_eq_true (by first | (with_reducible assumption) | assumption) : 0 ≤ t314)
    obtain ⟨ji27, hji27⟩ : ∃ j_ : Int, (wrap64 (t314 - 1)) = j_ := ⟨_, rfl⟩
    replace H : (if 0 ≤ (ji27) then (if (shl .u32 9 t314) = 0 then (none) else ((some (([0, 1, ji11, ji10, ji8, ji13, ji14, ji16, ji20, ji23, ji22, Go.bits .or .u32 (ji22) 1, Go.bits .or .u32 (ji22) (shl .u32 1 (ji27)), ((ji8) - (Int.tmod (a1 / 16) (shl .u32 9 t314))) % 4294967296, a1 / 16] : List Int) : List Int)).bind fun y315 => (if 0 ≤ (Int.tmod a1 15) then (if (Int.tmod a1 15) < (y315.length : Int) then ((annealref1_Mask.f a0).bind fun t319 => (if (a1 / 2147483648) = 1 then ((annealref1_Zero.f a0 true).bind fun t320 => (some (Go.bits .or .u32 (Go.bits .and .u32 (rd y315 (Int.tmod a1 15)) t319) t320))) else (some (Go.bits .and .u32 (rd y315 (Int.tmod a1 15)) t319)))) else (none)) else (none)))) else (none)) = some r := by first | (rw [hji27] at H; exact H) | (simp only [hji27] at H ⊢; exact H)
    (try rw [hji27] at A3)
    have hji27w : (IntKind.i64.wrap (t314 - 1)) = ji27 := (i64_w _).trans hji27
    by_cases c28 : 0 ≤ (ji27)
    ·rw [if_pos c28] at H
     have c28b0 := eq_true c28
     have c28b1 : decide (0 ≤ (ji27)) = true := decide_eq_true c28
     clear c28
     obtain ⟨ji29, hji29⟩ : ∃ j_ : Int, (shl .u32 1 (ji27)) = j_ := ⟨_, rfl⟩
     replace H : (if (shl .u32 9 t314) = 0 then (none) else ((some (([0, 1, ji11, ji10, ji8, ji13, ji14, ji16, ji20, ji23, ji22, Go.bits .or .u32 (ji22) 1, Go.bits .or .u32 (ji22) (ji29), ((ji8) - (Int.tmod (a1 / 16) (shl .u32 9 t314))) % 4294967296, a1 / 16] : List Int) : List Int)).bind fun y315 => (if 0 ≤ (Int.tmod a1 15) then (if (Int.tmod a1 15) < (y315.length : Int) then ((annealref1_Mask.f a0).bind fun t319 => (if (a1 / 2147483648) = 1 then ((annealref1_Zero.f a0 true).bind fun t320 => (some (Go.bits .or .u32 (Go.bits .and .u32 (rd y315 (Int.tmod a1 15)) t319) t320))) else (some (Go.bits .and .u32 (rd y315 (Int.tmod a1 15)) t319)))) else (none)) else (none)))) = some r := by first | (rw [hji29] at H; exact H) | (simp only [hji29] at H ⊢; exact H)
     (try rw [hji29] at A3)
     have hji29_ : (IntKind.u32.wrap (1 * 2 ^ min (ji27).toNat 32)) = ji29 := hji29
     have hji29z : (ji27) ≤ 32 → (IntKind.u32.wrap (1 * 2 ^ (ji27).toNat)) = ji29 := shl_small hji29
     have hji29u : (IntKind.u32.wrap (2 ^ min (ji27).toNat 32)) = ji29 := by have h_ := hji29_; rw [Int.one_mul] at h_; exact h_
     have hji29v : (ji27) ≤ 32 → (IntKind.u32.wrap (2 ^ (ji27).toNat)) = ji29 := fun hle_ => by have h_ := hji29z hle_; rw [Int.one_mul] at h_; exact h_
     have c30b0 := eq_true (of_decide_eq_true (by first | (with_reducible assumption) | assumption) : 0 ≤ t314)
     obtain ⟨ji31, hji31⟩ : ∃ j_ : Int, (shl .u32 9 t314) = j_ := ⟨_, rfl⟩
     replace H : (if (ji31) = 0 then (none) else ((some (([0, 1, ji11, ji10, ji8, ji13, ji14, ji16, ji20, ji23, ji22, Go.bits .or .u32 (ji22) 1, Go.bits .or .u32 (ji22) (ji29), ((ji8) - (Int.tmod (a1 / 16) (ji31))) % 4294967296, a1 / 16] : List Int) : List Int)).bind fun y315 => (if 0 ≤ (Int.tmod a1 15) then (if (Int.tmod a1 15) < (y315.length : Int) then ((annealref1_Mask.f a0).bind fun t319 => (if (a1 / 2147483648) = 1 then ((annealref1_Zero.f a0 true).bind fun t320 => (some (Go.bits .or .u32 (Go.bits .and .u32 (rd y315 (Int.tmod a1 15)) t319) t320))) else (some (Go.bits .and .u32 (rd y315 (Int.tmod a1 15)) t319)))) else (none)) else (none)))) = some r := by first | (rw [hji31] at H; exact H) | (simp only [hji31] at H ⊢; exact H)
     (try rw [hji31] at A3)
     have hji31_ : (IntKind.u32.wrap (9 * 2 ^ min t314.toNat 32)) = ji31 := hji31
     have hji31z : t314 ≤ 32 → (IntKind.u32.wrap (9 * 2 ^ t314.toNat)) = ji31 := shl_small hji31
     by_cases c32 : (ji31) = 0
     ·rw [if_pos c32] at H
      exact absurd H (by simp)
     ·rw [if_neg c32] at H
      have c32b0 : ((ji31) == 0) = false := beq_eq_false_iff_ne.mpr c32
      have c32b1 : ((ji31) != 0) = true := bne_iff_ne.mpr c32
      obtain ⟨ji33, hji33⟩ : ∃ j_ : Int, (((ji8) - (Int.tmod (a1 / 16) (ji31))) % 4294967296) = j_ := ⟨_, rfl⟩
      replace H : ((some (([0, 1, ji11, ji10, ji8, ji13, ji14, ji16, ji20, ji23, ji22, Go.bits .or .u32 (ji22) 1, Go.bits .or .u32 (ji22) (ji29), ji33, a1 / 16] : List Int) : List Int)).bind fun y315 => (if 0 ≤ (Int.tmod a1 15) then (if (Int.tmod a1 15) < (y315.length : Int) then ((annealref1_Mask.f a0).bind fun t319 => (if (a1 / 2147483648) = 1 then ((annealref1_Zero.f a0 true).bind fun t320 => (some (Go.bits .or .u32 (Go.bits .and .u32 (rd y315 (Int.tmod a1 15)) t319) t320))) else (some (Go.bits .and .u32 (rd y315 (Int.tmod a1 15)) t319)))) else (none)) else (none))) = some r := by first | (rw [hji33] at H; exact H) | (simp only [hji33] at H ⊢; exact H)
      (try rw [hji33] at A3)
      have hji33l : 0 ≤ ji33 := by rw [← hji33]; exact Int.emod_nonneg _ (by decide)
      have hji33h : ji33 ≤ 4294967295 := by have := Int.emod_lt_of_pos (((ji8) - (Int.tmod (a1 / 16) (ji31)))) (show (0 : Int) < 4294967296 by decide); omega
      have hji33w : (IntKind.u32.wrap ((ji8) - (Int.tmod (a1 / 16) (ji31)))) = ji33 := (u32_w _).trans hji33
      (try (have hji33_ := hji33; simp only [Int.add_emod_emod, Int.emod_add_emod, Int.sub_emod_emod, Int.emod_sub_emod] at hji33_))
      obtain ⟨y315, hy315⟩ : ∃ y_ : List Int, y_ = (([0, 1, ji11, ji10, ji8, ji13, ji14, ji16, ji20, ji23, ji22, Go.bits .or .u32 (ji22) 1, Go.bits .or .u32 (ji22) (ji29), ji33, a1 / 16] : List Int)) := ⟨_, rfl⟩
      replace H : (if 0 ≤ (Int.tmod a1 15) then (if (Int.tmod a1 15) < (y315.length : Int) then ((annealref1_Mask.f a0).bind fun t319 => (if (a1 / 2147483648) = 1 then ((annealref1_Zero.f a0 true).bind fun t320 => (some (Go.bits .or .u32 (Go.bits .and .u32 (rd y315 (Int.tmod a1 15)) t319) t320))) else (some (Go.bits .and .u32 (rd y315 (Int.tmod a1 15)) t319)))) else (none)) else (none)) = some r := by first | (rw [hy315]; with_reducible exact H) | (have H2_ := (Option.bind_some _ _).symm.trans H; rw [hy315]; with_reducible exact H2_) | (have H2_ := (Option.bind_some _ _).symm.trans H; with_reducible exact H2_) | with_reducible exact H | (rw [hy315]; exact H) | exact H
      have Ny315 := Aside0.mk hy315
      clear hy315
      obtain ⟨ji34, hji34⟩ : ∃ j_ : Int, (Int.tmod a1 15) = j_ := ⟨_, rfl⟩
      replace H : (if 0 ≤ (ji34) then (if (ji34) < (y315.length : Int) then ((annealref1_Mask.f a0).bind fun t319 => (if (a1 / 2147483648) = 1 then ((annealref1_Zero.f a0 true).bind fun t320 => (some (Go.bits .or .u32 (Go.bits .and .u32 (rd y315 (ji34)) t319) t320))) else (some (Go.bits .and .u32 (rd y315 (ji34)) t319)))) else (none)) else (none)) = some r := by first | (rw [hji34] at H; exact H) | (simp only [hji34] at H ⊢; exact H)
      (try rw [hji34] at A3)
      by_cases c35 : 0 ≤ (ji34)
      ·rw [if_pos c35] at H
       have c35b0 : decide (0 ≤ (ji34)) = true := decide_eq_true c35
       clear c35
       by_cases c36 : (ji34) < (y315.length : Int)
       ·rw [if_pos c36] at H
        have c36b0 : decide ((ji34) < (y315.length : Int)) = true := decide_eq_true c36
        clear c36
        replace H := Option.bind_eq_some_iff.mp H
        obtain ⟨t319, A370, H⟩ := H
        replace H : (if (a1 / 2147483648) = 1 then ((annealref1_Zero.f a0 true).bind fun t320 => (some (Go.bits .or .u32 (Go.bits .and .u32 (rd y315 (ji34)) t319) t320))) else (some (Go.bits .and .u32 (rd y315 (ji34)) t319))) = some r := H
        have A37 := Aside0.mk A370
        clear A370
        by_cases c38 : (a1 / 2147483648) = 1
        ·rw [if_pos c38] at H
         have c38b0 : ((a1 / 2147483648) == 1) = true := beq_iff_eq.mpr c38
         have c38b1 : ((a1 / 2147483648) != 1) = false := bne_eq_false_iff_eq.mpr c38
         clear c38
         replace H := Option.bind_eq_some_iff.mp H
         obtain ⟨t320, A390, H⟩ := H
         replace H : (some (Go.bits .or .u32 (Go.bits .and .u32 (rd y315 (ji34)) t319) t320)) = some r := H
         have A39 := Aside0.mk A390
         clear A390
         obtain rfl := Option.some.inj H
         go_enter Try.func11, Try.ntmps11
         try go_wp2_with (first | ((with_reducible refine gate_callee (f := 29) rfl ?_); refine goesL_ (some 14) rfl rfl Try.func29 (by kernel_rfl) rfl #[.int .i64 a0] rfl gl ?_; (with_reducible refine (annealref1_Widths.calls a0 t313 t314 _ A3.out).mono ?_); rintro e w' ⟨rfl, ⟨nd, rfl⟩⟩; refine ⟨_, rfl, ?_⟩))
         (try simp only [World.drewN_drewN])
         generalize hq_ : World.drewN w _ = w40
         have n_ : Aside0 (Below w.heap.size w w40) := ⟨by rw [← hq_]; apply pw_below_drewN; exact HB.out⟩
         clear hq_ HB
         have HB := n_
         clear n_
         have n0_ := Aside0.mk (below_drew1 HB.out)
         clear HB
         have HB := n0_
         clear n0_
         refine start_ (n := 47) (S := fun w' => True) (ds := []) (tf 0 47) (by kernel_rfl) rfl rfl trivial (fun hHeld => ?_); refine with_tabW annealseat_Num.tab5 annealseat_Num.bits5 (fun HT_ HW_ => ?_)
         generalize w40.drew = w41 at HB hHeld ⊢
         refine pure_ (i := 0) (N := some 26) (v := ?_) (a' := ?_) (tf 1 46) rfl rfl (any_of HT_.out (by kernel_rfl)) (fun _ _ _ h => h) (Or.inl ⟨by rfl, ?_⟩) ?_ ?_
         rotate_left
         ·intro w'
          go_simp
          with_reducible rfl
         rotate_left
         ·simp only [Act.put, sb, sz, ss, i64_w, i32_w]
          rfl
         refine pure_ (i := 1) (N := some 27) (v := ?_) (a' := ?_) (tf 2 45) rfl rfl (any_of HT_.out (by kernel_rfl)) (fun _ _ _ h => h) (Or.inl ⟨by rfl, ?_⟩) ?_ ?_
         rotate_left
         ·intro w'
          go_simp
          with_reducible rfl
         rotate_left
         ·simp only [Act.put, sb, sz, ss, i64_w, i32_w]
          rfl
         refine pure_ (i := 2) (N := some 28) (v := ?_) (a' := ?_) (tf 3 44) rfl rfl (any_of HT_.out (by kernel_rfl)) (fun _ _ _ h => h) (Or.inl ⟨by rfl, ?_⟩) ?_ ?_
         rotate_left
         ·intro w'
          go_simp
          with_reducible rfl
         rotate_left
         ·simp only [Act.put, sb, sz, ss, i64_w, i32_w]
          rfl
         refine pure_ (i := 3) (N := some 29) (v := ?_) (a' := ?_) (tf 4 43) rfl rfl (any_of HT_.out (by kernel_rfl)) (fun _ _ _ h => h) (Or.inl ⟨by rfl, ?_⟩) ?_ ?_
         rotate_left
         ·intro w'
          go_simp
          with_reducible rfl
         rotate_left
         ·simp only [Act.put, sb, sz, ss, i64_w, i32_w]
          rfl
         refine pure_ (i := 4) (N := some 30) (v := ?_) (a' := ?_) (tf 5 42) rfl rfl (any_of HT_.out (by kernel_rfl)) (fun _ _ _ h => h) (Or.inl ⟨by rfl, ?_⟩) ?_ ?_
         rotate_left
         ·intro w'
          go_simp
          with_reducible rfl
         rotate_left
         ·simp only [Act.put, sb, sz, ss, i64_w, i32_w]
          rfl
         refine pure_ (i := 5) (N := some 31) (v := ?_) (a' := ?_) (tf 6 41) rfl rfl (any_of HT_.out (by kernel_rfl)) (fun _ _ _ h => h) (Or.inl ⟨by rfl, ?_⟩) ?_ ?_
         rotate_left
         ·intro w'
          go_simp
          with_reducible rfl
         rotate_left
         ·simp only [Act.put, sb, sz, ss, i64_w, i32_w]
          rfl
         refine pure_ (i := 6) (N := some 32) (v := ?_) (a' := ?_) (tf 7 40) rfl rfl (any_of HT_.out (by kernel_rfl)) (fun _ _ _ h => h) (Or.inl ⟨by rfl, ?_⟩) ?_ ?_
         rotate_left
         ·intro w'
          go_simp
          with_reducible rfl
         rotate_left
         ·simp only [Act.put, sb, sz, ss, i64_w, i32_w]
          rfl
         refine pure_ (i := 7) (N := some 33) (v := ?_) (a' := ?_) (tf 8 39) rfl rfl (any_of HT_.out (by kernel_rfl)) (fun _ _ _ h => h) (Or.inl ⟨by rfl, ?_⟩) ?_ ?_
         rotate_left
         ·intro w'
          go_simp
          with_reducible rfl
         rotate_left
         ·simp only [Act.put, sb, sz, ss, i64_w, i32_w]
          rfl
         refine pure_ (i := 8) (N := some 34) (v := ?_) (a' := ?_) (tf 9 38) rfl rfl (any_of HT_.out (by kernel_rfl)) (fun _ _ _ h => h) (Or.inl ⟨by rfl, ?_⟩) ?_ ?_
         rotate_left
         ·intro w'
          go_simp
          with_reducible rfl
         rotate_left
         ·simp only [Act.put, sb, sz, ss, i64_w, i32_w]
          rfl
         refine pure_ (i := 9) (N := some 35) (v := ?_) (a' := ?_) (tf 10 37) rfl rfl (any_of HT_.out (by kernel_rfl)) (fun _ _ _ h => h) (Or.inl ⟨by rfl, ?_⟩) ?_ ?_
         rotate_left
         ·intro w'
          go_simp
          with_reducible rfl
         rotate_left
         ·simp only [Act.put, sb, sz, ss, i64_w, i32_w]
          rfl
         refine pure_ (i := 10) (N := some 36) (v := ?_) (a' := ?_) (tf 11 36) rfl rfl (any_of HT_.out (by kernel_rfl)) (fun _ _ _ h => h) (Or.inl ⟨by rfl, ?_⟩) ?_ ?_
         rotate_left
         ·intro w'
          go_simp
          with_reducible rfl
         rotate_left
         ·simp only [Act.put, sb, sz, ss, i64_w, i32_w]
          rfl
         refine pure_ (i := 11) (N := some 37) (v := ?_) (a' := ?_) (tf 12 35) rfl rfl (any_of HT_.out (by kernel_rfl)) (fun _ _ _ h => h) (Or.inl ⟨by rfl, ?_⟩) ?_ ?_
         rotate_left
         ·intro w'
          go_simp
          with_reducible rfl
         rotate_left
         ·simp only [Act.put, sb, sz, ss, i64_w, i32_w]
          rfl
         refine pure_ (i := 12) (N := some 38) (v := ?_) (a' := ?_) (tf 13 34) rfl rfl (any_of HT_.out (by kernel_rfl)) (fun _ _ _ h => h) (Or.inl ⟨by rfl, ?_⟩) ?_ ?_
         rotate_left
         ·intro w'
          go_simp
          with_reducible rfl
         rotate_left
         ·simp only [Act.put, sb, sz, ss, i64_w, i32_w]
          rfl
         refine pure_ (i := 13) (N := some 39) (v := ?_) (a' := ?_) (tf 14 33) rfl rfl (any_of HT_.out (by kernel_rfl)) (fun _ _ _ h => h) (Or.inl ⟨by rfl, ?_⟩) ?_ ?_
         rotate_left
         ·intro w'
          go_simp
          with_reducible rfl
         rotate_left
         ·simp only [Act.put, sb, sz, ss, i64_w, i32_w]
          rfl
         refine pure_ (i := 14) (N := some 40) (v := ?_) (a' := ?_) (tf 15 32) rfl rfl (any_of HT_.out (by kernel_rfl)) (fun _ _ _ h => h) (Or.inl ⟨by rfl, ?_⟩) ?_ ?_
         rotate_left
         ·intro w'
          go_simp
          with_reducible rfl
         rotate_left
         ·simp only [Act.put, sb, sz, ss, i64_w, i32_w]
          rfl
         refine pure_ (i := 15) (N := some 41) (v := ?_) (a' := ?_) (tf 16 31) rfl rfl (any_of HT_.out (by kernel_rfl)) (fun _ _ _ h => h) (Or.inl ⟨by rfl, ?_⟩) ?_ ?_
         rotate_left
         ·intro w'
          go_simp
          with_reducible rfl
         rotate_left
         ·simp only [Act.put, sb, sz, ss, i64_w, i32_w]
          rfl
         refine pure_ (i := 16) (N := some 42) (v := ?_) (a' := ?_) (tf 17 30) rfl rfl (any_of HT_.out (by kernel_rfl)) (fun _ _ _ h => h) (Or.inl ⟨by rfl, ?_⟩) ?_ ?_
         rotate_left
         ·intro w'
          go_simp
          with_reducible rfl
         rotate_left
         ·simp only [Act.put, sb, sz, ss, i64_w, i32_w]
          rfl
         refine pure_ (i := 17) (N := some 43) (v := ?_) (a' := ?_) (tf 18 29) rfl rfl (any_of HT_.out (by kernel_rfl)) (fun _ _ _ h => h) (Or.inl ⟨by rfl, ?_⟩) ?_ ?_
         rotate_left
         ·intro w'
          go_simp
          with_reducible rfl
         rotate_left
         ·simp only [Act.put, sb, sz, ss, i64_w, i32_w]
          rfl
         refine pure_ (i := 18) (N := some 44) (v := ?_) (a' := ?_) (tf 19 28) rfl rfl (any_of HT_.out (by kernel_rfl)) (fun _ _ _ h => h) (Or.inl ⟨by rfl, ?_⟩) ?_ ?_
         rotate_left
         ·intro w'
          go_simp
          with_reducible rfl
         rotate_left
         ·simp only [Act.put, sb, sz, ss, i64_w, i32_w]
          rfl
         refine pure_ (i := 19) (N := some 45) (v := ?_) (a' := ?_) (tf 20 27) rfl rfl (any_of HT_.out (by kernel_rfl)) (fun _ _ _ h => h) (Or.inl ⟨by rfl, ?_⟩) ?_ ?_
         rotate_left
         ·intro w'
          go_simp
          with_reducible rfl
         rotate_left
         ·simp only [Act.put, sb, sz, ss, i64_w, i32_w]
          rfl
         refine pure_ (i := 20) (N := some 46) (v := ?_) (a' := ?_) (tf 21 26) rfl rfl (any_of HT_.out (by kernel_rfl)) (fun _ _ _ h => h) (Or.inl ⟨by rfl, ?_⟩) ?_ ?_
         rotate_left
         ·intro w'
          go_simp
          with_reducible rfl
         rotate_left
         ·simp only [Act.put, sb, sz, ss, i64_w, i32_w]
          rfl
         refine pure_ (i := 21) (N := some 47) (v := ?_) (a' := ?_) (tf 22 25) rfl rfl (any_of HT_.out (by kernel_rfl)) (fun _ _ _ h => h) (Or.inl ⟨by rfl, ?_⟩) ?_ ?_
         rotate_left
         ·intro w'
          go_simp
          with_reducible rfl
         rotate_left
         ·simp only [Act.put, sb, sz, ss, i64_w, i32_w]
          rfl
         refine pure_ (i := 22) (N := some 48) (v := ?_) (a' := ?_) (tf 23 24) rfl rfl (any_of HT_.out (by kernel_rfl)) (fun _ _ _ h => h) (Or.inl ⟨by rfl, ?_⟩) ?_ ?_
         rotate_left
         ·intro w'
          go_simp
          with_reducible rfl
         rotate_left
         ·simp only [Act.put, sb, sz, ss, i64_w, i32_w]
          rfl
         refine pure_ (i := 23) (N := some 49) (v := ?_) (a' := ?_) (tf 24 23) rfl rfl (any_of HT_.out (by kernel_rfl)) (fun _ _ _ h => h) (Or.inl ⟨by rfl, ?_⟩) ?_ ?_
         rotate_left
         ·intro w'
          go_simp
          with_reducible rfl
         rotate_left
         ·simp only [Act.put, sb, sz, ss, i64_w, i32_w]
          rfl
         refine pure_ (i := 24) (N := some 50) (v := ?_) (a' := ?_) (tf 25 22) rfl rfl (any_of HT_.out (by kernel_rfl)) (fun _ _ _ h => h) (Or.inl ⟨by rfl, ?_⟩) ?_ ?_
         rotate_left
         ·intro w'
          go_simp
          with_reducible rfl
         rotate_left
         ·simp only [Act.put, sb, sz, ss, i64_w, i32_w]
          rfl
         refine pure_ (i := 25) (N := some 51) (v := ?_) (a' := ?_) (tf 26 21) rfl rfl (any_of HT_.out (by kernel_rfl)) (fun _ _ _ h => h) (Or.inl ⟨by rfl, ?_⟩) ?_ ?_
         rotate_left
         ·intro w'
          go_simp
          with_reducible rfl
         rotate_left
         ·simp only [Act.put, sb, sz, ss, i64_w, i32_w]
          rfl
         refine pure_ (i := 26) (N := some 52) (v := ?_) (a' := ?_) (tf 27 20) rfl rfl (any_of HT_.out (by kernel_rfl)) (fun _ _ _ h => h) (Or.inl ⟨by rfl, ?_⟩) ?_ ?_
         rotate_left
         ·intro w'
          go_simp
          with_reducible rfl
         rotate_left
         ·simp only [Act.put, sb, sz, ss, i64_w, i32_w]
          rfl
         refine pure_ (i := 27) (N := some 53) (v := ?_) (a' := ?_) (tf 28 19) rfl rfl (any_of HT_.out (by kernel_rfl)) (fun _ _ _ h => h) (Or.inl ⟨by rfl, ?_⟩) ?_ ?_
         rotate_left
         ·intro w'
          go_simp
          with_reducible rfl
         rotate_left
         ·simp only [Act.put, sb, sz, ss, i64_w, i32_w]
          rfl
         refine pure_ (i := 28) (N := some 54) (v := ?_) (a' := ?_) (tf 29 18) rfl rfl (any_of HT_.out (by kernel_rfl)) (fun _ _ _ h => h) (Or.inl ⟨by rfl, ?_⟩) ?_ ?_
         rotate_left
         ·intro w'
          go_simp
          with_reducible rfl
         rotate_left
         ·simp only [Act.put, sb, sz, ss, i64_w, i32_w]
          rfl
         refine pure_ (i := 29) (N := some 55) (v := ?_) (a' := ?_) (tf 30 17) rfl rfl (any_of HT_.out (by kernel_rfl)) (fun _ _ _ h => h) (Or.inl ⟨by rfl, ?_⟩) ?_ ?_
         rotate_left
         ·intro w'
          go_simp
          with_reducible rfl
         rotate_left
         ·simp only [Act.put, sb, sz, ss, i64_w, i32_w]
          rfl
         refine pure_ (i := 30) (N := some 56) (v := ?_) (a' := ?_) (tf 31 16) rfl rfl (any_of HT_.out (by kernel_rfl)) (fun _ _ _ h => h) (Or.inl ⟨by rfl, ?_⟩) ?_ ?_
         rotate_left
         ·intro w'
          go_simp
          with_reducible rfl
         rotate_left
         ·simp only [Act.put, sb, sz, ss, i64_w, i32_w]
          rfl
         refine pure_ (i := 31) (N := some 57) (v := ?_) (a' := ?_) (tf 32 15) rfl rfl (any_of HT_.out (by kernel_rfl)) (fun _ _ _ h => h) (Or.inl ⟨by rfl, ?_⟩) ?_ ?_
         rotate_left
         ·intro w'
          go_simp
          with_reducible rfl
         rotate_left
         ·simp only [Act.put, sb, sz, ss, i64_w, i32_w]
          rfl
         refine pure_ (i := 32) (N := some 58) (v := ?_) (a' := ?_) (tf 33 14) rfl rfl (any_of HT_.out (by kernel_rfl)) (fun _ _ _ h => h) (Or.inl ⟨by rfl, ?_⟩) ?_ ?_
         rotate_left
         ·intro w'
          go_simp
          with_reducible rfl
         rotate_left
         ·simp only [Act.put, sb, sz, ss, i64_w, i32_w]
          rfl
         refine pure_ (i := 33) (N := some 59) (v := ?_) (a' := ?_) (tf 34 13) rfl rfl (any_of HT_.out (by kernel_rfl)) (fun _ _ _ h => h) (Or.inl ⟨by rfl, ?_⟩) ?_ ?_
         rotate_left
         ·intro w'
          go_simp
          with_reducible rfl
         rotate_left
         ·simp only [Act.put, sb, sz, ss, i64_w, i32_w]
          rfl
         refine pure_ (i := 34) (N := some 60) (v := ?_) (a' := ?_) (tf 35 12) rfl rfl (any_of HT_.out (by kernel_rfl)) (fun _ _ _ h => h) (Or.inl ⟨by rfl, ?_⟩) ?_ ?_
         rotate_left
         ·intro w'
          go_simp
          with_reducible rfl
         rotate_left
         ·simp only [Act.put, sb, sz, ss, i64_w, i32_w]
          rfl
         refine pure_ (i := 35) (N := some 61) (v := ?_) (a' := ?_) (tf 36 11) rfl rfl (any_of HT_.out (by kernel_rfl)) (fun _ _ _ h => h) (Or.inl ⟨by rfl, ?_⟩) ?_ ?_
         rotate_left
         ·intro w'
          go_simp
          with_reducible rfl
         rotate_left
         ·simp only [Act.put, sb, sz, ss, i64_w, i32_w]
          rfl
         refine pure_ (i := 36) (N := some 62) (v := ?_) (a' := ?_) (tf 37 10) rfl rfl (any_of HT_.out (by kernel_rfl)) (fun _ _ _ h => h) (Or.inl ⟨by rfl, ?_⟩) ?_ ?_
         rotate_left
         ·intro w'
          go_simp
          with_reducible rfl
         rotate_left
         ·simp only [Act.put, sb, sz, ss, i64_w, i32_w]
          rfl
         refine pure_ (i := 37) (N := some 63) (v := ?_) (a' := ?_) (tf 38 9) rfl rfl (any_of HT_.out (by kernel_rfl)) (fun _ _ _ h => h) (Or.inl ⟨by rfl, ?_⟩) ?_ ?_
         rotate_left
         ·intro w'
          go_simp
          with_reducible rfl
         rotate_left
         ·simp only [Act.put, sb, sz, ss, i64_w, i32_w]
          rfl
         refine pure_ (i := 38) (N := some 64) (v := ?_) (a' := ?_) (tf 39 8) rfl rfl (any_of HT_.out (by kernel_rfl)) (fun _ _ _ h => h) (Or.inl ⟨by rfl, ?_⟩) ?_ ?_
         rotate_left
         ·intro w'
          go_simp
          with_reducible rfl
         rotate_left
         ·simp only [Act.put, sb, sz, ss, i64_w, i32_w]
          rfl
         refine pure_ (i := 39) (N := some 65) (v := ?_) (a' := ?_) (tf 40 7) rfl rfl (any_of HT_.out (by kernel_rfl)) (fun _ _ _ h => h) (Or.inl ⟨by rfl, ?_⟩) ?_ ?_
         rotate_left
         ·intro w'
          go_simp
          with_reducible rfl
         rotate_left
         ·simp only [Act.put, sb, sz, ss, i64_w, i32_w]
          rfl
         refine pure_ (i := 40) (N := some 66) (v := ?_) (a' := ?_) (tf 41 6) rfl rfl (any_of HT_.out (by kernel_rfl)) (fun _ _ _ h => h) (Or.inl ⟨by rfl, ?_⟩) ?_ ?_
         rotate_left
         ·intro w'
          go_simp
          with_reducible rfl
         rotate_left
         ·simp only [Act.put, sb, sz, ss, i64_w, i32_w]
          rfl
         refine pure_ (i := 41) (N := some 67) (v := ?_) (a' := ?_) (tf 42 5) rfl rfl (any_of HT_.out (by kernel_rfl)) (fun _ _ _ h => h) (Or.inl ⟨by rfl, ?_⟩) ?_ ?_
         rotate_left
         ·intro w'
          go_simp
          with_reducible rfl
         rotate_left
         ·simp only [Act.put, sb, sz, ss, i64_w, i32_w]
          rfl
         refine pure_ (i := 42) (N := some 68) (v := ?_) (a' := ?_) (tf 43 4) rfl rfl (any_of HT_.out (by kernel_rfl)) (fun _ _ _ h => h) (Or.inl ⟨by rfl, ?_⟩) ?_ ?_
         rotate_left
         ·intro w'
          go_simp
          with_reducible rfl
         rotate_left
         ·simp only [Act.put, sb, sz, ss, i64_w, i32_w]
          rfl
         refine pure_ (i := 43) (N := some 69) (v := ?_) (a' := ?_) (tf 44 3) rfl rfl (any_of HT_.out (by kernel_rfl)) (fun _ _ _ h => h) (Or.inl ⟨by rfl, ?_⟩) ?_ ?_
         rotate_left
         ·intro w'
          go_simp
          with_reducible rfl
         rotate_left
         ·simp only [Act.put, sb, sz, ss, i64_w, i32_w]
          rfl
         refine pure_ (i := 44) (N := some 70) (v := ?_) (a' := ?_) (tf 45 2) rfl rfl (any_of HT_.out (by kernel_rfl)) (fun _ _ _ h => h) (Or.inl ⟨by rfl, ?_⟩) ?_ ?_
         rotate_left
         ·intro w'
          go_simp
          with_reducible rfl
         rotate_left
         ·simp only [Act.put, sb, sz, ss, i64_w, i32_w]
          rfl
         refine one_ (i := 45) (N := some 71) (tf 46 1) rfl rfl (one_of HT_.out (by kernel_rfl)) (by decide) (fun K hK => ?_)
         refine Kd.R_lit_step (Kd.int .u32) _ 22 ?hg (N := 71) ?hd (xs := ([0, 1, ji11, ji10, ji8, ji13, ji14, ji16, ji20, ji23, ji22, Go.bits .or .u32 (ji22) 1, Go.bits .or .u32 (ji22) (ji29), ji33, a1 / 16] : List Int)) (inner := [.int .u32 0, .int .u32 1, .int .u32 ji11, .int .u32 ji10, .int .u32 ji8, .int .u32 ji13, .int .u32 ji14, .int .u32 ji16, .int .u32 ji20, .int .u32 ji23, .int .u32 ji22, .int .u32 (Go.bits .or .u32 (ji22) 1), .int .u32 (Go.bits .or .u32 (ji22) (ji29)), .int .u32 ji33, .int .u32 (a1 / 16)]) (ok := fun _ => True) (okp := fun _ => True) ?hr ?hp (fun _ hk => hk) trivial (Below.refl _ _) (Nat.le_refl _) (by simp) ?_; (case hd => rfl); (case hg => rfl); (case hr => first | (go_simp; done) | (go_simp; rfl)); (case hp => exact (Reps.one (show Kd.M (Kd.int .u32) _ _ _ 0 [.int .u32 0] from rfl) (Reps.one (show Kd.M (Kd.int .u32) _ _ _ 1 [.int .u32 1] from rfl) (Reps.one (show Kd.M (Kd.int .u32) _ _ _ ji11 [.int .u32 ji11] from rfl) (Reps.one (show Kd.M (Kd.int .u32) _ _ _ ji10 [.int .u32 ji10] from rfl) (Reps.one (show Kd.M (Kd.int .u32) _ _ _ ji8 [.int .u32 ji8] from rfl) (Reps.one (show Kd.M (Kd.int .u32) _ _ _ ji13 [.int .u32 ji13] from rfl) (Reps.one (show Kd.M (Kd.int .u32) _ _ _ ji14 [.int .u32 ji14] from rfl) (Reps.one (show Kd.M (Kd.int .u32) _ _ _ ji16 [.int .u32 ji16] from rfl) (Reps.one (show Kd.M (Kd.int .u32) _ _ _ ji20 [.int .u32 ji20] from rfl) (Reps.one (show Kd.M (Kd.int .u32) _ _ _ ji23 [.int .u32 ji23] from rfl) (Reps.one (show Kd.M (Kd.int .u32) _ _ _ ji22 [.int .u32 ji22] from rfl) (Reps.one (show Kd.M (Kd.int .u32) _ _ _ (Go.bits .or .u32 (ji22) 1) [.int .u32 (Go.bits .or .u32 (ji22) 1)] from rfl) (Reps.one (show Kd.M (Kd.int .u32) _ _ _ (Go.bits .or .u32 (ji22) (ji29)) [.int .u32 (Go.bits .or .u32 (ji22) (ji29))] from rfl) (Reps.one (show Kd.M (Kd.int .u32) _ _ _ ji33 [.int .u32 ji33] from rfl) (Reps.one (show Kd.M (Kd.int .u32) _ _ _ (a1 / 16) [.int .u32 (a1 / 16)] from rfl) (Reps.none _ _)))))))))))))))))
         intro v316 w42 ho43 hb hg_ hnew_
         clear hg_ hnew_
         (first | rw [← Ny315.out] at ho43 | (simp only [Int.reduceToNat] at ho43; rw [← Ny315.out] at ho43))
         have n0_ := Aside0.mk (Kd.R_lower ho43 (below_size (bl0 HB.out)))
         have n1_ := Aside0.mk (below_step (bl0 HB.out) hb)
         clear HB
         have HO317 := n0_
         have HB := n1_
         clear n0_ n1_
         clear hb ho43
         refine hK.out _ _ trivial (fun hHeld => ?_)
         clear hK K
         refine norm_ (a' := ?_) ?_ ?_
         rotate_left
         ·show Act.put _ (some 71) _ = _
          simp only [Act.put, sb, sz, ss, i64_w, i32_w]
          rfl
         refine pure_ (i := 46) (N := some 10) (v := ?_) (a' := ?_) (tf 47 0) rfl rfl (any_of HT_.out (by kernel_rfl)) (fun _ _ _ h => h) (Or.inl ⟨by rfl, ?_⟩) ?_ ?_
         rotate_left
         ·intro w'
          go_simp
          with_reducible rfl
         rotate_left
         ·simp only [Act.put, sb, sz, ss, i64_w, i32_w]
          rfl
         refine done_ (done_of HT_.out (by kernel_rfl)) ?_
         try go_wp2
         have n0_ := Aside0.mk (Kd.R_drew HO317.out)
         have n1_ := Aside0.mk (below_drew1 HB.out)
         clear HO317
         clear HB
         have HO317 := n0_
         have HB := n1_
         clear n0_ n1_
         obtain ⟨Ao45, co45, eo45⟩ := Kd.R_slice HO317.out
         (first | subst eo45 | (injection eo45 with f1_ f2_ f3_; have f4_ := f1_.symm; have f5_ := f3_.symm; clear f1_ f2_ f3_; subst f4_; subst f5_))
         have p318 : 0 ≤ ((ji34) : Int) := of_decide_eq_true (by first | (with_reducible assumption) | assumption)
         have q318 : (ji34) < (y315.length : Int) := of_decide_eq_true (by first | (with_reducible assumption) | assumption)
         obtain ⟨ad318, e318, hx318_0⟩ := Kd.at_int (Kd.R_reads' HO317.out).2.2 (ji34) p318 q318
         cases e318
         replace p318 := eq_true p318
         replace q318 := eq_true q318
         refine start_ (n := 9) (S := fun w' => w'.cell? (ad318.add ((ji34)).toNat) = some (.int .u32 (rd y315 (ji34)))) (ds := []) (tf 0 9) (by kernel_rfl) rfl rfl (hx318_0) (fun hHeld => ?_); refine with_tabW annealseat_Num.tab6 annealseat_Num.bits6 (fun HT_ HW_ => ?_)
         generalize w42.drew = w44 at HO317 HB hx318_0 hHeld ⊢
         refine pure_ (i := 0) (N := some 72) (v := ?_) (a' := ?_) (tf 1 8) rfl rfl (any_of HT_.out (by kernel_rfl)) (fun _ _ _ h => h) (Or.inl ⟨by rfl, ?_⟩) ?_ ?_
         rotate_left
         ·intro w'
          go_simp
          with_reducible rfl
         rotate_left
         ·simp only [Act.put, sb, sz, ss, i64_w, i32_w]
          rfl
         refine pure_ (i := 1) (N := some 73) (v := ?_) (a' := ?_) (tf 2 7) rfl rfl (any_of HT_.out (by kernel_rfl)) (fun _ _ _ h => h) (Or.inl ⟨by rfl, ?_⟩) ?_ ?_
         rotate_left
         ·intro w'
          go_simp
          with_reducible rfl
         rotate_left
         ·simp only [Act.put, sb, sz, ss, i64_w, i32_w]
          rfl
         refine pure_ (i := 2) (N := some 74) (v := ?_) (a' := ?_) (tf 3 6) rfl rfl (any_of HT_.out (by kernel_rfl)) (fun _ _ _ h => h) (Or.inl ⟨by rfl, ?_⟩) ?_ ?_
         rotate_left
         ·intro w'
          go_simp
          with_reducible rfl
         rotate_left
         ·simp only [Act.put, sb, sz, ss, i64_w, i32_w]
          rfl
         refine pure_ (i := 3) (N := some 75) (v := ?_) (a' := ?_) (tf 4 5) rfl rfl (any_of HT_.out (by kernel_rfl)) (fun _ _ _ h => h) (Or.inl ⟨by rfl, ?_⟩) ?_ ?_
         rotate_left
         ·intro w'
          go_simp
          with_reducible rfl
         rotate_left
         ·simp only [Act.put, sb, sz, ss, i64_w, i32_w]
          rfl
         refine pure_ (i := 5) (N := some 77) (v := ?_) (a' := ?_) #[true, true, true, true, false, true, false, false, false] rfl rfl (any_of HT_.out (by kernel_rfl)) (fun _ _ _ h => h) (Or.inl ⟨by rfl, ?_⟩) ?_ ?_
         rotate_left
         ·intro w'
          go_simp
          with_reducible rfl
         rotate_left
         ·simp only [Act.put, sb, sz, ss, i64_w, i32_w]
          rfl
         refine take_ (i := 4) (N := some 76) (v := ?_) (a' := ?_) (tf 6 3) rfl rfl (take_ofW HT_.out HW_.out (by kernel_rfl)) (fun _ _ _ h => h) (Or.inl ⟨by rfl, ?_⟩) hHeld ?_ ?_
         rotate_left
         ·intro w' s0
          go_simp
          with_reducible rfl
         rotate_left
         ·simp only [Act.put, sb, sz, ss, i64_w, i32_w]
          rfl
         refine one_ (i := 6) (N := some 78) (tf 7 2) rfl rfl (one_of HT_.out (by kernel_rfl)) (by decide) (fun K hK => ?_)
         refine goes_ Try.func30 (by kernel_rfl) rfl #[.int .i64 a0] (by rfl) rfl rfl gl ?_
         with_reducible refine (annealref1_Mask.calls a0 t319 _ A37.out).mono ?_
         rintro e w' ⟨rfl, ⟨nd, rfl⟩⟩
         refine ⟨_, rfl, ?_⟩
         refine hK.out _ _ (hHeld) (fun hHeld => ?_)
         clear hK K
         refine norm_ (a' := ?_) ?_ ?_
         rotate_left
         ·show Act.put _ (some 78) _ = _
          simp only [Act.put, sb, sz, ss, i64_w, i32_w]
          rfl
         refine pure_ (i := 7) (N := some 79) (v := ?_) (a' := ?_) (tf 8 1) rfl rfl (any_of HT_.out (by kernel_rfl)) (fun _ _ _ h => h) (Or.inl ⟨by rfl, ?_⟩) ?_ ?_
         rotate_left
         ·intro w'
          go_simp
          with_reducible rfl
         rotate_left
         ·simp only [Act.put, sb, sz, ss, i64_w, i32_w]
          rfl
         refine pure_ (i := 8) (N := some 11) (v := ?_) (a' := ?_) (tf 9 0) rfl rfl (any_of HT_.out (by kernel_rfl)) (fun _ _ _ h => h) (Or.inl ⟨by rfl, ?_⟩) ?_ ?_
         rotate_left
         ·intro w'
          go_simp
          with_reducible rfl
         rotate_left
         ·simp only [Act.put, sb, sz, ss, i64_w, i32_w]
          rfl
         refine done_ (done_of HT_.out (by kernel_rfl)) ?_
         try go_wp2_with (first | ((with_reducible refine gate_callee (f := 16) rfl ?_); refine goesL_ (some 85) rfl rfl Try.func16 (by kernel_rfl) rfl #[.int .i64 a0, .bool true] rfl gl ?_; (with_reducible refine (annealref1_Zero.calls a0 true t320 _ A39.out).mono ?_); rintro e w' ⟨rfl, ⟨nd, rfl⟩⟩; refine ⟨_, rfl, ?_⟩))
         go_ret
         exact ⟨by first | rfl | (simp [errW_none, errW_some] <;> rfl) | (simp only [← hji5, ← hji6, ← hji8, ← hji10, ← hji11, ← hji13, ← hji14, ← hji16, ← hji18, ← hji20, ← hji22, ← hji23, ← hji27, ← hji29, ← hji31, ← hji33, ← hji34]; first | rfl | (simp [errW_none, errW_some] <;> rfl)) | (simp [*, errW_none, errW_some] <;> rfl), bl0 HB.out⟩
        ·rw [if_neg c38] at H
         have c38b0 : ((a1 / 2147483648) == 1) = false := beq_eq_false_iff_ne.mpr c38
         have c38b1 : ((a1 / 2147483648) != 1) = true := bne_iff_ne.mpr c38
         obtain rfl := Option.some.inj H
         go_enter Try.func11, Try.ntmps11
         try go_wp2_with (first | ((with_reducible refine gate_callee (f := 29) rfl ?_); refine goesL_ (some 14) rfl rfl Try.func29 (by kernel_rfl) rfl #[.int .i64 a0] rfl gl ?_; (with_reducible refine (annealref1_Widths.calls a0 t313 t314 _ A3.out).mono ?_); rintro e w' ⟨rfl, ⟨nd, rfl⟩⟩; refine ⟨_, rfl, ?_⟩))
         (try simp only [World.drewN_drewN])
         generalize hq_ : World.drewN w _ = w46
         have n_ : Aside0 (Below w.heap.size w w46) := ⟨by rw [← hq_]; apply pw_below_drewN; exact HB.out⟩
         clear hq_ HB
         have HB := n_
         clear n_
         have n0_ := Aside0.mk (below_drew1 HB.out)
         clear HB
         have HB := n0_
         clear n0_
         refine start_ (n := 47) (S := fun w' => True) (ds := []) (tf 0 47) (by kernel_rfl) rfl rfl trivial (fun hHeld => ?_); refine with_tabW annealseat_Num.tab5 annealseat_Num.bits5 (fun HT_ HW_ => ?_)
         generalize w46.drew = w47 at HB hHeld ⊢
         refine pure_ (i := 0) (N := some 26) (v := ?_) (a' := ?_) (tf 1 46) rfl rfl (any_of HT_.out (by kernel_rfl)) (fun _ _ _ h => h) (Or.inl ⟨by rfl, ?_⟩) ?_ ?_
         rotate_left
         ·intro w'
          go_simp
          with_reducible rfl
         rotate_left
         ·simp only [Act.put, sb, sz, ss, i64_w, i32_w]
          rfl
         refine pure_ (i := 1) (N := some 27) (v := ?_) (a' := ?_) (tf 2 45) rfl rfl (any_of HT_.out (by kernel_rfl)) (fun _ _ _ h => h) (Or.inl ⟨by rfl, ?_⟩) ?_ ?_
         rotate_left
         ·intro w'
          go_simp
          with_reducible rfl
         rotate_left
         ·simp only [Act.put, sb, sz, ss, i64_w, i32_w]
          rfl
         refine pure_ (i := 2) (N := some 28) (v := ?_) (a' := ?_) (tf 3 44) rfl rfl (any_of HT_.out (by kernel_rfl)) (fun _ _ _ h => h) (Or.inl ⟨by rfl, ?_⟩) ?_ ?_
         rotate_left
         ·intro w'
          go_simp
          with_reducible rfl
         rotate_left
         ·simp only [Act.put, sb, sz, ss, i64_w, i32_w]
          rfl
         refine pure_ (i := 3) (N := some 29) (v := ?_) (a' := ?_) (tf 4 43) rfl rfl (any_of HT_.out (by kernel_rfl)) (fun _ _ _ h => h) (Or.inl ⟨by rfl, ?_⟩) ?_ ?_
         rotate_left
         ·intro w'
          go_simp
          with_reducible rfl
         rotate_left
         ·simp only [Act.put, sb, sz, ss, i64_w, i32_w]
          rfl
         refine pure_ (i := 4) (N := some 30) (v := ?_) (a' := ?_) (tf 5 42) rfl rfl (any_of HT_.out (by kernel_rfl)) (fun _ _ _ h => h) (Or.inl ⟨by rfl, ?_⟩) ?_ ?_
         rotate_left
         ·intro w'
          go_simp
          with_reducible rfl
         rotate_left
         ·simp only [Act.put, sb, sz, ss, i64_w, i32_w]
          rfl
         refine pure_ (i := 5) (N := some 31) (v := ?_) (a' := ?_) (tf 6 41) rfl rfl (any_of HT_.out (by kernel_rfl)) (fun _ _ _ h => h) (Or.inl ⟨by rfl, ?_⟩) ?_ ?_
         rotate_left
         ·intro w'
          go_simp
          with_reducible rfl
         rotate_left
         ·simp only [Act.put, sb, sz, ss, i64_w, i32_w]
          rfl
         refine pure_ (i := 6) (N := some 32) (v := ?_) (a' := ?_) (tf 7 40) rfl rfl (any_of HT_.out (by kernel_rfl)) (fun _ _ _ h => h) (Or.inl ⟨by rfl, ?_⟩) ?_ ?_
         rotate_left
         ·intro w'
          go_simp
          with_reducible rfl
         rotate_left
         ·simp only [Act.put, sb, sz, ss, i64_w, i32_w]
          rfl
         refine pure_ (i := 7) (N := some 33) (v := ?_) (a' := ?_) (tf 8 39) rfl rfl (any_of HT_.out (by kernel_rfl)) (fun _ _ _ h => h) (Or.inl ⟨by rfl, ?_⟩) ?_ ?_
         rotate_left
         ·intro w'
          go_simp
          with_reducible rfl
         rotate_left
         ·simp only [Act.put, sb, sz, ss, i64_w, i32_w]
          rfl
         refine pure_ (i := 8) (N := some 34) (v := ?_) (a' := ?_) (tf 9 38) rfl rfl (any_of HT_.out (by kernel_rfl)) (fun _ _ _ h => h) (Or.inl ⟨by rfl, ?_⟩) ?_ ?_
         rotate_left
         ·intro w'
          go_simp
          with_reducible rfl
         rotate_left
         ·simp only [Act.put, sb, sz, ss, i64_w, i32_w]
          rfl
         refine pure_ (i := 9) (N := some 35) (v := ?_) (a' := ?_) (tf 10 37) rfl rfl (any_of HT_.out (by kernel_rfl)) (fun _ _ _ h => h) (Or.inl ⟨by rfl, ?_⟩) ?_ ?_
         rotate_left
         ·intro w'
          go_simp
          with_reducible rfl
         rotate_left
         ·simp only [Act.put, sb, sz, ss, i64_w, i32_w]
          rfl
         refine pure_ (i := 10) (N := some 36) (v := ?_) (a' := ?_) (tf 11 36) rfl rfl (any_of HT_.out (by kernel_rfl)) (fun _ _ _ h => h) (Or.inl ⟨by rfl, ?_⟩) ?_ ?_
         rotate_left
         ·intro w'
          go_simp
          with_reducible rfl
         rotate_left
         ·simp only [Act.put, sb, sz, ss, i64_w, i32_w]
          rfl
         refine pure_ (i := 11) (N := some 37) (v := ?_) (a' := ?_) (tf 12 35) rfl rfl (any_of HT_.out (by kernel_rfl)) (fun _ _ _ h => h) (Or.inl ⟨by rfl, ?_⟩) ?_ ?_
         rotate_left
         ·intro w'
          go_simp
          with_reducible rfl
         rotate_left
         ·simp only [Act.put, sb, sz, ss, i64_w, i32_w]
          rfl
         refine pure_ (i := 12) (N := some 38) (v := ?_) (a' := ?_) (tf 13 34) rfl rfl (any_of HT_.out (by kernel_rfl)) (fun _ _ _ h => h) (Or.inl ⟨by rfl, ?_⟩) ?_ ?_
         rotate_left
         ·intro w'
          go_simp
          with_reducible rfl
         rotate_left
         ·simp only [Act.put, sb, sz, ss, i64_w, i32_w]
          rfl
         refine pure_ (i := 13) (N := some 39) (v := ?_) (a' := ?_) (tf 14 33) rfl rfl (any_of HT_.out (by kernel_rfl)) (fun _ _ _ h => h) (Or.inl ⟨by rfl, ?_⟩) ?_ ?_
         rotate_left
         ·intro w'
          go_simp
          with_reducible rfl
         rotate_left
         ·simp only [Act.put, sb, sz, ss, i64_w, i32_w]
          rfl
         refine pure_ (i := 14) (N := some 40) (v := ?_) (a' := ?_) (tf 15 32) rfl rfl (any_of HT_.out (by kernel_rfl)) (fun _ _ _ h => h) (Or.inl ⟨by rfl, ?_⟩) ?_ ?_
         rotate_left
         ·intro w'
          go_simp
          with_reducible rfl
         rotate_left
         ·simp only [Act.put, sb, sz, ss, i64_w, i32_w]
          rfl
         refine pure_ (i := 15) (N := some 41) (v := ?_) (a' := ?_) (tf 16 31) rfl rfl (any_of HT_.out (by kernel_rfl)) (fun _ _ _ h => h) (Or.inl ⟨by rfl, ?_⟩) ?_ ?_
         rotate_left
         ·intro w'
          go_simp
          with_reducible rfl
         rotate_left
         ·simp only [Act.put, sb, sz, ss, i64_w, i32_w]
          rfl
         refine pure_ (i := 16) (N := some 42) (v := ?_) (a' := ?_) (tf 17 30) rfl rfl (any_of HT_.out (by kernel_rfl)) (fun _ _ _ h => h) (Or.inl ⟨by rfl, ?_⟩) ?_ ?_
         rotate_left
         ·intro w'
          go_simp
          with_reducible rfl
         rotate_left
         ·simp only [Act.put, sb, sz, ss, i64_w, i32_w]
          rfl
         refine pure_ (i := 17) (N := some 43) (v := ?_) (a' := ?_) (tf 18 29) rfl rfl (any_of HT_.out (by kernel_rfl)) (fun _ _ _ h => h) (Or.inl ⟨by rfl, ?_⟩) ?_ ?_
         rotate_left
         ·intro w'
          go_simp
          with_reducible rfl
         rotate_left
         ·simp only [Act.put, sb, sz, ss, i64_w, i32_w]
          rfl
         refine pure_ (i := 18) (N := some 44) (v := ?_) (a' := ?_) (tf 19 28) rfl rfl (any_of HT_.out (by kernel_rfl)) (fun _ _ _ h => h) (Or.inl ⟨by rfl, ?_⟩) ?_ ?_
         rotate_left
         ·intro w'
          go_simp
          with_reducible rfl
         rotate_left
         ·simp only [Act.put, sb, sz, ss, i64_w, i32_w]
          rfl
         refine pure_ (i := 19) (N := some 45) (v := ?_) (a' := ?_) (tf 20 27) rfl rfl (any_of HT_.out (by kernel_rfl)) (fun _ _ _ h => h) (Or.inl ⟨by rfl, ?_⟩) ?_ ?_
         rotate_left
         ·intro w'
          go_simp
          with_reducible rfl
         rotate_left
         ·simp only [Act.put, sb, sz, ss, i64_w, i32_w]
          rfl
         refine pure_ (i := 20) (N := some 46) (v := ?_) (a' := ?_) (tf 21 26) rfl rfl (any_of HT_.out (by kernel_rfl)) (fun _ _ _ h => h) (Or.inl ⟨by rfl, ?_⟩) ?_ ?_
         rotate_left
         ·intro w'
          go_simp
          with_reducible rfl
         rotate_left
         ·simp only [Act.put, sb, sz, ss, i64_w, i32_w]
          rfl
         refine pure_ (i := 21) (N := some 47) (v := ?_) (a' := ?_) (tf 22 25) rfl rfl (any_of HT_.out (by kernel_rfl)) (fun _ _ _ h => h) (Or.inl ⟨by rfl, ?_⟩) ?_ ?_
         rotate_left
         ·intro w'
          go_simp
          with_reducible rfl
         rotate_left
         ·simp only [Act.put, sb, sz, ss, i64_w, i32_w]
          rfl
         refine pure_ (i := 22) (N := some 48) (v := ?_) (a' := ?_) (tf 23 24) rfl rfl (any_of HT_.out (by kernel_rfl)) (fun _ _ _ h => h) (Or.inl ⟨by rfl, ?_⟩) ?_ ?_
         rotate_left
         ·intro w'
          go_simp
          with_reducible rfl
         rotate_left
         ·simp only [Act.put, sb, sz, ss, i64_w, i32_w]
          rfl
         refine pure_ (i := 23) (N := some 49) (v := ?_) (a' := ?_) (tf 24 23) rfl rfl (any_of HT_.out (by kernel_rfl)) (fun _ _ _ h => h) (Or.inl ⟨by rfl, ?_⟩) ?_ ?_
         rotate_left
         ·intro w'
          go_simp
          with_reducible rfl
         rotate_left
         ·simp only [Act.put, sb, sz, ss, i64_w, i32_w]
          rfl
         refine pure_ (i := 24) (N := some 50) (v := ?_) (a' := ?_) (tf 25 22) rfl rfl (any_of HT_.out (by kernel_rfl)) (fun _ _ _ h => h) (Or.inl ⟨by rfl, ?_⟩) ?_ ?_
         rotate_left
         ·intro w'
          go_simp
          with_reducible rfl
         rotate_left
         ·simp only [Act.put, sb, sz, ss, i64_w, i32_w]
          rfl
         refine pure_ (i := 25) (N := some 51) (v := ?_) (a' := ?_) (tf 26 21) rfl rfl (any_of HT_.out (by kernel_rfl)) (fun _ _ _ h => h) (Or.inl ⟨by rfl, ?_⟩) ?_ ?_
         rotate_left
         ·intro w'
          go_simp
          with_reducible rfl
         rotate_left
         ·simp only [Act.put, sb, sz, ss, i64_w, i32_w]
          rfl
         refine pure_ (i := 26) (N := some 52) (v := ?_) (a' := ?_) (tf 27 20) rfl rfl (any_of HT_.out (by kernel_rfl)) (fun _ _ _ h => h) (Or.inl ⟨by rfl, ?_⟩) ?_ ?_
         rotate_left
         ·intro w'
          go_simp
          with_reducible rfl
         rotate_left
         ·simp only [Act.put, sb, sz, ss, i64_w, i32_w]
          rfl
         refine pure_ (i := 27) (N := some 53) (v := ?_) (a' := ?_) (tf 28 19) rfl rfl (any_of HT_.out (by kernel_rfl)) (fun _ _ _ h => h) (Or.inl ⟨by rfl, ?_⟩) ?_ ?_
         rotate_left
         ·intro w'
          go_simp
          with_reducible rfl
         rotate_left
         ·simp only [Act.put, sb, sz, ss, i64_w, i32_w]
          rfl
         refine pure_ (i := 28) (N := some 54) (v := ?_) (a' := ?_) (tf 29 18) rfl rfl (any_of HT_.out (by kernel_rfl)) (fun _ _ _ h => h) (Or.inl ⟨by rfl, ?_⟩) ?_ ?_
         rotate_left
         ·intro w'
          go_simp
          with_reducible rfl
         rotate_left
         ·simp only [Act.put, sb, sz, ss, i64_w, i32_w]
          rfl
         refine pure_ (i := 29) (N := some 55) (v := ?_) (a' := ?_) (tf 30 17) rfl rfl (any_of HT_.out (by kernel_rfl)) (fun _ _ _ h => h) (Or.inl ⟨by rfl, ?_⟩) ?_ ?_
         rotate_left
         ·intro w'
          go_simp
          with_reducible rfl
         rotate_left
         ·simp only [Act.put, sb, sz, ss, i64_w, i32_w]
          rfl
         refine pure_ (i := 30) (N := some 56) (v := ?_) (a' := ?_) (tf 31 16) rfl rfl (any_of HT_.out (by kernel_rfl)) (fun _ _ _ h => h) (Or.inl ⟨by rfl, ?_⟩) ?_ ?_
         rotate_left
         ·intro w'
          go_simp
          with_reducible rfl
         rotate_left
         ·simp only [Act.put, sb, sz, ss, i64_w, i32_w]
          rfl
         refine pure_ (i := 31) (N := some 57) (v := ?_) (a' := ?_) (tf 32 15) rfl rfl (any_of HT_.out (by kernel_rfl)) (fun _ _ _ h => h) (Or.inl ⟨by rfl, ?_⟩) ?_ ?_
         rotate_left
         ·intro w'
          go_simp
          with_reducible rfl
         rotate_left
         ·simp only [Act.put, sb, sz, ss, i64_w, i32_w]
          rfl
         refine pure_ (i := 32) (N := some 58) (v := ?_) (a' := ?_) (tf 33 14) rfl rfl (any_of HT_.out (by kernel_rfl)) (fun _ _ _ h => h) (Or.inl ⟨by rfl, ?_⟩) ?_ ?_
         rotate_left
         ·intro w'
          go_simp
          with_reducible rfl
         rotate_left
         ·simp only [Act.put, sb, sz, ss, i64_w, i32_w]
          rfl
         refine pure_ (i := 33) (N := some 59) (v := ?_) (a' := ?_) (tf 34 13) rfl rfl (any_of HT_.out (by kernel_rfl)) (fun _ _ _ h => h) (Or.inl ⟨by rfl, ?_⟩) ?_ ?_
         rotate_left
         ·intro w'
          go_simp
          with_reducible rfl
         rotate_left
         ·simp only [Act.put, sb, sz, ss, i64_w, i32_w]
          rfl
         refine pure_ (i := 34) (N := some 60) (v := ?_) (a' := ?_) (tf 35 12) rfl rfl (any_of HT_.out (by kernel_rfl)) (fun _ _ _ h => h) (Or.inl ⟨by rfl, ?_⟩) ?_ ?_
         rotate_left
         ·intro w'
          go_simp
          with_reducible rfl
         rotate_left
         ·simp only [Act.put, sb, sz, ss, i64_w, i32_w]
          rfl
         refine pure_ (i := 35) (N := some 61) (v := ?_) (a' := ?_) (tf 36 11) rfl rfl (any_of HT_.out (by kernel_rfl)) (fun _ _ _ h => h) (Or.inl ⟨by rfl, ?_⟩) ?_ ?_
         rotate_left
         ·intro w'
          go_simp
          with_reducible rfl
         rotate_left
         ·simp only [Act.put, sb, sz, ss, i64_w, i32_w]
          rfl
         refine pure_ (i := 36) (N := some 62) (v := ?_) (a' := ?_) (tf 37 10) rfl rfl (any_of HT_.out (by kernel_rfl)) (fun _ _ _ h => h) (Or.inl ⟨by rfl, ?_⟩) ?_ ?_
         rotate_left
         ·intro w'
          go_simp
          with_reducible rfl
         rotate_left
         ·simp only [Act.put, sb, sz, ss, i64_w, i32_w]
          rfl
         refine pure_ (i := 37) (N := some 63) (v := ?_) (a' := ?_) (tf 38 9) rfl rfl (any_of HT_.out (by kernel_rfl)) (fun _ _ _ h => h) (Or.inl ⟨by rfl, ?_⟩) ?_ ?_
         rotate_left
         ·intro w'
          go_simp
          with_reducible rfl
         rotate_left
         ·simp only [Act.put, sb, sz, ss, i64_w, i32_w]
          rfl
         refine pure_ (i := 38) (N := some 64) (v := ?_) (a' := ?_) (tf 39 8) rfl rfl (any_of HT_.out (by kernel_rfl)) (fun _ _ _ h => h) (Or.inl ⟨by rfl, ?_⟩) ?_ ?_
         rotate_left
         ·intro w'
          go_simp
          with_reducible rfl
         rotate_left
         ·simp only [Act.put, sb, sz, ss, i64_w, i32_w]
          rfl
         refine pure_ (i := 39) (N := some 65) (v := ?_) (a' := ?_) (tf 40 7) rfl rfl (any_of HT_.out (by kernel_rfl)) (fun _ _ _ h => h) (Or.inl ⟨by rfl, ?_⟩) ?_ ?_
         rotate_left
         ·intro w'
          go_simp
          with_reducible rfl
         rotate_left
         ·simp only [Act.put, sb, sz, ss, i64_w, i32_w]
          rfl
         refine pure_ (i := 40) (N := some 66) (v := ?_) (a' := ?_) (tf 41 6) rfl rfl (any_of HT_.out (by kernel_rfl)) (fun _ _ _ h => h) (Or.inl ⟨by rfl, ?_⟩) ?_ ?_
         rotate_left
         ·intro w'
          go_simp
          with_reducible rfl
         rotate_left
         ·simp only [Act.put, sb, sz, ss, i64_w, i32_w]
          rfl
         refine pure_ (i := 41) (N := some 67) (v := ?_) (a' := ?_) (tf 42 5) rfl rfl (any_of HT_.out (by kernel_rfl)) (fun _ _ _ h => h) (Or.inl ⟨by rfl, ?_⟩) ?_ ?_
         rotate_left
         ·intro w'
          go_simp
          with_reducible rfl
         rotate_left
         ·simp only [Act.put, sb, sz, ss, i64_w, i32_w]
          rfl
         refine pure_ (i := 42) (N := some 68) (v := ?_) (a' := ?_) (tf 43 4) rfl rfl (any_of HT_.out (by kernel_rfl)) (fun _ _ _ h => h) (Or.inl ⟨by rfl, ?_⟩) ?_ ?_
         rotate_left
         ·intro w'
          go_simp
          with_reducible rfl
         rotate_left
         ·simp only [Act.put, sb, sz, ss, i64_w, i32_w]
          rfl
         refine pure_ (i := 43) (N := some 69) (v := ?_) (a' := ?_) (tf 44 3) rfl rfl (any_of HT_.out (by kernel_rfl)) (fun _ _ _ h => h) (Or.inl ⟨by rfl, ?_⟩) ?_ ?_
         rotate_left
         ·intro w'
          go_simp
          with_reducible rfl
         rotate_left
         ·simp only [Act.put, sb, sz, ss, i64_w, i32_w]
          rfl
         refine pure_ (i := 44) (N := some 70) (v := ?_) (a' := ?_) (tf 45 2) rfl rfl (any_of HT_.out (by kernel_rfl)) (fun _ _ _ h => h) (Or.inl ⟨by rfl, ?_⟩) ?_ ?_
         rotate_left
         ·intro w'
          go_simp
          with_reducible rfl
         rotate_left
         ·simp only [Act.put, sb, sz, ss, i64_w, i32_w]
          rfl
         refine one_ (i := 45) (N := some 71) (tf 46 1) rfl rfl (one_of HT_.out (by kernel_rfl)) (by decide) (fun K hK => ?_)
         refine Kd.R_lit_step (Kd.int .u32) _ 22 ?hg (N := 71) ?hd (xs := ([0, 1, ji11, ji10, ji8, ji13, ji14, ji16, ji20, ji23, ji22, Go.bits .or .u32 (ji22) 1, Go.bits .or .u32 (ji22) (ji29), ji33, a1 / 16] : List Int)) (inner := [.int .u32 0, .int .u32 1, .int .u32 ji11, .int .u32 ji10, .int .u32 ji8, .int .u32 ji13, .int .u32 ji14, .int .u32 ji16, .int .u32 ji20, .int .u32 ji23, .int .u32 ji22, .int .u32 (Go.bits .or .u32 (ji22) 1), .int .u32 (Go.bits .or .u32 (ji22) (ji29)), .int .u32 ji33, .int .u32 (a1 / 16)]) (ok := fun _ => True) (okp := fun _ => True) ?hr ?hp (fun _ hk => hk) trivial (Below.refl _ _) (Nat.le_refl _) (by simp) ?_; (case hd => rfl); (case hg => rfl); (case hr => first | (go_simp; done) | (go_simp; rfl)); (case hp => exact (Reps.one (show Kd.M (Kd.int .u32) _ _ _ 0 [.int .u32 0] from rfl) (Reps.one (show Kd.M (Kd.int .u32) _ _ _ 1 [.int .u32 1] from rfl) (Reps.one (show Kd.M (Kd.int .u32) _ _ _ ji11 [.int .u32 ji11] from rfl) (Reps.one (show Kd.M (Kd.int .u32) _ _ _ ji10 [.int .u32 ji10] from rfl) (Reps.one (show Kd.M (Kd.int .u32) _ _ _ ji8 [.int .u32 ji8] from rfl) (Reps.one (show Kd.M (Kd.int .u32) _ _ _ ji13 [.int .u32 ji13] from rfl) (Reps.one (show Kd.M (Kd.int .u32) _ _ _ ji14 [.int .u32 ji14] from rfl) (Reps.one (show Kd.M (Kd.int .u32) _ _ _ ji16 [.int .u32 ji16] from rfl) (Reps.one (show Kd.M (Kd.int .u32) _ _ _ ji20 [.int .u32 ji20] from rfl) (Reps.one (show Kd.M (Kd.int .u32) _ _ _ ji23 [.int .u32 ji23] from rfl) (Reps.one (show Kd.M (Kd.int .u32) _ _ _ ji22 [.int .u32 ji22] from rfl) (Reps.one (show Kd.M (Kd.int .u32) _ _ _ (Go.bits .or .u32 (ji22) 1) [.int .u32 (Go.bits .or .u32 (ji22) 1)] from rfl) (Reps.one (show Kd.M (Kd.int .u32) _ _ _ (Go.bits .or .u32 (ji22) (ji29)) [.int .u32 (Go.bits .or .u32 (ji22) (ji29))] from rfl) (Reps.one (show Kd.M (Kd.int .u32) _ _ _ ji33 [.int .u32 ji33] from rfl) (Reps.one (show Kd.M (Kd.int .u32) _ _ _ (a1 / 16) [.int .u32 (a1 / 16)] from rfl) (Reps.none _ _)))))))))))))))))
         intro v316 w48 ho49 hb hg_ hnew_
         clear hg_ hnew_
         (first | rw [← Ny315.out] at ho49 | (simp only [Int.reduceToNat] at ho49; rw [← Ny315.out] at ho49))
         have n0_ := Aside0.mk (Kd.R_lower ho49 (below_size (bl0 HB.out)))
         have n1_ := Aside0.mk (below_step (bl0 HB.out) hb)
         clear HB
         have HO317 := n0_
         have HB := n1_
         clear n0_ n1_
         clear hb ho49
         refine hK.out _ _ trivial (fun hHeld => ?_)
         clear hK K
         refine norm_ (a' := ?_) ?_ ?_
         rotate_left
         ·show Act.put _ (some 71) _ = _
          simp only [Act.put, sb, sz, ss, i64_w, i32_w]
          rfl
         refine pure_ (i := 46) (N := some 10) (v := ?_) (a' := ?_) (tf 47 0) rfl rfl (any_of HT_.out (by kernel_rfl)) (fun _ _ _ h => h) (Or.inl ⟨by rfl, ?_⟩) ?_ ?_
         rotate_left
         ·intro w'
          go_simp
          with_reducible rfl
         rotate_left
         ·simp only [Act.put, sb, sz, ss, i64_w, i32_w]
          rfl
         refine done_ (done_of HT_.out (by kernel_rfl)) ?_
         try go_wp2
         have n0_ := Aside0.mk (Kd.R_drew HO317.out)
         have n1_ := Aside0.mk (below_drew1 HB.out)
         clear HO317
         clear HB
         have HO317 := n0_
         have HB := n1_
         clear n0_ n1_
         obtain ⟨Ao51, co51, eo51⟩ := Kd.R_slice HO317.out
         (first | subst eo51 | (injection eo51 with f1_ f2_ f3_; have f4_ := f1_.symm; have f5_ := f3_.symm; clear f1_ f2_ f3_; subst f4_; subst f5_))
         have p318 : 0 ≤ ((ji34) : Int) := of_decide_eq_true (by first | (with_reducible assumption) | assumption)
         have q318 : (ji34) < (y315.length : Int) := of_decide_eq_true (by first | (with_reducible assumption) | assumption)
         obtain ⟨ad318, e318, hx318_0⟩ := Kd.at_int (Kd.R_reads' HO317.out).2.2 (ji34) p318 q318
         cases e318
         replace p318 := eq_true p318
         replace q318 := eq_true q318
         refine start_ (n := 9) (S := fun w' => w'.cell? (ad318.add ((ji34)).toNat) = some (.int .u32 (rd y315 (ji34)))) (ds := []) (tf 0 9) (by kernel_rfl) rfl rfl (hx318_0) (fun hHeld => ?_); refine with_tabW annealseat_Num.tab6 annealseat_Num.bits6 (fun HT_ HW_ => ?_)
         generalize w48.drew = w50 at HO317 HB hx318_0 hHeld ⊢
         refine pure_ (i := 0) (N := some 72) (v := ?_) (a' := ?_) (tf 1 8) rfl rfl (any_of HT_.out (by kernel_rfl)) (fun _ _ _ h => h) (Or.inl ⟨by rfl, ?_⟩) ?_ ?_
         rotate_left
         ·intro w'
          go_simp
          with_reducible rfl
         rotate_left
         ·simp only [Act.put, sb, sz, ss, i64_w, i32_w]
          rfl
         refine pure_ (i := 1) (N := some 73) (v := ?_) (a' := ?_) (tf 2 7) rfl rfl (any_of HT_.out (by kernel_rfl)) (fun _ _ _ h => h) (Or.inl ⟨by rfl, ?_⟩) ?_ ?_
         rotate_left
         ·intro w'
          go_simp
          with_reducible rfl
         rotate_left
         ·simp only [Act.put, sb, sz, ss, i64_w, i32_w]
          rfl
         refine pure_ (i := 2) (N := some 74) (v := ?_) (a' := ?_) (tf 3 6) rfl rfl (any_of HT_.out (by kernel_rfl)) (fun _ _ _ h => h) (Or.inl ⟨by rfl, ?_⟩) ?_ ?_
         rotate_left
         ·intro w'
          go_simp
          with_reducible rfl
         rotate_left
         ·simp only [Act.put, sb, sz, ss, i64_w, i32_w]
          rfl
         refine pure_ (i := 3) (N := some 75) (v := ?_) (a' := ?_) (tf 4 5) rfl rfl (any_of HT_.out (by kernel_rfl)) (fun _ _ _ h => h) (Or.inl ⟨by rfl, ?_⟩) ?_ ?_
         rotate_left
         ·intro w'
          go_simp
          with_reducible rfl
         rotate_left
         ·simp only [Act.put, sb, sz, ss, i64_w, i32_w]
          rfl
         refine pure_ (i := 5) (N := some 77) (v := ?_) (a' := ?_) #[true, true, true, true, false, true, false, false, false] rfl rfl (any_of HT_.out (by kernel_rfl)) (fun _ _ _ h => h) (Or.inl ⟨by rfl, ?_⟩) ?_ ?_
         rotate_left
         ·intro w'
          go_simp
          with_reducible rfl
         rotate_left
         ·simp only [Act.put, sb, sz, ss, i64_w, i32_w]
          rfl
         refine take_ (i := 4) (N := some 76) (v := ?_) (a' := ?_) (tf 6 3) rfl rfl (take_ofW HT_.out HW_.out (by kernel_rfl)) (fun _ _ _ h => h) (Or.inl ⟨by rfl, ?_⟩) hHeld ?_ ?_
         rotate_left
         ·intro w' s0
          go_simp
          with_reducible rfl
         rotate_left
         ·simp only [Act.put, sb, sz, ss, i64_w, i32_w]
          rfl
         refine one_ (i := 6) (N := some 78) (tf 7 2) rfl rfl (one_of HT_.out (by kernel_rfl)) (by decide) (fun K hK => ?_)
         refine goes_ Try.func30 (by kernel_rfl) rfl #[.int .i64 a0] (by rfl) rfl rfl gl ?_
         with_reducible refine (annealref1_Mask.calls a0 t319 _ A37.out).mono ?_
         rintro e w' ⟨rfl, ⟨nd, rfl⟩⟩
         refine ⟨_, rfl, ?_⟩
         refine hK.out _ _ (hHeld) (fun hHeld => ?_)
         clear hK K
         refine norm_ (a' := ?_) ?_ ?_
         rotate_left
         ·show Act.put _ (some 78) _ = _
          simp only [Act.put, sb, sz, ss, i64_w, i32_w]
          rfl
         refine pure_ (i := 7) (N := some 79) (v := ?_) (a' := ?_) (tf 8 1) rfl rfl (any_of HT_.out (by kernel_rfl)) (fun _ _ _ h => h) (Or.inl ⟨by rfl, ?_⟩) ?_ ?_
         rotate_left
         ·intro w'
          go_simp
          with_reducible rfl
         rotate_left
         ·simp only [Act.put, sb, sz, ss, i64_w, i32_w]
          rfl
         refine pure_ (i := 8) (N := some 11) (v := ?_) (a' := ?_) (tf 9 0) rfl rfl (any_of HT_.out (by kernel_rfl)) (fun _ _ _ h => h) (Or.inl ⟨by rfl, ?_⟩) ?_ ?_
         rotate_left
         ·intro w'
          go_simp
          with_reducible rfl
         rotate_left
         ·simp only [Act.put, sb, sz, ss, i64_w, i32_w]
          rfl
         refine done_ (done_of HT_.out (by kernel_rfl)) ?_
         try go_wp2
         go_ret
         exact ⟨by first | rfl | (simp [errW_none, errW_some] <;> rfl) | (simp only [← hji5, ← hji6, ← hji8, ← hji10, ← hji11, ← hji13, ← hji14, ← hji16, ← hji18, ← hji20, ← hji22, ← hji23, ← hji27, ← hji29, ← hji31, ← hji33, ← hji34]; first | rfl | (simp [errW_none, errW_some] <;> rfl)) | (simp [*, errW_none, errW_some] <;> rfl), bl0 HB.out⟩
       ·rw [if_neg c36] at H
        exact absurd H (by simp)
      ·rw [if_neg c35] at H
       exact absurd H (by simp)
    ·rw [if_neg c28] at H
     exact absurd H (by simp)
  ·rw [if_neg c7] at H
   exact absurd H (by simp)
 ·rw [if_neg c4] at H
  exact absurd H (by simp)

end Go.Proofs.Ytlkjoibpfhjhcaa.P
