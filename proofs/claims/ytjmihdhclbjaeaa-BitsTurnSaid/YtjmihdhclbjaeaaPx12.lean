-- Printed by a program of this session's out of Lean's print of the translation; Lean checks it.
import Derived.Test.YtjmihdhclbjaeaaPx0
import Derived.Test.YtjmihdhclbjaeaaPx7
import Derived.Test.YtjmihdhclbjaeaaPx9
namespace Go.Proofs.Ytjmihdhclbjaeaa.P
open Go.RowKit Go.Proofs.YtjmihdhclbjaeaaW.PrintWords Go.Proofs.YtjmihdhclbjaeaaW.PrintLast Go.Proofs.YtjmihdhclbjaeaaW.PrintMore
attribute [local go_sem] max2_int min2_int max_two min_two max_three min_three max_four min_four   -- for this text's walks alone
set_option linter.unusedVariables false
set_option linter.unusedSimpArgs false

/-! ### anneallaw1_BitsRoot: function 7 -/
def anneallaw1_BitsRoot.f (k : Nat) (a0 : Int) (a1 : Int) : Option (Bool) := (anneallaw1_known.f k).bind fun t236 => (if t236 = true then (if 0 ≤ (Int.tmod a1 64) then ((bits_Root.f k (shr .u64 a0 (Int.tmod a1 64))).bind fun bt237 => (if bt237.1 = 4294967295 then (if (IntKind.u64.wrap ((IntKind.u64.wrap (bt237.1)) * (IntKind.u64.wrap (bt237.1)))) ≤ (shr .u64 a0 (Int.tmod a1 64)) then (some (bt237.2 == ((IntKind.u64.wrap ((IntKind.u64.wrap (bt237.1)) * (IntKind.u64.wrap (bt237.1)))) == (shr .u64 a0 (Int.tmod a1 64))))) else (some false)) else (if (IntKind.u64.wrap ((IntKind.u64.wrap (bt237.1)) * (IntKind.u64.wrap (bt237.1)))) ≤ (shr .u64 a0 (Int.tmod a1 64)) then (if ((IntKind.u64.wrap ((IntKind.u64.wrap ((IntKind.u64.wrap (bt237.1)) + 1)) * (IntKind.u64.wrap ((IntKind.u64.wrap (bt237.1)) + 1)))) ≤ (shr .u64 a0 (Int.tmod a1 64))) then (some false) else (some (bt237.2 == ((IntKind.u64.wrap ((IntKind.u64.wrap (bt237.1)) * (IntKind.u64.wrap (bt237.1)))) == (shr .u64 a0 (Int.tmod a1 64)))))) else (some false)))) else (none)) else (some false))
theorem anneallaw1_BitsRoot.mono : ∀ a0 a1 k, LeO (anneallaw1_BitsRoot.f k a0 a1) (anneallaw1_BitsRoot.f (k + 1) a0 a1) := by
  intro a0 a1 k
  unfold anneallaw1_BitsRoot.f
  repeat' first
      | (with_reducible exact anneallaw1_known.mono _)
      | (with_reducible exact bits_Root.mono _ _)
      | (with_reducible exact LeO.refl _)
      | (with_reducible exact LeO.none _)
      | (with_reducible refine LeO.ite ?_ ?_)
      | (with_reducible refine LeO.bind ?_ (fun _ => ?_))
      | exact anneallaw1_known.mono _
      | exact bits_Root.mono _ _
      | exact LeO.none _
      | refine LeO.ite ?_ ?_
      | refine LeO.bind ?_ (fun _ => ?_)
set_option maxHeartbeats 8000000 in
set_option maxRecDepth 100000 in
theorem anneallaw1_BitsRoot.calls (k : Nat) (a0 : Int) (a1 : Int) (r : Bool) (w : World) (h : anneallaw1_BitsRoot.f k a0 a1 = some r) :
    Calls Try.prog 7 #[.int .u64 a0, .int .u8 a1] w fun e w' => e = .returned (.bool r) ∧ Drawn0 w w' := by
  have H : ((anneallaw1_known.f k).bind fun t236 => (if t236 = true then (if 0 ≤ (Int.tmod a1 64) then ((bits_Root.f k (shr .u64 a0 (Int.tmod a1 64))).bind fun bt237 => (if bt237.1 = 4294967295 then (if (IntKind.u64.wrap ((IntKind.u64.wrap (bt237.1)) * (IntKind.u64.wrap (bt237.1)))) ≤ (shr .u64 a0 (Int.tmod a1 64)) then (some (bt237.2 == ((IntKind.u64.wrap ((IntKind.u64.wrap (bt237.1)) * (IntKind.u64.wrap (bt237.1)))) == (shr .u64 a0 (Int.tmod a1 64))))) else (some false)) else (if (IntKind.u64.wrap ((IntKind.u64.wrap (bt237.1)) * (IntKind.u64.wrap (bt237.1)))) ≤ (shr .u64 a0 (Int.tmod a1 64)) then (if ((IntKind.u64.wrap ((IntKind.u64.wrap ((IntKind.u64.wrap (bt237.1)) + 1)) * (IntKind.u64.wrap ((IntKind.u64.wrap (bt237.1)) + 1)))) ≤ (shr .u64 a0 (Int.tmod a1 64))) then (some false) else (some (bt237.2 == ((IntKind.u64.wrap ((IntKind.u64.wrap (bt237.1)) * (IntKind.u64.wrap (bt237.1)))) == (shr .u64 a0 (Int.tmod a1 64)))))) else (some false)))) else (none)) else (some false))) = some r := h
  clear h
  replace H := Option.bind_eq_some_iff.mp H
  obtain ⟨t236, A30, H⟩ := H
  replace H : (if t236 = true then (if 0 ≤ (Int.tmod a1 64) then ((bits_Root.f k (shr .u64 a0 (Int.tmod a1 64))).bind fun bt237 => (if bt237.1 = 4294967295 then (if (IntKind.u64.wrap ((IntKind.u64.wrap (bt237.1)) * (IntKind.u64.wrap (bt237.1)))) ≤ (shr .u64 a0 (Int.tmod a1 64)) then (some (bt237.2 == ((IntKind.u64.wrap ((IntKind.u64.wrap (bt237.1)) * (IntKind.u64.wrap (bt237.1)))) == (shr .u64 a0 (Int.tmod a1 64))))) else (some false)) else (if (IntKind.u64.wrap ((IntKind.u64.wrap (bt237.1)) * (IntKind.u64.wrap (bt237.1)))) ≤ (shr .u64 a0 (Int.tmod a1 64)) then (if ((IntKind.u64.wrap ((IntKind.u64.wrap ((IntKind.u64.wrap (bt237.1)) + 1)) * (IntKind.u64.wrap ((IntKind.u64.wrap (bt237.1)) + 1)))) ≤ (shr .u64 a0 (Int.tmod a1 64))) then (some false) else (some (bt237.2 == ((IntKind.u64.wrap ((IntKind.u64.wrap (bt237.1)) * (IntKind.u64.wrap (bt237.1)))) == (shr .u64 a0 (Int.tmod a1 64)))))) else (some false)))) else (none)) else (some false)) = some r := H
  have A3 := Aside0.mk A30
  clear A30
  by_cases c4 : t236 = true
  · subst c4
    have H1 : (if 0 ≤ (Int.tmod a1 64) then ((bits_Root.f k (shr .u64 a0 (Int.tmod a1 64))).bind fun bt237 => (if bt237.1 = 4294967295 then (if (IntKind.u64.wrap ((IntKind.u64.wrap (bt237.1)) * (IntKind.u64.wrap (bt237.1)))) ≤ (shr .u64 a0 (Int.tmod a1 64)) then (some (bt237.2 == ((IntKind.u64.wrap ((IntKind.u64.wrap (bt237.1)) * (IntKind.u64.wrap (bt237.1)))) == (shr .u64 a0 (Int.tmod a1 64))))) else (some false)) else (if (IntKind.u64.wrap ((IntKind.u64.wrap (bt237.1)) * (IntKind.u64.wrap (bt237.1)))) ≤ (shr .u64 a0 (Int.tmod a1 64)) then (if ((IntKind.u64.wrap ((IntKind.u64.wrap ((IntKind.u64.wrap (bt237.1)) + 1)) * (IntKind.u64.wrap ((IntKind.u64.wrap (bt237.1)) + 1)))) ≤ (shr .u64 a0 (Int.tmod a1 64))) then (some false) else (some (bt237.2 == ((IntKind.u64.wrap ((IntKind.u64.wrap (bt237.1)) * (IntKind.u64.wrap (bt237.1)))) == (shr .u64 a0 (Int.tmod a1 64)))))) else (some false)))) else (none)) = some r := by rw [if_pos rfl] at H; exact H
    clear H
    have H := H1
    clear H1
    obtain ⟨ji5, hji5⟩ : ∃ j_ : Int, (Int.tmod a1 64) = j_ := ⟨_, rfl⟩
    replace H : (if 0 ≤ (ji5) then ((bits_Root.f k (shr .u64 a0 (ji5))).bind fun bt237 => (if bt237.1 = 4294967295 then (if (IntKind.u64.wrap ((IntKind.u64.wrap (bt237.1)) * (IntKind.u64.wrap (bt237.1)))) ≤ (shr .u64 a0 (ji5)) then (some (bt237.2 == ((IntKind.u64.wrap ((IntKind.u64.wrap (bt237.1)) * (IntKind.u64.wrap (bt237.1)))) == (shr .u64 a0 (ji5))))) else (some false)) else (if (IntKind.u64.wrap ((IntKind.u64.wrap (bt237.1)) * (IntKind.u64.wrap (bt237.1)))) ≤ (shr .u64 a0 (ji5)) then (if ((IntKind.u64.wrap ((IntKind.u64.wrap ((IntKind.u64.wrap (bt237.1)) + 1)) * (IntKind.u64.wrap ((IntKind.u64.wrap (bt237.1)) + 1)))) ≤ (shr .u64 a0 (ji5))) then (some false) else (some (bt237.2 == ((IntKind.u64.wrap ((IntKind.u64.wrap (bt237.1)) * (IntKind.u64.wrap (bt237.1)))) == (shr .u64 a0 (ji5)))))) else (some false)))) else (none)) = some r := by first | (rw [hji5] at H; exact H) | (simp only [hji5] at H ⊢; exact H)
    (try rw [hji5] at A3)
    by_cases c6 : 0 ≤ (ji5)
    · rw [if_pos c6] at H
      have c6b0 := eq_true c6
      have c6b1 : decide (0 ≤ (ji5)) = true := decide_eq_true c6
      clear c6
      obtain ⟨ji7, hji7⟩ : ∃ j_ : Int, (shr .u64 a0 (ji5)) = j_ := ⟨_, rfl⟩
      replace H : ((bits_Root.f k (ji7)).bind fun bt237 => (if bt237.1 = 4294967295 then (if (IntKind.u64.wrap ((IntKind.u64.wrap (bt237.1)) * (IntKind.u64.wrap (bt237.1)))) ≤ (ji7) then (some (bt237.2 == ((IntKind.u64.wrap ((IntKind.u64.wrap (bt237.1)) * (IntKind.u64.wrap (bt237.1)))) == (ji7)))) else (some false)) else (if (IntKind.u64.wrap ((IntKind.u64.wrap (bt237.1)) * (IntKind.u64.wrap (bt237.1)))) ≤ (ji7) then (if ((IntKind.u64.wrap ((IntKind.u64.wrap ((IntKind.u64.wrap (bt237.1)) + 1)) * (IntKind.u64.wrap ((IntKind.u64.wrap (bt237.1)) + 1)))) ≤ (ji7)) then (some false) else (some (bt237.2 == ((IntKind.u64.wrap ((IntKind.u64.wrap (bt237.1)) * (IntKind.u64.wrap (bt237.1)))) == (ji7))))) else (some false)))) = some r := by first | (rw [hji7] at H; exact H) | (simp only [hji7] at H ⊢; exact H)
      (try rw [hji7] at A3)
      have hji7_ : (a0 / 2 ^ min (ji5).toNat 64) = ji7 := hji7
      have hji7z : (ji5) ≤ 64 → (a0 / 2 ^ (ji5).toNat) = ji7 := shr_small hji7
      replace H := Option.bind_eq_some_iff.mp H
      obtain ⟨⟨t237, t238⟩, A80, H⟩ := H
      replace H : (if t237 = 4294967295 then (if (IntKind.u64.wrap ((IntKind.u64.wrap (t237)) * (IntKind.u64.wrap (t237)))) ≤ (ji7) then (some (t238 == ((IntKind.u64.wrap ((IntKind.u64.wrap (t237)) * (IntKind.u64.wrap (t237)))) == (ji7)))) else (some false)) else (if (IntKind.u64.wrap ((IntKind.u64.wrap (t237)) * (IntKind.u64.wrap (t237)))) ≤ (ji7) then (if ((IntKind.u64.wrap ((IntKind.u64.wrap ((IntKind.u64.wrap (t237)) + 1)) * (IntKind.u64.wrap ((IntKind.u64.wrap (t237)) + 1)))) ≤ (ji7)) then (some false) else (some (t238 == ((IntKind.u64.wrap ((IntKind.u64.wrap (t237)) * (IntKind.u64.wrap (t237)))) == (ji7))))) else (some false))) = some r := H
      have A8 := Aside0.mk A80
      clear A80
      by_cases c9 : t237 = 4294967295
      · rw [if_pos c9] at H
        have c9b0 : (t237 == 4294967295) = true := beq_iff_eq.mpr c9
        have c9b1 : (t237 != 4294967295) = false := bne_eq_false_iff_eq.mpr c9
        clear c9
        by_cases c10 : (IntKind.u64.wrap ((IntKind.u64.wrap (t237)) * (IntKind.u64.wrap (t237)))) ≤ (ji7)
        · rw [if_pos c10] at H
          have c10b0 : decide ((IntKind.u64.wrap ((IntKind.u64.wrap (t237)) * (IntKind.u64.wrap (t237)))) ≤ (ji7)) = true := decide_eq_true c10
          clear c10
          obtain rfl := Option.some.inj H
          go_enter Try.func7, Try.ntmps7
          go_wp2_with (first | ((with_reducible refine gate_callee (f := 24) rfl ?_); refine goesL_ (some 10) rfl rfl Try.func24 (by kernel_rfl) rfl #[] rfl (by (try simp only [List.map_toArray, List.map_cons, List.map_nil]); first | done | rfl | (simp only [List.length_drop, List.length_take]; rfl)) ?_; (with_reducible refine (anneallaw1_known.calls k  true _ A3.out).mono ?_); rintro e w' ⟨rfl, ⟨nd, rfl⟩⟩; refine ⟨_, rfl, ?_⟩) | ((with_reducible refine gate_callee (f := 29) rfl ?_); refine goesL_ (some 18) rfl rfl Try.func29 (by kernel_rfl) rfl #[.int .u64 ji7] rfl (by (try simp only [List.map_toArray, List.map_cons, List.map_nil]); first | done | (simp only [hji7]; rfl) | rfl | (simp only [List.length_drop, List.length_take]; rfl)) ?_; (with_reducible refine (bits_Root.calls k ji7 t237 t238 _ A8.out).mono ?_); rintro e w' ⟨rfl, ⟨nd, rfl⟩⟩; refine ⟨_, rfl, ?_⟩))
          go_ret
          exact ⟨by first | rfl | (simp; done) | (simp only [← hji5, ← hji7] <;> (first | rfl | (simp; done))) | (simp [*]; done) | (congr 1; (try unfold wrap64); omega), by repeat (first | exact Drawn0.refl _ | apply Drawn0.step)⟩
        · rw [if_neg c10] at H
          have c10b0 : decide ((IntKind.u64.wrap ((IntKind.u64.wrap (t237)) * (IntKind.u64.wrap (t237)))) ≤ (ji7)) = false := decide_eq_false c10
          clear c10
          obtain rfl := Option.some.inj H
          go_enter Try.func7, Try.ntmps7
          go_wp2_with (first | ((with_reducible refine gate_callee (f := 24) rfl ?_); refine goesL_ (some 10) rfl rfl Try.func24 (by kernel_rfl) rfl #[] rfl (by (try simp only [List.map_toArray, List.map_cons, List.map_nil]); first | done | rfl | (simp only [List.length_drop, List.length_take]; rfl)) ?_; (with_reducible refine (anneallaw1_known.calls k  true _ A3.out).mono ?_); rintro e w' ⟨rfl, ⟨nd, rfl⟩⟩; refine ⟨_, rfl, ?_⟩) | ((with_reducible refine gate_callee (f := 29) rfl ?_); refine goesL_ (some 18) rfl rfl Try.func29 (by kernel_rfl) rfl #[.int .u64 ji7] rfl (by (try simp only [List.map_toArray, List.map_cons, List.map_nil]); first | done | (simp only [hji7]; rfl) | rfl | (simp only [List.length_drop, List.length_take]; rfl)) ?_; (with_reducible refine (bits_Root.calls k ji7 t237 t238 _ A8.out).mono ?_); rintro e w' ⟨rfl, ⟨nd, rfl⟩⟩; refine ⟨_, rfl, ?_⟩))
          go_ret
          exact ⟨by first | rfl | (simp; done) | (simp only [← hji5, ← hji7] <;> (first | rfl | (simp; done))) | (simp [*]; done) | (congr 1; (try unfold wrap64); omega), by repeat (first | exact Drawn0.refl _ | apply Drawn0.step)⟩
      · rw [if_neg c9] at H
        have c9b0 : (t237 == 4294967295) = false := beq_eq_false_iff_ne.mpr c9
        have c9b1 : (t237 != 4294967295) = true := bne_iff_ne.mpr c9
        by_cases c11 : (IntKind.u64.wrap ((IntKind.u64.wrap (t237)) * (IntKind.u64.wrap (t237)))) ≤ (ji7)
        · rw [if_pos c11] at H
          have c11b0 : decide ((IntKind.u64.wrap ((IntKind.u64.wrap (t237)) * (IntKind.u64.wrap (t237)))) ≤ (ji7)) = true := decide_eq_true c11
          clear c11
          by_cases c12 : ((IntKind.u64.wrap ((IntKind.u64.wrap ((IntKind.u64.wrap (t237)) + 1)) * (IntKind.u64.wrap ((IntKind.u64.wrap (t237)) + 1)))) ≤ (ji7))
          · rw [if_pos c12] at H
            have c12b0 : decide ((IntKind.u64.wrap ((IntKind.u64.wrap ((IntKind.u64.wrap (t237)) + 1)) * (IntKind.u64.wrap ((IntKind.u64.wrap (t237)) + 1)))) ≤ (ji7)) = true := decide_eq_true c12
            clear c12
            obtain rfl := Option.some.inj H
            go_enter Try.func7, Try.ntmps7
            go_wp2_with (first | ((with_reducible refine gate_callee (f := 24) rfl ?_); refine goesL_ (some 10) rfl rfl Try.func24 (by kernel_rfl) rfl #[] rfl (by (try simp only [List.map_toArray, List.map_cons, List.map_nil]); first | done | rfl | (simp only [List.length_drop, List.length_take]; rfl)) ?_; (with_reducible refine (anneallaw1_known.calls k  true _ A3.out).mono ?_); rintro e w' ⟨rfl, ⟨nd, rfl⟩⟩; refine ⟨_, rfl, ?_⟩) | ((with_reducible refine gate_callee (f := 29) rfl ?_); refine goesL_ (some 18) rfl rfl Try.func29 (by kernel_rfl) rfl #[.int .u64 ji7] rfl (by (try simp only [List.map_toArray, List.map_cons, List.map_nil]); first | done | (simp only [hji7]; rfl) | rfl | (simp only [List.length_drop, List.length_take]; rfl)) ?_; (with_reducible refine (bits_Root.calls k ji7 t237 t238 _ A8.out).mono ?_); rintro e w' ⟨rfl, ⟨nd, rfl⟩⟩; refine ⟨_, rfl, ?_⟩))
            go_ret
            exact ⟨by first | rfl | (simp; done) | (simp only [← hji5, ← hji7] <;> (first | rfl | (simp; done))) | (simp [*]; done) | (congr 1; (try unfold wrap64); omega), by repeat (first | exact Drawn0.refl _ | apply Drawn0.step)⟩
          · rw [if_neg c12] at H
            have c12b0 : decide ((IntKind.u64.wrap ((IntKind.u64.wrap ((IntKind.u64.wrap (t237)) + 1)) * (IntKind.u64.wrap ((IntKind.u64.wrap (t237)) + 1)))) ≤ (ji7)) = false := decide_eq_false c12
            clear c12
            obtain rfl := Option.some.inj H
            go_enter Try.func7, Try.ntmps7
            go_wp2_with (first | ((with_reducible refine gate_callee (f := 24) rfl ?_); refine goesL_ (some 10) rfl rfl Try.func24 (by kernel_rfl) rfl #[] rfl (by (try simp only [List.map_toArray, List.map_cons, List.map_nil]); first | done | rfl | (simp only [List.length_drop, List.length_take]; rfl)) ?_; (with_reducible refine (anneallaw1_known.calls k  true _ A3.out).mono ?_); rintro e w' ⟨rfl, ⟨nd, rfl⟩⟩; refine ⟨_, rfl, ?_⟩) | ((with_reducible refine gate_callee (f := 29) rfl ?_); refine goesL_ (some 18) rfl rfl Try.func29 (by kernel_rfl) rfl #[.int .u64 ji7] rfl (by (try simp only [List.map_toArray, List.map_cons, List.map_nil]); first | done | (simp only [hji7]; rfl) | rfl | (simp only [List.length_drop, List.length_take]; rfl)) ?_; (with_reducible refine (bits_Root.calls k ji7 t237 t238 _ A8.out).mono ?_); rintro e w' ⟨rfl, ⟨nd, rfl⟩⟩; refine ⟨_, rfl, ?_⟩))
            go_ret
            exact ⟨by first | rfl | (simp; done) | (simp only [← hji5, ← hji7] <;> (first | rfl | (simp; done))) | (simp [*]; done) | (congr 1; (try unfold wrap64); omega), by repeat (first | exact Drawn0.refl _ | apply Drawn0.step)⟩
        · rw [if_neg c11] at H
          have c11b0 : decide ((IntKind.u64.wrap ((IntKind.u64.wrap (t237)) * (IntKind.u64.wrap (t237)))) ≤ (ji7)) = false := decide_eq_false c11
          clear c11
          obtain rfl := Option.some.inj H
          go_enter Try.func7, Try.ntmps7
          go_wp2_with (first | ((with_reducible refine gate_callee (f := 24) rfl ?_); refine goesL_ (some 10) rfl rfl Try.func24 (by kernel_rfl) rfl #[] rfl (by (try simp only [List.map_toArray, List.map_cons, List.map_nil]); first | done | rfl | (simp only [List.length_drop, List.length_take]; rfl)) ?_; (with_reducible refine (anneallaw1_known.calls k  true _ A3.out).mono ?_); rintro e w' ⟨rfl, ⟨nd, rfl⟩⟩; refine ⟨_, rfl, ?_⟩) | ((with_reducible refine gate_callee (f := 29) rfl ?_); refine goesL_ (some 18) rfl rfl Try.func29 (by kernel_rfl) rfl #[.int .u64 ji7] rfl (by (try simp only [List.map_toArray, List.map_cons, List.map_nil]); first | done | (simp only [hji7]; rfl) | rfl | (simp only [List.length_drop, List.length_take]; rfl)) ?_; (with_reducible refine (bits_Root.calls k ji7 t237 t238 _ A8.out).mono ?_); rintro e w' ⟨rfl, ⟨nd, rfl⟩⟩; refine ⟨_, rfl, ?_⟩))
          go_ret
          exact ⟨by first | rfl | (simp; done) | (simp only [← hji5, ← hji7] <;> (first | rfl | (simp; done))) | (simp [*]; done) | (congr 1; (try unfold wrap64); omega), by repeat (first | exact Drawn0.refl _ | apply Drawn0.step)⟩
    · rw [if_neg c6] at H
      exact absurd H (by simp)
  · replace c4 := Bool.eq_false_iff.mpr c4
    subst c4
    have H1 : (some false) = some r := by rw [if_neg (show ¬ (false = true) by decide)] at H; exact H
    clear H
    have H := H1
    clear H1
    obtain rfl := Option.some.inj H
    go_enter Try.func7, Try.ntmps7
    go_wp2_with (first | ((with_reducible refine gate_callee (f := 24) rfl ?_); refine goesL_ (some 10) rfl rfl Try.func24 (by kernel_rfl) rfl #[] rfl (by (try simp only [List.map_toArray, List.map_cons, List.map_nil]); first | done | rfl | (simp only [List.length_drop, List.length_take]; rfl)) ?_; (with_reducible refine (anneallaw1_known.calls k  false _ A3.out).mono ?_); rintro e w' ⟨rfl, ⟨nd, rfl⟩⟩; refine ⟨_, rfl, ?_⟩))
    go_ret
    exact ⟨by first | rfl | (simp; done) | (simp [*]; done) | (congr 1; (try unfold wrap64); omega), by repeat (first | exact Drawn0.refl _ | apply Drawn0.step)⟩

/-- THE ONE PURE STATEMENT of anneallaw1_BitsRoot: yours. -/
def anneallaw1_BitsRoot.Pure : Prop := ∀ (a0 : Int) (a1 : Int), (Lit.int .u64 a0).wf = true → (Lit.int .u8 a1).wf = true → ∃ k, anneallaw1_BitsRoot.f k a0 a1 = some true
theorem anneallaw1_BitsRoot.walk (P : anneallaw1_BitsRoot.Pure) (a0 : Int) (a1 : Int) (w : World) (w0 : (Lit.int .u64 a0).wf = true) (w1 : (Lit.int .u8 a1).wf = true) :
    Calls Try.prog 7 #[.int .u64 a0, .int .u8 a1] w fun e w' => e = .returned (.bool true) ∧ Below w.heap.size w w' := by
  obtain ⟨k, h⟩ := P a0 a1 w0 w1
  refine (anneallaw1_BitsRoot.calls k a0 a1 true w h).mono ?_
  rintro e w' ⟨rfl, hd⟩
  exact ⟨rfl, hd.below⟩

/-! ### anneallaw1_BitsTurn: function 8 -/
def anneallaw1_BitsTurn.f (k : Nat) (a0 : Int) (a1 : Int) (a2 : Int) : Option (Bool) := (anneallaw1_known.f k).bind fun t239 => (if t239 = true then ((bits_Rotate.f a0 (wrap64 (a1))).bind fun t240 => ((bits_Rotate.f t240 (wrap64 (a2))).bind fun t241 => ((bits_Rotate.f a0 (wrap64 ((wrap64 (a1)) + (wrap64 (a2))))).bind fun t242 => (if t241 = t242 then ((bits_Rotate.f a0 (wrap64 (a1))).bind fun t243 => ((bits_Rotate.f t243 (wrap64 (-(wrap64 (a1))))).bind fun t244 => (if t244 = a0 then ((bits_Rotate.f a0 32).bind fun t245 => (some (t245 == a0))) else (some false)))) else (some false))))) else (some false))
theorem anneallaw1_BitsTurn.mono : ∀ a0 a1 a2 k, LeO (anneallaw1_BitsTurn.f k a0 a1 a2) (anneallaw1_BitsTurn.f (k + 1) a0 a1 a2) := by
  intro a0 a1 a2 k
  unfold anneallaw1_BitsTurn.f
  repeat' first
      | (with_reducible exact anneallaw1_known.mono _)
      | (with_reducible exact LeO.refl _)
      | (with_reducible exact LeO.none _)
      | (with_reducible refine LeO.ite ?_ ?_)
      | (with_reducible refine LeO.bind ?_ (fun _ => ?_))
      | exact anneallaw1_known.mono _
      | exact LeO.none _
      | refine LeO.ite ?_ ?_
      | refine LeO.bind ?_ (fun _ => ?_)
set_option maxHeartbeats 8000000 in
set_option maxRecDepth 100000 in
theorem anneallaw1_BitsTurn.calls (k : Nat) (a0 : Int) (a1 : Int) (a2 : Int) (r : Bool) (w : World) (h : anneallaw1_BitsTurn.f k a0 a1 a2 = some r) :
    Calls Try.prog 8 #[.int .u32 a0, .int .u8 a1, .int .u8 a2] w fun e w' => e = .returned (.bool r) ∧ Drawn0 w w' := by
  have H : ((anneallaw1_known.f k).bind fun t239 => (if t239 = true then ((bits_Rotate.f a0 (wrap64 (a1))).bind fun t240 => ((bits_Rotate.f t240 (wrap64 (a2))).bind fun t241 => ((bits_Rotate.f a0 (wrap64 ((wrap64 (a1)) + (wrap64 (a2))))).bind fun t242 => (if t241 = t242 then ((bits_Rotate.f a0 (wrap64 (a1))).bind fun t243 => ((bits_Rotate.f t243 (wrap64 (-(wrap64 (a1))))).bind fun t244 => (if t244 = a0 then ((bits_Rotate.f a0 32).bind fun t245 => (some (t245 == a0))) else (some false)))) else (some false))))) else (some false))) = some r := h
  clear h
  replace H := Option.bind_eq_some_iff.mp H
  obtain ⟨t239, A40, H⟩ := H
  replace H : (if t239 = true then ((bits_Rotate.f a0 (wrap64 (a1))).bind fun t240 => ((bits_Rotate.f t240 (wrap64 (a2))).bind fun t241 => ((bits_Rotate.f a0 (wrap64 ((wrap64 (a1)) + (wrap64 (a2))))).bind fun t242 => (if t241 = t242 then ((bits_Rotate.f a0 (wrap64 (a1))).bind fun t243 => ((bits_Rotate.f t243 (wrap64 (-(wrap64 (a1))))).bind fun t244 => (if t244 = a0 then ((bits_Rotate.f a0 32).bind fun t245 => (some (t245 == a0))) else (some false)))) else (some false))))) else (some false)) = some r := H
  have A4 := Aside0.mk A40
  clear A40
  by_cases c5 : t239 = true
  · subst c5
    have H1 : ((bits_Rotate.f a0 (wrap64 (a1))).bind fun t240 => ((bits_Rotate.f t240 (wrap64 (a2))).bind fun t241 => ((bits_Rotate.f a0 (wrap64 ((wrap64 (a1)) + (wrap64 (a2))))).bind fun t242 => (if t241 = t242 then ((bits_Rotate.f a0 (wrap64 (a1))).bind fun t243 => ((bits_Rotate.f t243 (wrap64 (-(wrap64 (a1))))).bind fun t244 => (if t244 = a0 then ((bits_Rotate.f a0 32).bind fun t245 => (some (t245 == a0))) else (some false)))) else (some false))))) = some r := by rw [if_pos rfl] at H; exact H
    clear H
    have H := H1
    clear H1
    replace H := Option.bind_eq_some_iff.mp H
    obtain ⟨t240, A60, H⟩ := H
    replace H : ((bits_Rotate.f t240 (wrap64 (a2))).bind fun t241 => ((bits_Rotate.f a0 (wrap64 ((wrap64 (a1)) + (wrap64 (a2))))).bind fun t242 => (if t241 = t242 then ((bits_Rotate.f a0 (wrap64 (a1))).bind fun t243 => ((bits_Rotate.f t243 (wrap64 (-(wrap64 (a1))))).bind fun t244 => (if t244 = a0 then ((bits_Rotate.f a0 32).bind fun t245 => (some (t245 == a0))) else (some false)))) else (some false)))) = some r := H
    have A6 := Aside0.mk A60
    clear A60
    replace H := Option.bind_eq_some_iff.mp H
    obtain ⟨t241, A70, H⟩ := H
    replace H : ((bits_Rotate.f a0 (wrap64 ((wrap64 (a1)) + (wrap64 (a2))))).bind fun t242 => (if t241 = t242 then ((bits_Rotate.f a0 (wrap64 (a1))).bind fun t243 => ((bits_Rotate.f t243 (wrap64 (-(wrap64 (a1))))).bind fun t244 => (if t244 = a0 then ((bits_Rotate.f a0 32).bind fun t245 => (some (t245 == a0))) else (some false)))) else (some false))) = some r := H
    have A7 := Aside0.mk A70
    clear A70
    replace H := Option.bind_eq_some_iff.mp H
    obtain ⟨t242, A80, H⟩ := H
    replace H : (if t241 = t242 then ((bits_Rotate.f a0 (wrap64 (a1))).bind fun t243 => ((bits_Rotate.f t243 (wrap64 (-(wrap64 (a1))))).bind fun t244 => (if t244 = a0 then ((bits_Rotate.f a0 32).bind fun t245 => (some (t245 == a0))) else (some false)))) else (some false)) = some r := H
    have A8 := Aside0.mk A80
    clear A80
    by_cases c9 : t241 = t242
    · rw [if_pos c9] at H
      have c9b0 : (t241 == t242) = true := beq_iff_eq.mpr c9
      have c9b1 : (t241 != t242) = false := bne_eq_false_iff_eq.mpr c9
      clear c9
      replace H := Option.bind_eq_some_iff.mp H
      obtain ⟨t243, A100, H⟩ := H
      replace H : ((bits_Rotate.f t243 (wrap64 (-(wrap64 (a1))))).bind fun t244 => (if t244 = a0 then ((bits_Rotate.f a0 32).bind fun t245 => (some (t245 == a0))) else (some false))) = some r := H
      have A10 := Aside0.mk A100
      clear A100
      replace H := Option.bind_eq_some_iff.mp H
      obtain ⟨t244, A110, H⟩ := H
      replace H : (if t244 = a0 then ((bits_Rotate.f a0 32).bind fun t245 => (some (t245 == a0))) else (some false)) = some r := H
      have A11 := Aside0.mk A110
      clear A110
      by_cases c12 : t244 = a0
      · rw [if_pos c12] at H
        have c12b0 : (t244 == a0) = true := beq_iff_eq.mpr c12
        have c12b1 : (t244 != a0) = false := bne_eq_false_iff_eq.mpr c12
        clear c12
        replace H := Option.bind_eq_some_iff.mp H
        obtain ⟨t245, A130, H⟩ := H
        replace H : (some (t245 == a0)) = some r := H
        have A13 := Aside0.mk A130
        clear A130
        obtain rfl := Option.some.inj H
        go_enter Try.func8, Try.ntmps8
        go_wp2_with (first | ((with_reducible refine gate_callee (f := 24) rfl ?_); refine goesL_ (some 8) rfl rfl Try.func24 (by kernel_rfl) rfl #[] rfl (by (try simp only [List.map_toArray, List.map_cons, List.map_nil]); first | done | rfl | (simp only [List.length_drop, List.length_take]; rfl)) ?_; (with_reducible refine (anneallaw1_known.calls k  true _ A4.out).mono ?_); rintro e w' ⟨rfl, ⟨nd, rfl⟩⟩; refine ⟨_, rfl, ?_⟩) | ((with_reducible refine gate_callee (f := 25) rfl ?_); refine goesL_ (some 13) rfl rfl Try.func25 (by kernel_rfl) rfl #[.int .u32 a0, .int .i64 (wrap64 (a1))] rfl (by (try simp only [List.map_toArray, List.map_cons, List.map_nil]); first | done | rfl | (simp only [List.length_drop, List.length_take]; rfl)) ?_; (with_reducible refine (bits_Rotate.calls a0 (wrap64 (a1)) t240 _ A6.out).mono ?_); rintro e w' ⟨rfl, ⟨nd, rfl⟩⟩; refine ⟨_, rfl, ?_⟩) | ((with_reducible refine gate_callee (f := 25) rfl ?_); refine goesL_ (some 16) rfl rfl Try.func25 (by kernel_rfl) rfl #[.int .u32 t240, .int .i64 (wrap64 (a2))] rfl (by (try simp only [List.map_toArray, List.map_cons, List.map_nil]); first | done | rfl | (simp only [List.length_drop, List.length_take]; rfl)) ?_; (with_reducible refine (bits_Rotate.calls t240 (wrap64 (a2)) t241 _ A7.out).mono ?_); rintro e w' ⟨rfl, ⟨nd, rfl⟩⟩; refine ⟨_, rfl, ?_⟩) | ((with_reducible refine gate_callee (f := 25) rfl ?_); refine goesL_ (some 24) rfl rfl Try.func25 (by kernel_rfl) rfl #[.int .u32 a0, .int .i64 (wrap64 ((wrap64 (a1)) + (wrap64 (a2))))] rfl (by (try simp only [List.map_toArray, List.map_cons, List.map_nil]); first | done | rfl | (simp only [List.length_drop, List.length_take]; rfl)) ?_; (with_reducible refine (bits_Rotate.calls a0 (wrap64 ((wrap64 (a1)) + (wrap64 (a2)))) t242 _ A8.out).mono ?_); rintro e w' ⟨rfl, ⟨nd, rfl⟩⟩; refine ⟨_, rfl, ?_⟩) | (go_at_call 25; (with_reducible refine (bits_Rotate.calls a0 (wrap64 (a1)) t243 _ A10.out).mono ?_); rintro e w' ⟨rfl, ⟨nd, rfl⟩⟩) | (go_at_call 25; (with_reducible refine (bits_Rotate.calls t243 (wrap64 (-(wrap64 (a1)))) t244 _ A11.out).mono ?_); rintro e w' ⟨rfl, ⟨nd, rfl⟩⟩) | (go_at_call 25; (with_reducible refine (bits_Rotate.calls a0 32 t245 _ A13.out).mono ?_); rintro e w' ⟨rfl, ⟨nd, rfl⟩⟩))
        go_ret
        exact ⟨by first | rfl | (simp; done) | (simp [*]; done) | (congr 1; (try unfold wrap64); omega), by repeat (first | exact Drawn0.refl _ | apply Drawn0.step)⟩
      · rw [if_neg c12] at H
        have c12b0 : (t244 == a0) = false := beq_eq_false_iff_ne.mpr c12
        have c12b1 : (t244 != a0) = true := bne_iff_ne.mpr c12
        obtain rfl := Option.some.inj H
        go_enter Try.func8, Try.ntmps8
        go_wp2_with (first | ((with_reducible refine gate_callee (f := 24) rfl ?_); refine goesL_ (some 8) rfl rfl Try.func24 (by kernel_rfl) rfl #[] rfl (by (try simp only [List.map_toArray, List.map_cons, List.map_nil]); first | done | rfl | (simp only [List.length_drop, List.length_take]; rfl)) ?_; (with_reducible refine (anneallaw1_known.calls k  true _ A4.out).mono ?_); rintro e w' ⟨rfl, ⟨nd, rfl⟩⟩; refine ⟨_, rfl, ?_⟩) | ((with_reducible refine gate_callee (f := 25) rfl ?_); refine goesL_ (some 13) rfl rfl Try.func25 (by kernel_rfl) rfl #[.int .u32 a0, .int .i64 (wrap64 (a1))] rfl (by (try simp only [List.map_toArray, List.map_cons, List.map_nil]); first | done | rfl | (simp only [List.length_drop, List.length_take]; rfl)) ?_; (with_reducible refine (bits_Rotate.calls a0 (wrap64 (a1)) t240 _ A6.out).mono ?_); rintro e w' ⟨rfl, ⟨nd, rfl⟩⟩; refine ⟨_, rfl, ?_⟩) | ((with_reducible refine gate_callee (f := 25) rfl ?_); refine goesL_ (some 16) rfl rfl Try.func25 (by kernel_rfl) rfl #[.int .u32 t240, .int .i64 (wrap64 (a2))] rfl (by (try simp only [List.map_toArray, List.map_cons, List.map_nil]); first | done | rfl | (simp only [List.length_drop, List.length_take]; rfl)) ?_; (with_reducible refine (bits_Rotate.calls t240 (wrap64 (a2)) t241 _ A7.out).mono ?_); rintro e w' ⟨rfl, ⟨nd, rfl⟩⟩; refine ⟨_, rfl, ?_⟩) | ((with_reducible refine gate_callee (f := 25) rfl ?_); refine goesL_ (some 24) rfl rfl Try.func25 (by kernel_rfl) rfl #[.int .u32 a0, .int .i64 (wrap64 ((wrap64 (a1)) + (wrap64 (a2))))] rfl (by (try simp only [List.map_toArray, List.map_cons, List.map_nil]); first | done | rfl | (simp only [List.length_drop, List.length_take]; rfl)) ?_; (with_reducible refine (bits_Rotate.calls a0 (wrap64 ((wrap64 (a1)) + (wrap64 (a2)))) t242 _ A8.out).mono ?_); rintro e w' ⟨rfl, ⟨nd, rfl⟩⟩; refine ⟨_, rfl, ?_⟩) | (go_at_call 25; (with_reducible refine (bits_Rotate.calls a0 (wrap64 (a1)) t243 _ A10.out).mono ?_); rintro e w' ⟨rfl, ⟨nd, rfl⟩⟩) | (go_at_call 25; (with_reducible refine (bits_Rotate.calls t243 (wrap64 (-(wrap64 (a1)))) t244 _ A11.out).mono ?_); rintro e w' ⟨rfl, ⟨nd, rfl⟩⟩))
        go_ret
        exact ⟨by first | rfl | (simp; done) | (simp [*]; done) | (congr 1; (try unfold wrap64); omega), by repeat (first | exact Drawn0.refl _ | apply Drawn0.step)⟩
    · rw [if_neg c9] at H
      have c9b0 : (t241 == t242) = false := beq_eq_false_iff_ne.mpr c9
      have c9b1 : (t241 != t242) = true := bne_iff_ne.mpr c9
      obtain rfl := Option.some.inj H
      go_enter Try.func8, Try.ntmps8
      go_wp2_with (first | ((with_reducible refine gate_callee (f := 24) rfl ?_); refine goesL_ (some 8) rfl rfl Try.func24 (by kernel_rfl) rfl #[] rfl (by (try simp only [List.map_toArray, List.map_cons, List.map_nil]); first | done | rfl | (simp only [List.length_drop, List.length_take]; rfl)) ?_; (with_reducible refine (anneallaw1_known.calls k  true _ A4.out).mono ?_); rintro e w' ⟨rfl, ⟨nd, rfl⟩⟩; refine ⟨_, rfl, ?_⟩) | ((with_reducible refine gate_callee (f := 25) rfl ?_); refine goesL_ (some 13) rfl rfl Try.func25 (by kernel_rfl) rfl #[.int .u32 a0, .int .i64 (wrap64 (a1))] rfl (by (try simp only [List.map_toArray, List.map_cons, List.map_nil]); first | done | rfl | (simp only [List.length_drop, List.length_take]; rfl)) ?_; (with_reducible refine (bits_Rotate.calls a0 (wrap64 (a1)) t240 _ A6.out).mono ?_); rintro e w' ⟨rfl, ⟨nd, rfl⟩⟩; refine ⟨_, rfl, ?_⟩) | ((with_reducible refine gate_callee (f := 25) rfl ?_); refine goesL_ (some 16) rfl rfl Try.func25 (by kernel_rfl) rfl #[.int .u32 t240, .int .i64 (wrap64 (a2))] rfl (by (try simp only [List.map_toArray, List.map_cons, List.map_nil]); first | done | rfl | (simp only [List.length_drop, List.length_take]; rfl)) ?_; (with_reducible refine (bits_Rotate.calls t240 (wrap64 (a2)) t241 _ A7.out).mono ?_); rintro e w' ⟨rfl, ⟨nd, rfl⟩⟩; refine ⟨_, rfl, ?_⟩) | ((with_reducible refine gate_callee (f := 25) rfl ?_); refine goesL_ (some 24) rfl rfl Try.func25 (by kernel_rfl) rfl #[.int .u32 a0, .int .i64 (wrap64 ((wrap64 (a1)) + (wrap64 (a2))))] rfl (by (try simp only [List.map_toArray, List.map_cons, List.map_nil]); first | done | rfl | (simp only [List.length_drop, List.length_take]; rfl)) ?_; (with_reducible refine (bits_Rotate.calls a0 (wrap64 ((wrap64 (a1)) + (wrap64 (a2)))) t242 _ A8.out).mono ?_); rintro e w' ⟨rfl, ⟨nd, rfl⟩⟩; refine ⟨_, rfl, ?_⟩))
      go_ret
      exact ⟨by first | rfl | (simp; done) | (simp [*]; done) | (congr 1; (try unfold wrap64); omega), by repeat (first | exact Drawn0.refl _ | apply Drawn0.step)⟩
  · replace c5 := Bool.eq_false_iff.mpr c5
    subst c5
    have H1 : (some false) = some r := by rw [if_neg (show ¬ (false = true) by decide)] at H; exact H
    clear H
    have H := H1
    clear H1
    obtain rfl := Option.some.inj H
    go_enter Try.func8, Try.ntmps8
    go_wp2_with (first | ((with_reducible refine gate_callee (f := 24) rfl ?_); refine goesL_ (some 8) rfl rfl Try.func24 (by kernel_rfl) rfl #[] rfl (by (try simp only [List.map_toArray, List.map_cons, List.map_nil]); first | done | rfl | (simp only [List.length_drop, List.length_take]; rfl)) ?_; (with_reducible refine (anneallaw1_known.calls k  false _ A4.out).mono ?_); rintro e w' ⟨rfl, ⟨nd, rfl⟩⟩; refine ⟨_, rfl, ?_⟩))
    go_ret
    exact ⟨by first | rfl | (simp; done) | (simp [*]; done) | (congr 1; (try unfold wrap64); omega), by repeat (first | exact Drawn0.refl _ | apply Drawn0.step)⟩

/-- THE ONE PURE STATEMENT of anneallaw1_BitsTurn: yours. -/
def anneallaw1_BitsTurn.Pure : Prop := ∀ (a0 : Int) (a1 : Int) (a2 : Int), (Lit.int .u32 a0).wf = true → (Lit.int .u8 a1).wf = true → (Lit.int .u8 a2).wf = true → ∃ k, anneallaw1_BitsTurn.f k a0 a1 a2 = some true
theorem anneallaw1_BitsTurn.walk (P : anneallaw1_BitsTurn.Pure) (a0 : Int) (a1 : Int) (a2 : Int) (w : World) (w0 : (Lit.int .u32 a0).wf = true) (w1 : (Lit.int .u8 a1).wf = true) (w2 : (Lit.int .u8 a2).wf = true) :
    Calls Try.prog 8 #[.int .u32 a0, .int .u8 a1, .int .u8 a2] w fun e w' => e = .returned (.bool true) ∧ Below w.heap.size w w' := by
  obtain ⟨k, h⟩ := P a0 a1 a2 w0 w1 w2
  refine (anneallaw1_BitsTurn.calls k a0 a1 a2 true w h).mono ?_
  rintro e w' ⟨rfl, hd⟩
  exact ⟨rfl, hd.below⟩

end Go.Proofs.Ytjmihdhclbjaeaa.P
