-- Printed by a program of this session's out of Lean's print of the translation; Lean checks it.
import Derived.Test.YtjmihdhclbjaeaaPx0
import Derived.Test.YtjmihdhclbjaeaaPx7
import Derived.Test.YtjmihdhclbjaeaaPx9
namespace Go.Proofs.Ytjmihdhclbjaeaa.P
open Go.RowKit Go.Proofs.YtjmihdhclbjaeaaW.PrintWords Go.Proofs.YtjmihdhclbjaeaaW.PrintLast Go.Proofs.YtjmihdhclbjaeaaW.PrintMore
attribute [local go_sem] max2_int min2_int max_two min_two max_three min_three max_four min_four   -- for this text's walks alone
set_option linter.unusedVariables false
set_option linter.unusedSimpArgs false

/-! ### anneallaw1_BitsProduct: function 9 -/
def anneallaw1_BitsProduct.f (k : Nat) (a0 : Int) (a1 : Int) : Option (Bool) := (anneallaw1_known.f k).bind fun t246 => (if t246 = true then ((bits_Product.f a0 a1).bind fun bt247 => ((bits_Product.f a0 (a1 / 2)).bind fun bt249 => (if (Go.bits .and .u64 a1 1) = 1 then (if (IntKind.u64.wrap ((IntKind.u64.wrap (bt249.2 * 2)) + a0)) < (IntKind.u64.wrap (bt249.2 * 2)) then ((bits_Product.f a1 a0).bind fun bt251 => (if bt247.1 = (IntKind.u64.wrap ((Go.bits .or .u64 (IntKind.u64.wrap (bt249.1 * 2)) (bt249.2 / 9223372036854775808)) + 1)) then (if bt247.2 = (IntKind.u64.wrap ((IntKind.u64.wrap (bt249.2 * 2)) + a0)) then (if bt251.1 = bt247.1 then (some (bt251.2 == bt247.2)) else (some false)) else (some false)) else (some false))) else ((bits_Product.f a1 a0).bind fun bt253 => (if bt247.1 = (Go.bits .or .u64 (IntKind.u64.wrap (bt249.1 * 2)) (bt249.2 / 9223372036854775808)) then (if bt247.2 = (IntKind.u64.wrap ((IntKind.u64.wrap (bt249.2 * 2)) + a0)) then (if bt253.1 = bt247.1 then (some (bt253.2 == bt247.2)) else (some false)) else (some false)) else (some false)))) else ((bits_Product.f a1 a0).bind fun bt255 => (if bt247.1 = (Go.bits .or .u64 (IntKind.u64.wrap (bt249.1 * 2)) (bt249.2 / 9223372036854775808)) then (if bt247.2 = (IntKind.u64.wrap (bt249.2 * 2)) then (if bt255.1 = bt247.1 then (some (bt255.2 == bt247.2)) else (some false)) else (some false)) else (some false)))))) else (some false))
theorem anneallaw1_BitsProduct.mono : ∀ a0 a1 k, LeO (anneallaw1_BitsProduct.f k a0 a1) (anneallaw1_BitsProduct.f (k + 1) a0 a1) := by
  intro a0 a1 k
  unfold anneallaw1_BitsProduct.f
  repeat' first
      | (with_reducible exact anneallaw1_known.mono _)
      | (with_reducible exact LeO.refl _)
      | (with_reducible exact LeO.none _)
      | (with_reducible refine LeO.ite ?_ ?_)
      | (with_reducible refine LeO.bind ?_ (fun _ => ?_))
      | exact anneallaw1_known.mono _
      | exact LeO.none _
      | refine LeO.ite ?_ ?_
      | refine LeO.bind ?_ (fun _ => ?_)
set_option maxHeartbeats 8000000 in
set_option maxRecDepth 100000 in
theorem anneallaw1_BitsProduct.calls (k : Nat) (a0 : Int) (a1 : Int) (r : Bool) (w : World) (h : anneallaw1_BitsProduct.f k a0 a1 = some r) :
    Calls Try.prog 9 #[.int .u64 a0, .int .u64 a1] w fun e w' => e = .returned (.bool r) ∧ Drawn0 w w' := by
  have H : ((anneallaw1_known.f k).bind fun t246 => (if t246 = true then ((bits_Product.f a0 a1).bind fun bt247 => ((bits_Product.f a0 (a1 / 2)).bind fun bt249 => (if (Go.bits .and .u64 a1 1) = 1 then (if (IntKind.u64.wrap ((IntKind.u64.wrap (bt249.2 * 2)) + a0)) < (IntKind.u64.wrap (bt249.2 * 2)) then ((bits_Product.f a1 a0).bind fun bt251 => (if bt247.1 = (IntKind.u64.wrap ((Go.bits .or .u64 (IntKind.u64.wrap (bt249.1 * 2)) (bt249.2 / 9223372036854775808)) + 1)) then (if bt247.2 = (IntKind.u64.wrap ((IntKind.u64.wrap (bt249.2 * 2)) + a0)) then (if bt251.1 = bt247.1 then (some (bt251.2 == bt247.2)) else (some false)) else (some false)) else (some false))) else ((bits_Product.f a1 a0).bind fun bt253 => (if bt247.1 = (Go.bits .or .u64 (IntKind.u64.wrap (bt249.1 * 2)) (bt249.2 / 9223372036854775808)) then (if bt247.2 = (IntKind.u64.wrap ((IntKind.u64.wrap (bt249.2 * 2)) + a0)) then (if bt253.1 = bt247.1 then (some (bt253.2 == bt247.2)) else (some false)) else (some false)) else (some false)))) else ((bits_Product.f a1 a0).bind fun bt255 => (if bt247.1 = (Go.bits .or .u64 (IntKind.u64.wrap (bt249.1 * 2)) (bt249.2 / 9223372036854775808)) then (if bt247.2 = (IntKind.u64.wrap (bt249.2 * 2)) then (if bt255.1 = bt247.1 then (some (bt255.2 == bt247.2)) else (some false)) else (some false)) else (some false)))))) else (some false))) = some r := h
  clear h
  replace H := Option.bind_eq_some_iff.mp H
  obtain ⟨t246, A30, H⟩ := H
  replace H : (if t246 = true then ((bits_Product.f a0 a1).bind fun bt247 => ((bits_Product.f a0 (a1 / 2)).bind fun bt249 => (if (Go.bits .and .u64 a1 1) = 1 then (if (IntKind.u64.wrap ((IntKind.u64.wrap (bt249.2 * 2)) + a0)) < (IntKind.u64.wrap (bt249.2 * 2)) then ((bits_Product.f a1 a0).bind fun bt251 => (if bt247.1 = (IntKind.u64.wrap ((Go.bits .or .u64 (IntKind.u64.wrap (bt249.1 * 2)) (bt249.2 / 9223372036854775808)) + 1)) then (if bt247.2 = (IntKind.u64.wrap ((IntKind.u64.wrap (bt249.2 * 2)) + a0)) then (if bt251.1 = bt247.1 then (some (bt251.2 == bt247.2)) else (some false)) else (some false)) else (some false))) else ((bits_Product.f a1 a0).bind fun bt253 => (if bt247.1 = (Go.bits .or .u64 (IntKind.u64.wrap (bt249.1 * 2)) (bt249.2 / 9223372036854775808)) then (if bt247.2 = (IntKind.u64.wrap ((IntKind.u64.wrap (bt249.2 * 2)) + a0)) then (if bt253.1 = bt247.1 then (some (bt253.2 == bt247.2)) else (some false)) else (some false)) else (some false)))) else ((bits_Product.f a1 a0).bind fun bt255 => (if bt247.1 = (Go.bits .or .u64 (IntKind.u64.wrap (bt249.1 * 2)) (bt249.2 / 9223372036854775808)) then (if bt247.2 = (IntKind.u64.wrap (bt249.2 * 2)) then (if bt255.1 = bt247.1 then (some (bt255.2 == bt247.2)) else (some false)) else (some false)) else (some false)))))) else (some false)) = some r := H
  have A3 := Aside0.mk A30
  clear A30
  by_cases c4 : t246 = true
  · subst c4
    have H1 : ((bits_Product.f a0 a1).bind fun bt247 => ((bits_Product.f a0 (a1 / 2)).bind fun bt249 => (if (Go.bits .and .u64 a1 1) = 1 then (if (IntKind.u64.wrap ((IntKind.u64.wrap (bt249.2 * 2)) + a0)) < (IntKind.u64.wrap (bt249.2 * 2)) then ((bits_Product.f a1 a0).bind fun bt251 => (if bt247.1 = (IntKind.u64.wrap ((Go.bits .or .u64 (IntKind.u64.wrap (bt249.1 * 2)) (bt249.2 / 9223372036854775808)) + 1)) then (if bt247.2 = (IntKind.u64.wrap ((IntKind.u64.wrap (bt249.2 * 2)) + a0)) then (if bt251.1 = bt247.1 then (some (bt251.2 == bt247.2)) else (some false)) else (some false)) else (some false))) else ((bits_Product.f a1 a0).bind fun bt253 => (if bt247.1 = (Go.bits .or .u64 (IntKind.u64.wrap (bt249.1 * 2)) (bt249.2 / 9223372036854775808)) then (if bt247.2 = (IntKind.u64.wrap ((IntKind.u64.wrap (bt249.2 * 2)) + a0)) then (if bt253.1 = bt247.1 then (some (bt253.2 == bt247.2)) else (some false)) else (some false)) else (some false)))) else ((bits_Product.f a1 a0).bind fun bt255 => (if bt247.1 = (Go.bits .or .u64 (IntKind.u64.wrap (bt249.1 * 2)) (bt249.2 / 9223372036854775808)) then (if bt247.2 = (IntKind.u64.wrap (bt249.2 * 2)) then (if bt255.1 = bt247.1 then (some (bt255.2 == bt247.2)) else (some false)) else (some false)) else (some false)))))) = some r := by rw [if_pos rfl] at H; exact H
    clear H
    have H := H1
    clear H1
    replace H := Option.bind_eq_some_iff.mp H
    obtain ⟨⟨t247, t248⟩, A50, H⟩ := H
    replace H : ((bits_Product.f a0 (a1 / 2)).bind fun bt249 => (if (Go.bits .and .u64 a1 1) = 1 then (if (IntKind.u64.wrap ((IntKind.u64.wrap (bt249.2 * 2)) + a0)) < (IntKind.u64.wrap (bt249.2 * 2)) then ((bits_Product.f a1 a0).bind fun bt251 => (if t247 = (IntKind.u64.wrap ((Go.bits .or .u64 (IntKind.u64.wrap (bt249.1 * 2)) (bt249.2 / 9223372036854775808)) + 1)) then (if t248 = (IntKind.u64.wrap ((IntKind.u64.wrap (bt249.2 * 2)) + a0)) then (if bt251.1 = t247 then (some (bt251.2 == t248)) else (some false)) else (some false)) else (some false))) else ((bits_Product.f a1 a0).bind fun bt253 => (if t247 = (Go.bits .or .u64 (IntKind.u64.wrap (bt249.1 * 2)) (bt249.2 / 9223372036854775808)) then (if t248 = (IntKind.u64.wrap ((IntKind.u64.wrap (bt249.2 * 2)) + a0)) then (if bt253.1 = t247 then (some (bt253.2 == t248)) else (some false)) else (some false)) else (some false)))) else ((bits_Product.f a1 a0).bind fun bt255 => (if t247 = (Go.bits .or .u64 (IntKind.u64.wrap (bt249.1 * 2)) (bt249.2 / 9223372036854775808)) then (if t248 = (IntKind.u64.wrap (bt249.2 * 2)) then (if bt255.1 = t247 then (some (bt255.2 == t248)) else (some false)) else (some false)) else (some false))))) = some r := H
    have A5 := Aside0.mk A50
    clear A50
    replace H := Option.bind_eq_some_iff.mp H
    obtain ⟨⟨t249, t250⟩, A60, H⟩ := H
    replace H : (if (Go.bits .and .u64 a1 1) = 1 then (if (IntKind.u64.wrap ((IntKind.u64.wrap (t250 * 2)) + a0)) < (IntKind.u64.wrap (t250 * 2)) then ((bits_Product.f a1 a0).bind fun bt251 => (if t247 = (IntKind.u64.wrap ((Go.bits .or .u64 (IntKind.u64.wrap (t249 * 2)) (t250 / 9223372036854775808)) + 1)) then (if t248 = (IntKind.u64.wrap ((IntKind.u64.wrap (t250 * 2)) + a0)) then (if bt251.1 = t247 then (some (bt251.2 == t248)) else (some false)) else (some false)) else (some false))) else ((bits_Product.f a1 a0).bind fun bt253 => (if t247 = (Go.bits .or .u64 (IntKind.u64.wrap (t249 * 2)) (t250 / 9223372036854775808)) then (if t248 = (IntKind.u64.wrap ((IntKind.u64.wrap (t250 * 2)) + a0)) then (if bt253.1 = t247 then (some (bt253.2 == t248)) else (some false)) else (some false)) else (some false)))) else ((bits_Product.f a1 a0).bind fun bt255 => (if t247 = (Go.bits .or .u64 (IntKind.u64.wrap (t249 * 2)) (t250 / 9223372036854775808)) then (if t248 = (IntKind.u64.wrap (t250 * 2)) then (if bt255.1 = t247 then (some (bt255.2 == t248)) else (some false)) else (some false)) else (some false)))) = some r := H
    have A6 := Aside0.mk A60
    clear A60
    by_cases c7 : (Go.bits .and .u64 a1 1) = 1
    · rw [if_pos c7] at H
      have c7b0 : ((Go.bits .and .u64 a1 1) == 1) = true := beq_iff_eq.mpr c7
      have c7b1 : ((Go.bits .and .u64 a1 1) != 1) = false := bne_eq_false_iff_eq.mpr c7
      clear c7
      by_cases c8 : (IntKind.u64.wrap ((IntKind.u64.wrap (t250 * 2)) + a0)) < (IntKind.u64.wrap (t250 * 2))
      · rw [if_pos c8] at H
        have c8b0 : decide ((IntKind.u64.wrap ((IntKind.u64.wrap (t250 * 2)) + a0)) < (IntKind.u64.wrap (t250 * 2))) = true := decide_eq_true c8
        clear c8
        replace H := Option.bind_eq_some_iff.mp H
        obtain ⟨⟨t251, t252⟩, A90, H⟩ := H
        replace H : (if t247 = (IntKind.u64.wrap ((Go.bits .or .u64 (IntKind.u64.wrap (t249 * 2)) (t250 / 9223372036854775808)) + 1)) then (if t248 = (IntKind.u64.wrap ((IntKind.u64.wrap (t250 * 2)) + a0)) then (if t251 = t247 then (some (t252 == t248)) else (some false)) else (some false)) else (some false)) = some r := H
        have A9 := Aside0.mk A90
        clear A90
        by_cases c10 : t247 = (IntKind.u64.wrap ((Go.bits .or .u64 (IntKind.u64.wrap (t249 * 2)) (t250 / 9223372036854775808)) + 1))
        · rw [if_pos c10] at H
          have c10b0 : (t247 == (IntKind.u64.wrap ((Go.bits .or .u64 (IntKind.u64.wrap (t249 * 2)) (t250 / 9223372036854775808)) + 1))) = true := beq_iff_eq.mpr c10
          have c10b1 : (t247 != (IntKind.u64.wrap ((Go.bits .or .u64 (IntKind.u64.wrap (t249 * 2)) (t250 / 9223372036854775808)) + 1))) = false := bne_eq_false_iff_eq.mpr c10
          clear c10
          by_cases c11 : t248 = (IntKind.u64.wrap ((IntKind.u64.wrap (t250 * 2)) + a0))
          · rw [if_pos c11] at H
            have c11b0 : (t248 == (IntKind.u64.wrap ((IntKind.u64.wrap (t250 * 2)) + a0))) = true := beq_iff_eq.mpr c11
            have c11b1 : (t248 != (IntKind.u64.wrap ((IntKind.u64.wrap (t250 * 2)) + a0))) = false := bne_eq_false_iff_eq.mpr c11
            clear c11
            by_cases c12 : t251 = t247
            · rw [if_pos c12] at H
              have c12b0 : (t251 == t247) = true := beq_iff_eq.mpr c12
              have c12b1 : (t251 != t247) = false := bne_eq_false_iff_eq.mpr c12
              clear c12
              obtain rfl := Option.some.inj H
              go_enter Try.func9, Try.ntmps9
              go_wp2_with (first | ((with_reducible refine gate_callee (f := 24) rfl ?_); refine goesL_ (some 14) rfl rfl Try.func24 (by kernel_rfl) rfl #[] rfl (by (try simp only [List.map_toArray, List.map_cons, List.map_nil]); first | done | rfl | (simp only [List.length_drop, List.length_take]; rfl)) ?_; (with_reducible refine (anneallaw1_known.calls k  true _ A3.out).mono ?_); rintro e w' ⟨rfl, ⟨nd, rfl⟩⟩; refine ⟨_, rfl, ?_⟩) | ((with_reducible refine gate_callee (f := 27) rfl ?_); refine goesL_ (some 19) rfl rfl Try.func27 (by kernel_rfl) rfl #[.int .u64 a0, .int .u64 a1] rfl (by (try simp only [List.map_toArray, List.map_cons, List.map_nil]); first | done | rfl | (simp only [List.length_drop, List.length_take]; rfl)) ?_; (with_reducible refine (bits_Product.calls a0 a1 t247 t248 _ A5.out).mono ?_); rintro e w' ⟨rfl, ⟨nd, rfl⟩⟩; refine ⟨_, rfl, ?_⟩) | ((with_reducible refine gate_callee (f := 27) rfl ?_); refine goesL_ (some 26) rfl rfl Try.func27 (by kernel_rfl) rfl #[.int .u64 a0, .int .u64 (a1 / 2)] rfl (by (try simp only [List.map_toArray, List.map_cons, List.map_nil]); first | done | rfl | (simp only [List.length_drop, List.length_take]; rfl)) ?_; (with_reducible refine (bits_Product.calls a0 (a1 / 2) t249 t250 _ A6.out).mono ?_); rintro e w' ⟨rfl, ⟨nd, rfl⟩⟩; refine ⟨_, rfl, ?_⟩) | ((with_reducible refine gate_callee (f := 27) rfl ?_); refine goesL_ (some 51) rfl rfl Try.func27 (by kernel_rfl) rfl #[.int .u64 a1, .int .u64 a0] rfl (by (try simp only [List.map_toArray, List.map_cons, List.map_nil]); first | done | rfl | (simp only [List.length_drop, List.length_take]; rfl)) ?_; (with_reducible refine (bits_Product.calls a1 a0 t251 t252 _ A9.out).mono ?_); rintro e w' ⟨rfl, ⟨nd, rfl⟩⟩; refine ⟨_, rfl, ?_⟩))
              go_ret
              exact ⟨by first | rfl | (simp; done) | (simp [*]; done) | (congr 1; (try unfold wrap64); omega), by repeat (first | exact Drawn0.refl _ | apply Drawn0.step)⟩
            · rw [if_neg c12] at H
              have c12b0 : (t251 == t247) = false := beq_eq_false_iff_ne.mpr c12
              have c12b1 : (t251 != t247) = true := bne_iff_ne.mpr c12
              obtain rfl := Option.some.inj H
              go_enter Try.func9, Try.ntmps9
              go_wp2_with (first | ((with_reducible refine gate_callee (f := 24) rfl ?_); refine goesL_ (some 14) rfl rfl Try.func24 (by kernel_rfl) rfl #[] rfl (by (try simp only [List.map_toArray, List.map_cons, List.map_nil]); first | done | rfl | (simp only [List.length_drop, List.length_take]; rfl)) ?_; (with_reducible refine (anneallaw1_known.calls k  true _ A3.out).mono ?_); rintro e w' ⟨rfl, ⟨nd, rfl⟩⟩; refine ⟨_, rfl, ?_⟩) | ((with_reducible refine gate_callee (f := 27) rfl ?_); refine goesL_ (some 19) rfl rfl Try.func27 (by kernel_rfl) rfl #[.int .u64 a0, .int .u64 a1] rfl (by (try simp only [List.map_toArray, List.map_cons, List.map_nil]); first | done | rfl | (simp only [List.length_drop, List.length_take]; rfl)) ?_; (with_reducible refine (bits_Product.calls a0 a1 t247 t248 _ A5.out).mono ?_); rintro e w' ⟨rfl, ⟨nd, rfl⟩⟩; refine ⟨_, rfl, ?_⟩) | ((with_reducible refine gate_callee (f := 27) rfl ?_); refine goesL_ (some 26) rfl rfl Try.func27 (by kernel_rfl) rfl #[.int .u64 a0, .int .u64 (a1 / 2)] rfl (by (try simp only [List.map_toArray, List.map_cons, List.map_nil]); first | done | rfl | (simp only [List.length_drop, List.length_take]; rfl)) ?_; (with_reducible refine (bits_Product.calls a0 (a1 / 2) t249 t250 _ A6.out).mono ?_); rintro e w' ⟨rfl, ⟨nd, rfl⟩⟩; refine ⟨_, rfl, ?_⟩) | ((with_reducible refine gate_callee (f := 27) rfl ?_); refine goesL_ (some 51) rfl rfl Try.func27 (by kernel_rfl) rfl #[.int .u64 a1, .int .u64 a0] rfl (by (try simp only [List.map_toArray, List.map_cons, List.map_nil]); first | done | rfl | (simp only [List.length_drop, List.length_take]; rfl)) ?_; (with_reducible refine (bits_Product.calls a1 a0 t251 t252 _ A9.out).mono ?_); rintro e w' ⟨rfl, ⟨nd, rfl⟩⟩; refine ⟨_, rfl, ?_⟩))
              go_ret
              exact ⟨by first | rfl | (simp; done) | (simp [*]; done) | (congr 1; (try unfold wrap64); omega), by repeat (first | exact Drawn0.refl _ | apply Drawn0.step)⟩
          · rw [if_neg c11] at H
            have c11b0 : (t248 == (IntKind.u64.wrap ((IntKind.u64.wrap (t250 * 2)) + a0))) = false := beq_eq_false_iff_ne.mpr c11
            have c11b1 : (t248 != (IntKind.u64.wrap ((IntKind.u64.wrap (t250 * 2)) + a0))) = true := bne_iff_ne.mpr c11
            obtain rfl := Option.some.inj H
            go_enter Try.func9, Try.ntmps9
            go_wp2_with (first | ((with_reducible refine gate_callee (f := 24) rfl ?_); refine goesL_ (some 14) rfl rfl Try.func24 (by kernel_rfl) rfl #[] rfl (by (try simp only [List.map_toArray, List.map_cons, List.map_nil]); first | done | rfl | (simp only [List.length_drop, List.length_take]; rfl)) ?_; (with_reducible refine (anneallaw1_known.calls k  true _ A3.out).mono ?_); rintro e w' ⟨rfl, ⟨nd, rfl⟩⟩; refine ⟨_, rfl, ?_⟩) | ((with_reducible refine gate_callee (f := 27) rfl ?_); refine goesL_ (some 19) rfl rfl Try.func27 (by kernel_rfl) rfl #[.int .u64 a0, .int .u64 a1] rfl (by (try simp only [List.map_toArray, List.map_cons, List.map_nil]); first | done | rfl | (simp only [List.length_drop, List.length_take]; rfl)) ?_; (with_reducible refine (bits_Product.calls a0 a1 t247 t248 _ A5.out).mono ?_); rintro e w' ⟨rfl, ⟨nd, rfl⟩⟩; refine ⟨_, rfl, ?_⟩) | ((with_reducible refine gate_callee (f := 27) rfl ?_); refine goesL_ (some 26) rfl rfl Try.func27 (by kernel_rfl) rfl #[.int .u64 a0, .int .u64 (a1 / 2)] rfl (by (try simp only [List.map_toArray, List.map_cons, List.map_nil]); first | done | rfl | (simp only [List.length_drop, List.length_take]; rfl)) ?_; (with_reducible refine (bits_Product.calls a0 (a1 / 2) t249 t250 _ A6.out).mono ?_); rintro e w' ⟨rfl, ⟨nd, rfl⟩⟩; refine ⟨_, rfl, ?_⟩) | ((with_reducible refine gate_callee (f := 27) rfl ?_); refine goesL_ (some 51) rfl rfl Try.func27 (by kernel_rfl) rfl #[.int .u64 a1, .int .u64 a0] rfl (by (try simp only [List.map_toArray, List.map_cons, List.map_nil]); first | done | rfl | (simp only [List.length_drop, List.length_take]; rfl)) ?_; (with_reducible refine (bits_Product.calls a1 a0 t251 t252 _ A9.out).mono ?_); rintro e w' ⟨rfl, ⟨nd, rfl⟩⟩; refine ⟨_, rfl, ?_⟩))
            go_ret
            exact ⟨by first | rfl | (simp; done) | (simp [*]; done) | (congr 1; (try unfold wrap64); omega), by repeat (first | exact Drawn0.refl _ | apply Drawn0.step)⟩
        · rw [if_neg c10] at H
          have c10b0 : (t247 == (IntKind.u64.wrap ((Go.bits .or .u64 (IntKind.u64.wrap (t249 * 2)) (t250 / 9223372036854775808)) + 1))) = false := beq_eq_false_iff_ne.mpr c10
          have c10b1 : (t247 != (IntKind.u64.wrap ((Go.bits .or .u64 (IntKind.u64.wrap (t249 * 2)) (t250 / 9223372036854775808)) + 1))) = true := bne_iff_ne.mpr c10
          obtain rfl := Option.some.inj H
          go_enter Try.func9, Try.ntmps9
          go_wp2_with (first | ((with_reducible refine gate_callee (f := 24) rfl ?_); refine goesL_ (some 14) rfl rfl Try.func24 (by kernel_rfl) rfl #[] rfl (by (try simp only [List.map_toArray, List.map_cons, List.map_nil]); first | done | rfl | (simp only [List.length_drop, List.length_take]; rfl)) ?_; (with_reducible refine (anneallaw1_known.calls k  true _ A3.out).mono ?_); rintro e w' ⟨rfl, ⟨nd, rfl⟩⟩; refine ⟨_, rfl, ?_⟩) | ((with_reducible refine gate_callee (f := 27) rfl ?_); refine goesL_ (some 19) rfl rfl Try.func27 (by kernel_rfl) rfl #[.int .u64 a0, .int .u64 a1] rfl (by (try simp only [List.map_toArray, List.map_cons, List.map_nil]); first | done | rfl | (simp only [List.length_drop, List.length_take]; rfl)) ?_; (with_reducible refine (bits_Product.calls a0 a1 t247 t248 _ A5.out).mono ?_); rintro e w' ⟨rfl, ⟨nd, rfl⟩⟩; refine ⟨_, rfl, ?_⟩) | ((with_reducible refine gate_callee (f := 27) rfl ?_); refine goesL_ (some 26) rfl rfl Try.func27 (by kernel_rfl) rfl #[.int .u64 a0, .int .u64 (a1 / 2)] rfl (by (try simp only [List.map_toArray, List.map_cons, List.map_nil]); first | done | rfl | (simp only [List.length_drop, List.length_take]; rfl)) ?_; (with_reducible refine (bits_Product.calls a0 (a1 / 2) t249 t250 _ A6.out).mono ?_); rintro e w' ⟨rfl, ⟨nd, rfl⟩⟩; refine ⟨_, rfl, ?_⟩) | ((with_reducible refine gate_callee (f := 27) rfl ?_); refine goesL_ (some 51) rfl rfl Try.func27 (by kernel_rfl) rfl #[.int .u64 a1, .int .u64 a0] rfl (by (try simp only [List.map_toArray, List.map_cons, List.map_nil]); first | done | rfl | (simp only [List.length_drop, List.length_take]; rfl)) ?_; (with_reducible refine (bits_Product.calls a1 a0 t251 t252 _ A9.out).mono ?_); rintro e w' ⟨rfl, ⟨nd, rfl⟩⟩; refine ⟨_, rfl, ?_⟩))
          go_ret
          exact ⟨by first | rfl | (simp; done) | (simp [*]; done) | (congr 1; (try unfold wrap64); omega), by repeat (first | exact Drawn0.refl _ | apply Drawn0.step)⟩
      · rw [if_neg c8] at H
        have c8b0 : decide ((IntKind.u64.wrap ((IntKind.u64.wrap (t250 * 2)) + a0)) < (IntKind.u64.wrap (t250 * 2))) = false := decide_eq_false c8
        clear c8
        replace H := Option.bind_eq_some_iff.mp H
        obtain ⟨⟨t253, t254⟩, A130, H⟩ := H
        replace H : (if t247 = (Go.bits .or .u64 (IntKind.u64.wrap (t249 * 2)) (t250 / 9223372036854775808)) then (if t248 = (IntKind.u64.wrap ((IntKind.u64.wrap (t250 * 2)) + a0)) then (if t253 = t247 then (some (t254 == t248)) else (some false)) else (some false)) else (some false)) = some r := H
        have A13 := Aside0.mk A130
        clear A130
        by_cases c14 : t247 = (Go.bits .or .u64 (IntKind.u64.wrap (t249 * 2)) (t250 / 9223372036854775808))
        · rw [if_pos c14] at H
          have c14b0 : (t247 == (Go.bits .or .u64 (IntKind.u64.wrap (t249 * 2)) (t250 / 9223372036854775808))) = true := beq_iff_eq.mpr c14
          have c14b1 : (t247 != (Go.bits .or .u64 (IntKind.u64.wrap (t249 * 2)) (t250 / 9223372036854775808))) = false := bne_eq_false_iff_eq.mpr c14
          clear c14
          by_cases c15 : t248 = (IntKind.u64.wrap ((IntKind.u64.wrap (t250 * 2)) + a0))
          · rw [if_pos c15] at H
            have c15b0 : (t248 == (IntKind.u64.wrap ((IntKind.u64.wrap (t250 * 2)) + a0))) = true := beq_iff_eq.mpr c15
            have c15b1 : (t248 != (IntKind.u64.wrap ((IntKind.u64.wrap (t250 * 2)) + a0))) = false := bne_eq_false_iff_eq.mpr c15
            clear c15
            by_cases c16 : t253 = t247
            · rw [if_pos c16] at H
              have c16b0 : (t253 == t247) = true := beq_iff_eq.mpr c16
              have c16b1 : (t253 != t247) = false := bne_eq_false_iff_eq.mpr c16
              clear c16
              obtain rfl := Option.some.inj H
              go_enter Try.func9, Try.ntmps9
              go_wp2_with (first | ((with_reducible refine gate_callee (f := 24) rfl ?_); refine goesL_ (some 14) rfl rfl Try.func24 (by kernel_rfl) rfl #[] rfl (by (try simp only [List.map_toArray, List.map_cons, List.map_nil]); first | done | rfl | (simp only [List.length_drop, List.length_take]; rfl)) ?_; (with_reducible refine (anneallaw1_known.calls k  true _ A3.out).mono ?_); rintro e w' ⟨rfl, ⟨nd, rfl⟩⟩; refine ⟨_, rfl, ?_⟩) | ((with_reducible refine gate_callee (f := 27) rfl ?_); refine goesL_ (some 19) rfl rfl Try.func27 (by kernel_rfl) rfl #[.int .u64 a0, .int .u64 a1] rfl (by (try simp only [List.map_toArray, List.map_cons, List.map_nil]); first | done | rfl | (simp only [List.length_drop, List.length_take]; rfl)) ?_; (with_reducible refine (bits_Product.calls a0 a1 t247 t248 _ A5.out).mono ?_); rintro e w' ⟨rfl, ⟨nd, rfl⟩⟩; refine ⟨_, rfl, ?_⟩) | ((with_reducible refine gate_callee (f := 27) rfl ?_); refine goesL_ (some 26) rfl rfl Try.func27 (by kernel_rfl) rfl #[.int .u64 a0, .int .u64 (a1 / 2)] rfl (by (try simp only [List.map_toArray, List.map_cons, List.map_nil]); first | done | rfl | (simp only [List.length_drop, List.length_take]; rfl)) ?_; (with_reducible refine (bits_Product.calls a0 (a1 / 2) t249 t250 _ A6.out).mono ?_); rintro e w' ⟨rfl, ⟨nd, rfl⟩⟩; refine ⟨_, rfl, ?_⟩) | ((with_reducible refine gate_callee (f := 27) rfl ?_); refine goesL_ (some 51) rfl rfl Try.func27 (by kernel_rfl) rfl #[.int .u64 a1, .int .u64 a0] rfl (by (try simp only [List.map_toArray, List.map_cons, List.map_nil]); first | done | rfl | (simp only [List.length_drop, List.length_take]; rfl)) ?_; (with_reducible refine (bits_Product.calls a1 a0 t253 t254 _ A13.out).mono ?_); rintro e w' ⟨rfl, ⟨nd, rfl⟩⟩; refine ⟨_, rfl, ?_⟩))
              go_ret
              exact ⟨by first | rfl | (simp; done) | (simp [*]; done) | (congr 1; (try unfold wrap64); omega), by repeat (first | exact Drawn0.refl _ | apply Drawn0.step)⟩
            · rw [if_neg c16] at H
              have c16b0 : (t253 == t247) = false := beq_eq_false_iff_ne.mpr c16
              have c16b1 : (t253 != t247) = true := bne_iff_ne.mpr c16
              obtain rfl := Option.some.inj H
              go_enter Try.func9, Try.ntmps9
              go_wp2_with (first | ((with_reducible refine gate_callee (f := 24) rfl ?_); refine goesL_ (some 14) rfl rfl Try.func24 (by kernel_rfl) rfl #[] rfl (by (try simp only [List.map_toArray, List.map_cons, List.map_nil]); first | done | rfl | (simp only [List.length_drop, List.length_take]; rfl)) ?_; (with_reducible refine (anneallaw1_known.calls k  true _ A3.out).mono ?_); rintro e w' ⟨rfl, ⟨nd, rfl⟩⟩; refine ⟨_, rfl, ?_⟩) | ((with_reducible refine gate_callee (f := 27) rfl ?_); refine goesL_ (some 19) rfl rfl Try.func27 (by kernel_rfl) rfl #[.int .u64 a0, .int .u64 a1] rfl (by (try simp only [List.map_toArray, List.map_cons, List.map_nil]); first | done | rfl | (simp only [List.length_drop, List.length_take]; rfl)) ?_; (with_reducible refine (bits_Product.calls a0 a1 t247 t248 _ A5.out).mono ?_); rintro e w' ⟨rfl, ⟨nd, rfl⟩⟩; refine ⟨_, rfl, ?_⟩) | ((with_reducible refine gate_callee (f := 27) rfl ?_); refine goesL_ (some 26) rfl rfl Try.func27 (by kernel_rfl) rfl #[.int .u64 a0, .int .u64 (a1 / 2)] rfl (by (try simp only [List.map_toArray, List.map_cons, List.map_nil]); first | done | rfl | (simp only [List.length_drop, List.length_take]; rfl)) ?_; (with_reducible refine (bits_Product.calls a0 (a1 / 2) t249 t250 _ A6.out).mono ?_); rintro e w' ⟨rfl, ⟨nd, rfl⟩⟩; refine ⟨_, rfl, ?_⟩) | ((with_reducible refine gate_callee (f := 27) rfl ?_); refine goesL_ (some 51) rfl rfl Try.func27 (by kernel_rfl) rfl #[.int .u64 a1, .int .u64 a0] rfl (by (try simp only [List.map_toArray, List.map_cons, List.map_nil]); first | done | rfl | (simp only [List.length_drop, List.length_take]; rfl)) ?_; (with_reducible refine (bits_Product.calls a1 a0 t253 t254 _ A13.out).mono ?_); rintro e w' ⟨rfl, ⟨nd, rfl⟩⟩; refine ⟨_, rfl, ?_⟩))
              go_ret
              exact ⟨by first | rfl | (simp; done) | (simp [*]; done) | (congr 1; (try unfold wrap64); omega), by repeat (first | exact Drawn0.refl _ | apply Drawn0.step)⟩
          · rw [if_neg c15] at H
            have c15b0 : (t248 == (IntKind.u64.wrap ((IntKind.u64.wrap (t250 * 2)) + a0))) = false := beq_eq_false_iff_ne.mpr c15
            have c15b1 : (t248 != (IntKind.u64.wrap ((IntKind.u64.wrap (t250 * 2)) + a0))) = true := bne_iff_ne.mpr c15
            obtain rfl := Option.some.inj H
            go_enter Try.func9, Try.ntmps9
            go_wp2_with (first | ((with_reducible refine gate_callee (f := 24) rfl ?_); refine goesL_ (some 14) rfl rfl Try.func24 (by kernel_rfl) rfl #[] rfl (by (try simp only [List.map_toArray, List.map_cons, List.map_nil]); first | done | rfl | (simp only [List.length_drop, List.length_take]; rfl)) ?_; (with_reducible refine (anneallaw1_known.calls k  true _ A3.out).mono ?_); rintro e w' ⟨rfl, ⟨nd, rfl⟩⟩; refine ⟨_, rfl, ?_⟩) | ((with_reducible refine gate_callee (f := 27) rfl ?_); refine goesL_ (some 19) rfl rfl Try.func27 (by kernel_rfl) rfl #[.int .u64 a0, .int .u64 a1] rfl (by (try simp only [List.map_toArray, List.map_cons, List.map_nil]); first | done | rfl | (simp only [List.length_drop, List.length_take]; rfl)) ?_; (with_reducible refine (bits_Product.calls a0 a1 t247 t248 _ A5.out).mono ?_); rintro e w' ⟨rfl, ⟨nd, rfl⟩⟩; refine ⟨_, rfl, ?_⟩) | ((with_reducible refine gate_callee (f := 27) rfl ?_); refine goesL_ (some 26) rfl rfl Try.func27 (by kernel_rfl) rfl #[.int .u64 a0, .int .u64 (a1 / 2)] rfl (by (try simp only [List.map_toArray, List.map_cons, List.map_nil]); first | done | rfl | (simp only [List.length_drop, List.length_take]; rfl)) ?_; (with_reducible refine (bits_Product.calls a0 (a1 / 2) t249 t250 _ A6.out).mono ?_); rintro e w' ⟨rfl, ⟨nd, rfl⟩⟩; refine ⟨_, rfl, ?_⟩) | ((with_reducible refine gate_callee (f := 27) rfl ?_); refine goesL_ (some 51) rfl rfl Try.func27 (by kernel_rfl) rfl #[.int .u64 a1, .int .u64 a0] rfl (by (try simp only [List.map_toArray, List.map_cons, List.map_nil]); first | done | rfl | (simp only [List.length_drop, List.length_take]; rfl)) ?_; (with_reducible refine (bits_Product.calls a1 a0 t253 t254 _ A13.out).mono ?_); rintro e w' ⟨rfl, ⟨nd, rfl⟩⟩; refine ⟨_, rfl, ?_⟩))
            go_ret
            exact ⟨by first | rfl | (simp; done) | (simp [*]; done) | (congr 1; (try unfold wrap64); omega), by repeat (first | exact Drawn0.refl _ | apply Drawn0.step)⟩
        · rw [if_neg c14] at H
          have c14b0 : (t247 == (Go.bits .or .u64 (IntKind.u64.wrap (t249 * 2)) (t250 / 9223372036854775808))) = false := beq_eq_false_iff_ne.mpr c14
          have c14b1 : (t247 != (Go.bits .or .u64 (IntKind.u64.wrap (t249 * 2)) (t250 / 9223372036854775808))) = true := bne_iff_ne.mpr c14
          obtain rfl := Option.some.inj H
          go_enter Try.func9, Try.ntmps9
          go_wp2_with (first | ((with_reducible refine gate_callee (f := 24) rfl ?_); refine goesL_ (some 14) rfl rfl Try.func24 (by kernel_rfl) rfl #[] rfl (by (try simp only [List.map_toArray, List.map_cons, List.map_nil]); first | done | rfl | (simp only [List.length_drop, List.length_take]; rfl)) ?_; (with_reducible refine (anneallaw1_known.calls k  true _ A3.out).mono ?_); rintro e w' ⟨rfl, ⟨nd, rfl⟩⟩; refine ⟨_, rfl, ?_⟩) | ((with_reducible refine gate_callee (f := 27) rfl ?_); refine goesL_ (some 19) rfl rfl Try.func27 (by kernel_rfl) rfl #[.int .u64 a0, .int .u64 a1] rfl (by (try simp only [List.map_toArray, List.map_cons, List.map_nil]); first | done | rfl | (simp only [List.length_drop, List.length_take]; rfl)) ?_; (with_reducible refine (bits_Product.calls a0 a1 t247 t248 _ A5.out).mono ?_); rintro e w' ⟨rfl, ⟨nd, rfl⟩⟩; refine ⟨_, rfl, ?_⟩) | ((with_reducible refine gate_callee (f := 27) rfl ?_); refine goesL_ (some 26) rfl rfl Try.func27 (by kernel_rfl) rfl #[.int .u64 a0, .int .u64 (a1 / 2)] rfl (by (try simp only [List.map_toArray, List.map_cons, List.map_nil]); first | done | rfl | (simp only [List.length_drop, List.length_take]; rfl)) ?_; (with_reducible refine (bits_Product.calls a0 (a1 / 2) t249 t250 _ A6.out).mono ?_); rintro e w' ⟨rfl, ⟨nd, rfl⟩⟩; refine ⟨_, rfl, ?_⟩) | ((with_reducible refine gate_callee (f := 27) rfl ?_); refine goesL_ (some 51) rfl rfl Try.func27 (by kernel_rfl) rfl #[.int .u64 a1, .int .u64 a0] rfl (by (try simp only [List.map_toArray, List.map_cons, List.map_nil]); first | done | rfl | (simp only [List.length_drop, List.length_take]; rfl)) ?_; (with_reducible refine (bits_Product.calls a1 a0 t253 t254 _ A13.out).mono ?_); rintro e w' ⟨rfl, ⟨nd, rfl⟩⟩; refine ⟨_, rfl, ?_⟩))
          go_ret
          exact ⟨by first | rfl | (simp; done) | (simp [*]; done) | (congr 1; (try unfold wrap64); omega), by repeat (first | exact Drawn0.refl _ | apply Drawn0.step)⟩
    · rw [if_neg c7] at H
      have c7b0 : ((Go.bits .and .u64 a1 1) == 1) = false := beq_eq_false_iff_ne.mpr c7
      have c7b1 : ((Go.bits .and .u64 a1 1) != 1) = true := bne_iff_ne.mpr c7
      replace H := Option.bind_eq_some_iff.mp H
      obtain ⟨⟨t255, t256⟩, A170, H⟩ := H
      replace H : (if t247 = (Go.bits .or .u64 (IntKind.u64.wrap (t249 * 2)) (t250 / 9223372036854775808)) then (if t248 = (IntKind.u64.wrap (t250 * 2)) then (if t255 = t247 then (some (t256 == t248)) else (some false)) else (some false)) else (some false)) = some r := H
      have A17 := Aside0.mk A170
      clear A170
      by_cases c18 : t247 = (Go.bits .or .u64 (IntKind.u64.wrap (t249 * 2)) (t250 / 9223372036854775808))
      · rw [if_pos c18] at H
        have c18b0 : (t247 == (Go.bits .or .u64 (IntKind.u64.wrap (t249 * 2)) (t250 / 9223372036854775808))) = true := beq_iff_eq.mpr c18
        have c18b1 : (t247 != (Go.bits .or .u64 (IntKind.u64.wrap (t249 * 2)) (t250 / 9223372036854775808))) = false := bne_eq_false_iff_eq.mpr c18
        clear c18
        by_cases c19 : t248 = (IntKind.u64.wrap (t250 * 2))
        · rw [if_pos c19] at H
          have c19b0 : (t248 == (IntKind.u64.wrap (t250 * 2))) = true := beq_iff_eq.mpr c19
          have c19b1 : (t248 != (IntKind.u64.wrap (t250 * 2))) = false := bne_eq_false_iff_eq.mpr c19
          clear c19
          by_cases c20 : t255 = t247
          · rw [if_pos c20] at H
            have c20b0 : (t255 == t247) = true := beq_iff_eq.mpr c20
            have c20b1 : (t255 != t247) = false := bne_eq_false_iff_eq.mpr c20
            clear c20
            obtain rfl := Option.some.inj H
            go_enter Try.func9, Try.ntmps9
            go_wp2_with (first | ((with_reducible refine gate_callee (f := 24) rfl ?_); refine goesL_ (some 14) rfl rfl Try.func24 (by kernel_rfl) rfl #[] rfl (by (try simp only [List.map_toArray, List.map_cons, List.map_nil]); first | done | rfl | (simp only [List.length_drop, List.length_take]; rfl)) ?_; (with_reducible refine (anneallaw1_known.calls k  true _ A3.out).mono ?_); rintro e w' ⟨rfl, ⟨nd, rfl⟩⟩; refine ⟨_, rfl, ?_⟩) | ((with_reducible refine gate_callee (f := 27) rfl ?_); refine goesL_ (some 19) rfl rfl Try.func27 (by kernel_rfl) rfl #[.int .u64 a0, .int .u64 a1] rfl (by (try simp only [List.map_toArray, List.map_cons, List.map_nil]); first | done | rfl | (simp only [List.length_drop, List.length_take]; rfl)) ?_; (with_reducible refine (bits_Product.calls a0 a1 t247 t248 _ A5.out).mono ?_); rintro e w' ⟨rfl, ⟨nd, rfl⟩⟩; refine ⟨_, rfl, ?_⟩) | ((with_reducible refine gate_callee (f := 27) rfl ?_); refine goesL_ (some 26) rfl rfl Try.func27 (by kernel_rfl) rfl #[.int .u64 a0, .int .u64 (a1 / 2)] rfl (by (try simp only [List.map_toArray, List.map_cons, List.map_nil]); first | done | rfl | (simp only [List.length_drop, List.length_take]; rfl)) ?_; (with_reducible refine (bits_Product.calls a0 (a1 / 2) t249 t250 _ A6.out).mono ?_); rintro e w' ⟨rfl, ⟨nd, rfl⟩⟩; refine ⟨_, rfl, ?_⟩) | ((with_reducible refine gate_callee (f := 27) rfl ?_); refine goesL_ (some 51) rfl rfl Try.func27 (by kernel_rfl) rfl #[.int .u64 a1, .int .u64 a0] rfl (by (try simp only [List.map_toArray, List.map_cons, List.map_nil]); first | done | rfl | (simp only [List.length_drop, List.length_take]; rfl)) ?_; (with_reducible refine (bits_Product.calls a1 a0 t255 t256 _ A17.out).mono ?_); rintro e w' ⟨rfl, ⟨nd, rfl⟩⟩; refine ⟨_, rfl, ?_⟩))
            go_ret
            exact ⟨by first | rfl | (simp; done) | (simp [*]; done) | (congr 1; (try unfold wrap64); omega), by repeat (first | exact Drawn0.refl _ | apply Drawn0.step)⟩
          · rw [if_neg c20] at H
            have c20b0 : (t255 == t247) = false := beq_eq_false_iff_ne.mpr c20
            have c20b1 : (t255 != t247) = true := bne_iff_ne.mpr c20
            obtain rfl := Option.some.inj H
            go_enter Try.func9, Try.ntmps9
            go_wp2_with (first | ((with_reducible refine gate_callee (f := 24) rfl ?_); refine goesL_ (some 14) rfl rfl Try.func24 (by kernel_rfl) rfl #[] rfl (by (try simp only [List.map_toArray, List.map_cons, List.map_nil]); first | done | rfl | (simp only [List.length_drop, List.length_take]; rfl)) ?_; (with_reducible refine (anneallaw1_known.calls k  true _ A3.out).mono ?_); rintro e w' ⟨rfl, ⟨nd, rfl⟩⟩; refine ⟨_, rfl, ?_⟩) | ((with_reducible refine gate_callee (f := 27) rfl ?_); refine goesL_ (some 19) rfl rfl Try.func27 (by kernel_rfl) rfl #[.int .u64 a0, .int .u64 a1] rfl (by (try simp only [List.map_toArray, List.map_cons, List.map_nil]); first | done | rfl | (simp only [List.length_drop, List.length_take]; rfl)) ?_; (with_reducible refine (bits_Product.calls a0 a1 t247 t248 _ A5.out).mono ?_); rintro e w' ⟨rfl, ⟨nd, rfl⟩⟩; refine ⟨_, rfl, ?_⟩) | ((with_reducible refine gate_callee (f := 27) rfl ?_); refine goesL_ (some 26) rfl rfl Try.func27 (by kernel_rfl) rfl #[.int .u64 a0, .int .u64 (a1 / 2)] rfl (by (try simp only [List.map_toArray, List.map_cons, List.map_nil]); first | done | rfl | (simp only [List.length_drop, List.length_take]; rfl)) ?_; (with_reducible refine (bits_Product.calls a0 (a1 / 2) t249 t250 _ A6.out).mono ?_); rintro e w' ⟨rfl, ⟨nd, rfl⟩⟩; refine ⟨_, rfl, ?_⟩) | ((with_reducible refine gate_callee (f := 27) rfl ?_); refine goesL_ (some 51) rfl rfl Try.func27 (by kernel_rfl) rfl #[.int .u64 a1, .int .u64 a0] rfl (by (try simp only [List.map_toArray, List.map_cons, List.map_nil]); first | done | rfl | (simp only [List.length_drop, List.length_take]; rfl)) ?_; (with_reducible refine (bits_Product.calls a1 a0 t255 t256 _ A17.out).mono ?_); rintro e w' ⟨rfl, ⟨nd, rfl⟩⟩; refine ⟨_, rfl, ?_⟩))
            go_ret
            exact ⟨by first | rfl | (simp; done) | (simp [*]; done) | (congr 1; (try unfold wrap64); omega), by repeat (first | exact Drawn0.refl _ | apply Drawn0.step)⟩
        · rw [if_neg c19] at H
          have c19b0 : (t248 == (IntKind.u64.wrap (t250 * 2))) = false := beq_eq_false_iff_ne.mpr c19
          have c19b1 : (t248 != (IntKind.u64.wrap (t250 * 2))) = true := bne_iff_ne.mpr c19
          obtain rfl := Option.some.inj H
          go_enter Try.func9, Try.ntmps9
          go_wp2_with (first | ((with_reducible refine gate_callee (f := 24) rfl ?_); refine goesL_ (some 14) rfl rfl Try.func24 (by kernel_rfl) rfl #[] rfl (by (try simp only [List.map_toArray, List.map_cons, List.map_nil]); first | done | rfl | (simp only [List.length_drop, List.length_take]; rfl)) ?_; (with_reducible refine (anneallaw1_known.calls k  true _ A3.out).mono ?_); rintro e w' ⟨rfl, ⟨nd, rfl⟩⟩; refine ⟨_, rfl, ?_⟩) | ((with_reducible refine gate_callee (f := 27) rfl ?_); refine goesL_ (some 19) rfl rfl Try.func27 (by kernel_rfl) rfl #[.int .u64 a0, .int .u64 a1] rfl (by (try simp only [List.map_toArray, List.map_cons, List.map_nil]); first | done | rfl | (simp only [List.length_drop, List.length_take]; rfl)) ?_; (with_reducible refine (bits_Product.calls a0 a1 t247 t248 _ A5.out).mono ?_); rintro e w' ⟨rfl, ⟨nd, rfl⟩⟩; refine ⟨_, rfl, ?_⟩) | ((with_reducible refine gate_callee (f := 27) rfl ?_); refine goesL_ (some 26) rfl rfl Try.func27 (by kernel_rfl) rfl #[.int .u64 a0, .int .u64 (a1 / 2)] rfl (by (try simp only [List.map_toArray, List.map_cons, List.map_nil]); first | done | rfl | (simp only [List.length_drop, List.length_take]; rfl)) ?_; (with_reducible refine (bits_Product.calls a0 (a1 / 2) t249 t250 _ A6.out).mono ?_); rintro e w' ⟨rfl, ⟨nd, rfl⟩⟩; refine ⟨_, rfl, ?_⟩) | ((with_reducible refine gate_callee (f := 27) rfl ?_); refine goesL_ (some 51) rfl rfl Try.func27 (by kernel_rfl) rfl #[.int .u64 a1, .int .u64 a0] rfl (by (try simp only [List.map_toArray, List.map_cons, List.map_nil]); first | done | rfl | (simp only [List.length_drop, List.length_take]; rfl)) ?_; (with_reducible refine (bits_Product.calls a1 a0 t255 t256 _ A17.out).mono ?_); rintro e w' ⟨rfl, ⟨nd, rfl⟩⟩; refine ⟨_, rfl, ?_⟩))
          go_ret
          exact ⟨by first | rfl | (simp; done) | (simp [*]; done) | (congr 1; (try unfold wrap64); omega), by repeat (first | exact Drawn0.refl _ | apply Drawn0.step)⟩
      · rw [if_neg c18] at H
        have c18b0 : (t247 == (Go.bits .or .u64 (IntKind.u64.wrap (t249 * 2)) (t250 / 9223372036854775808))) = false := beq_eq_false_iff_ne.mpr c18
        have c18b1 : (t247 != (Go.bits .or .u64 (IntKind.u64.wrap (t249 * 2)) (t250 / 9223372036854775808))) = true := bne_iff_ne.mpr c18
        obtain rfl := Option.some.inj H
        go_enter Try.func9, Try.ntmps9
        go_wp2_with (first | ((with_reducible refine gate_callee (f := 24) rfl ?_); refine goesL_ (some 14) rfl rfl Try.func24 (by kernel_rfl) rfl #[] rfl (by (try simp only [List.map_toArray, List.map_cons, List.map_nil]); first | done | rfl | (simp only [List.length_drop, List.length_take]; rfl)) ?_; (with_reducible refine (anneallaw1_known.calls k  true _ A3.out).mono ?_); rintro e w' ⟨rfl, ⟨nd, rfl⟩⟩; refine ⟨_, rfl, ?_⟩) | ((with_reducible refine gate_callee (f := 27) rfl ?_); refine goesL_ (some 19) rfl rfl Try.func27 (by kernel_rfl) rfl #[.int .u64 a0, .int .u64 a1] rfl (by (try simp only [List.map_toArray, List.map_cons, List.map_nil]); first | done | rfl | (simp only [List.length_drop, List.length_take]; rfl)) ?_; (with_reducible refine (bits_Product.calls a0 a1 t247 t248 _ A5.out).mono ?_); rintro e w' ⟨rfl, ⟨nd, rfl⟩⟩; refine ⟨_, rfl, ?_⟩) | ((with_reducible refine gate_callee (f := 27) rfl ?_); refine goesL_ (some 26) rfl rfl Try.func27 (by kernel_rfl) rfl #[.int .u64 a0, .int .u64 (a1 / 2)] rfl (by (try simp only [List.map_toArray, List.map_cons, List.map_nil]); first | done | rfl | (simp only [List.length_drop, List.length_take]; rfl)) ?_; (with_reducible refine (bits_Product.calls a0 (a1 / 2) t249 t250 _ A6.out).mono ?_); rintro e w' ⟨rfl, ⟨nd, rfl⟩⟩; refine ⟨_, rfl, ?_⟩) | ((with_reducible refine gate_callee (f := 27) rfl ?_); refine goesL_ (some 51) rfl rfl Try.func27 (by kernel_rfl) rfl #[.int .u64 a1, .int .u64 a0] rfl (by (try simp only [List.map_toArray, List.map_cons, List.map_nil]); first | done | rfl | (simp only [List.length_drop, List.length_take]; rfl)) ?_; (with_reducible refine (bits_Product.calls a1 a0 t255 t256 _ A17.out).mono ?_); rintro e w' ⟨rfl, ⟨nd, rfl⟩⟩; refine ⟨_, rfl, ?_⟩))
        go_ret
        exact ⟨by first | rfl | (simp; done) | (simp [*]; done) | (congr 1; (try unfold wrap64); omega), by repeat (first | exact Drawn0.refl _ | apply Drawn0.step)⟩
  · replace c4 := Bool.eq_false_iff.mpr c4
    subst c4
    have H1 : (some false) = some r := by rw [if_neg (show ¬ (false = true) by decide)] at H; exact H
    clear H
    have H := H1
    clear H1
    obtain rfl := Option.some.inj H
    go_enter Try.func9, Try.ntmps9
    go_wp2_with (first | ((with_reducible refine gate_callee (f := 24) rfl ?_); refine goesL_ (some 14) rfl rfl Try.func24 (by kernel_rfl) rfl #[] rfl (by (try simp only [List.map_toArray, List.map_cons, List.map_nil]); first | done | rfl | (simp only [List.length_drop, List.length_take]; rfl)) ?_; (with_reducible refine (anneallaw1_known.calls k  false _ A3.out).mono ?_); rintro e w' ⟨rfl, ⟨nd, rfl⟩⟩; refine ⟨_, rfl, ?_⟩))
    go_ret
    exact ⟨by first | rfl | (simp; done) | (simp [*]; done) | (congr 1; (try unfold wrap64); omega), by repeat (first | exact Drawn0.refl _ | apply Drawn0.step)⟩

/-- THE ONE PURE STATEMENT of anneallaw1_BitsProduct: yours. -/
def anneallaw1_BitsProduct.Pure : Prop := ∀ (a0 : Int) (a1 : Int), (Lit.int .u64 a0).wf = true → (Lit.int .u64 a1).wf = true → ∃ k, anneallaw1_BitsProduct.f k a0 a1 = some true
theorem anneallaw1_BitsProduct.walk (P : anneallaw1_BitsProduct.Pure) (a0 : Int) (a1 : Int) (w : World) (w0 : (Lit.int .u64 a0).wf = true) (w1 : (Lit.int .u64 a1).wf = true) :
    Calls Try.prog 9 #[.int .u64 a0, .int .u64 a1] w fun e w' => e = .returned (.bool true) ∧ Below w.heap.size w w' := by
  obtain ⟨k, h⟩ := P a0 a1 w0 w1
  refine (anneallaw1_BitsProduct.calls k a0 a1 true w h).mono ?_
  rintro e w' ⟨rfl, hd⟩
  exact ⟨rfl, hd.below⟩

end Go.Proofs.Ytjmihdhclbjaeaa.P
