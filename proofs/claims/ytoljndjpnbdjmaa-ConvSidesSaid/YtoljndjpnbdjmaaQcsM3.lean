import Derived.Test.YtoljndjpnbdjmaaQcsM2
import Derived.Test.YtoljndjpnbdjmaaQcsPx23
import Derived.Test.YtoljndjpnbdjmaaQcsPx26
import Derived.Test.YtoljndjpnbdjmaaQcsPx15
import Derived.Test.YtoljndjpnbdjmaaQcsPx16
/- The reference's classes and order of any numbers: plain numbers. -/
namespace Go.Proofs.Ytoljndjpnbdjmaa.Round
open Go.RowKit Go.Proofs.Ytoljndjpnbdjmaa.P Go.Proofs.Ytoljndjpnbdjmaa.Num Go.Proofs.Ytoljndjpnbdjmaa.BitsF Go.Proofs.Ytoljndjpnbdjmaa.Fmt Go.Proofs.YtoljndjpnbdjmaaW.PrintWords Go.Proofs.YtoljndjpnbdjmaaW.PrintLast Go.Proofs.YtoljndjpnbdjmaaW.PrintMore

theorem mod_part (v a b c : Nat) (h : b + c ≤ a) : v % 2 ^ a / 2 ^ b % 2 ^ c = v / 2 ^ b % 2 ^ c := by
  apply Nat.eq_of_testBit_eq
  intro i
  rw [Nat.testBit_mod_two_pow, Nat.testBit_mod_two_pow, Nat.testBit_div_two_pow, Nat.testBit_div_two_pow, Nat.testBit_mod_two_pow]
  by_cases h1 : i < c
  · have : i + b < a := by omega
    simp [h1, this]
  · simp [h1]
theorem exp_low (f : Int) (v : Nat) : expN f (lowN f v) = expN f v := mod_part v (fe f + fm f + 1) (fm f) (fe f) (by omega)
theorem frac_low (f : Int) (v : Nat) : fracN f (lowN f v) = fracN f v := by
  have := mod_part v (fe f + fm f + 1) 0 (fm f) (by omega)
  rw [Nat.pow_zero, Nat.div_one, Nat.div_one] at this
  exact this
theorem cls_low (f : Int) (v : Nat) : clsN f (lowN f v) = clsN f v := by unfold clsN; rw [exp_low, frac_low]
theorem rclass_ev (f : Int) (v : Nat) (hv : v < 4294967296) : Ev (fun k => annealref1_Class.f k f (v : Int)) (clsN f v : Int) := by
  have := ref_class_ev f v hv; rw [cls_low] at this; exact this
def isLoud (f : Int) (v : Nat) : Bool := decide (clsN f v = 5)
theorem cls_le (f : Int) (v : Nat) : clsN f v ≤ 5 := by
  unfold clsN
  repeat' split
  all_goals omega
end Go.Proofs.Ytoljndjpnbdjmaa.Round

/- The reference's finite numbers: their whole numbers and exponents. -/
namespace Go.Proofs.Ytoljndjpnbdjmaa.Round
open Go.RowKit Go.Proofs.Ytoljndjpnbdjmaa.P Go.Proofs.Ytoljndjpnbdjmaa.Num Go.Proofs.Ytoljndjpnbdjmaa.BitsF Go.Proofs.Ytoljndjpnbdjmaa.Fmt Go.Proofs.YtoljndjpnbdjmaaW.PrintWords Go.Proofs.YtoljndjpnbdjmaaW.PrintLast Go.Proofs.YtoljndjpnbdjmaaW.PrintMore

theorem ref_finite_ev (f : Int) (v : Nat) (hv : v < 4294967296) : Ev (fun k => annealref1_Finite.f k f (v : Int)) (decide (expN f (lowN f v) < topN f)) := by
  refine Ev.congr (fun k => by unfold annealref1_Finite.f; rfl) (Ev.bind (ref_class_ev f v hv) (Ev.congr (fun k => ?_) (Ev.now _)))
  congr 1
  apply decide_eq_decide.mpr
  rw [← cls_finite]; omega
end Go.Proofs.Ytoljndjpnbdjmaa.Round
