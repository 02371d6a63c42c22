/- BitsProduct: a product's halves are those of sums of its numbers' parts, for every two numbers. -/
import Derived.Test.YtjmihdhclbjaeaaBitsH
import Derived.Test.YtjmihdhclbjaeaaPx13
namespace Go.Proofs.Ytjmihdhclbjaeaa.Pure
open Go.RowKit Go.Proofs.Ytjmihdhclbjaeaa.P Go.Proofs.Ytjmihdhclbjaeaa.Num Go.Proofs.Ytjmihdhclbjaeaa.BitsF Go.Proofs.YtjmihdhclbjaeaaW.PrintWords Go.Proofs.YtjmihdhclbjaeaaW.PrintLast Go.Proofs.YtjmihdhclbjaeaaW.PrintMore
theorem BitsProduct : anneallaw1_BitsProduct.Pure := by
  intro a0 a1 h0 h1
  obtain ⟨p0, q0⟩ := wf_u64 h0
  obtain ⟨p1, q1⟩ := wf_u64 h1
  obtain ⟨a, rfl⟩ := nat_of p0
  obtain ⟨b, rfl⟩ := nat_of p1
  have ha : a < 18446744073709551616 := by omega
  have hb : b < 18446744073709551616 := by omega
  apply Ev.rounds
  unfold anneallaw1_BitsProduct.f
  refine Ev.bind known_ev ?_
  have hh : b / 2 < 18446744073709551616 := by omega
  have hp : a * (b / 2) < 170141183460469231731687303715884105728 := Nat.lt_of_le_of_lt (Nat.mul_le_mul (show a ≤ 18446744073709551615 by omega) (show b / 2 ≤ 9223372036854775807 by omega)) (by decide)
  rw [show (b : Int) / 2 = ((b / 2 : Nat) : Int) by omega]
  have hab : a * b = 2 * (a * (b / 2)) + a * (b % 2) := by
    have := Nat.div_add_mod b 2
    calc a * b = a * (2 * (b / 2) + b % 2) := by rw [this]
      _ = 2 * (a * (b / 2)) + a * (b % 2) := by rw [Nat.mul_add, Nat.mul_left_comm]
  simp only [if_true, product_f a b ha hb, product_f b a hb ha, product_f a _ ha hh, Option.bind_some, and1_u64 b hb, Nat.mul_comm b a]
  have hm : b % 2 = 0 ∨ b % 2 = 1 := by omega
  generalize a * (b / 2) = P at *
  have e1 : IntKind.u64.wrap (((P / 18446744073709551616 : Nat) : Int) * 2) = ((P / 18446744073709551616 * 2 : Nat) : Int) := by
    rw [show ((P / 18446744073709551616 : Nat) : Int) * 2 = ((P / 18446744073709551616 * 2 : Nat) : Int) by omega, u64_id _ (by omega)]
  have e2 : ((P % 18446744073709551616 : Nat) : Int) / 9223372036854775808 = ((P % 18446744073709551616 / 9223372036854775808 : Nat) : Int) := by omega
  have e3 : Go.bits .or .u64 ((P / 18446744073709551616 * 2 : Nat) : Int) ((P % 18446744073709551616 / 9223372036854775808 : Nat) : Int) = ((P / 18446744073709551616 * 2 + P % 18446744073709551616 / 9223372036854775808 : Nat) : Int) := by
    rw [or_u64 _ _ (by omega) (by omega), or_add _ _ 1 (by omega) (by omega)]
  have e4 : IntKind.u64.wrap (((P % 18446744073709551616 : Nat) : Int) * 2) = ((P * 2 % 18446744073709551616 : Nat) : Int) := by
    rw [u64_wrap]; omega
  rw [e1, e2, e3, e4]
  rcases hm with hm | hm
  · rw [hm, Nat.mul_zero, Nat.add_zero] at hab
    rw [hm, hab]
    simp only [if_neg (show ¬ (((0 : Nat) : Int) = 1) by decide), show ((2 * P / 18446744073709551616 : Nat) : Int) = ((P / 18446744073709551616 * 2 + P % 18446744073709551616 / 9223372036854775808 : Nat) : Int) by omega, Nat.mul_comm P 2, if_true, beq_self_eq_true]
    exact Ev.now true
  · rw [hm, Nat.mul_one] at hab
    have hq : a * b < 340282366920938463463374607431768211456 := Nat.lt_of_le_of_lt (Nat.mul_le_mul (show a ≤ 18446744073709551615 by omega) (show b ≤ 18446744073709551615 by omega)) (by decide)
    have e5 : IntKind.u64.wrap (((P * 2 % 18446744073709551616 : Nat) : Int) + (a : Int)) = (((2 * P + a) % 18446744073709551616 : Nat) : Int) := by
      rw [u64_wrap]; omega
    rw [hab] at hq
    rw [hm, hab, e5]
    simp only [if_pos (show (((1 : Nat) : Int) = 1) by decide)]
    by_cases c : (((2 * P + a) % 18446744073709551616 : Nat) : Int) < ((P * 2 % 18446744073709551616 : Nat) : Int)
    · have e6 : IntKind.u64.wrap (((P / 18446744073709551616 * 2 + P % 18446744073709551616 / 9223372036854775808 : Nat) : Int) + 1) = (((2 * P + a) / 18446744073709551616 : Nat) : Int) := by
        rw [u64_wrap]; omega
      simp only [if_pos c, e6, if_true, beq_self_eq_true]; exact Ev.now true
    · simp only [if_neg c, show (((2 * P + a) / 18446744073709551616 : Nat) : Int) = ((P / 18446744073709551616 * 2 + P % 18446744073709551616 / 9223372036854775808 : Nat) : Int) by omega, if_true, beq_self_eq_true]; exact Ev.now true
end Go.Proofs.Ytjmihdhclbjaeaa.Pure
