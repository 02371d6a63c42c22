/- BitsBack: what is moved there and back, with what went out, is as it was, for every number and every count from 0 to 63. -/
import Derived.Test.YtjmihdhclbjaeaaBitsH
import Derived.Test.YtjmihdhclbjaeaaPx17
namespace Go.Proofs.Ytjmihdhclbjaeaa.Pure
open Go.RowKit Go.Proofs.Ytjmihdhclbjaeaa.P Go.Proofs.Ytjmihdhclbjaeaa.Num Go.Proofs.Ytjmihdhclbjaeaa.BitsF Go.Proofs.YtjmihdhclbjaeaaW.PrintWords Go.Proofs.YtjmihdhclbjaeaaW.PrintLast Go.Proofs.YtjmihdhclbjaeaaW.PrintMore
theorem cutN_nat (v m : Nat) : cutN v (m : Int) = v % 2 ^ m := by
  unfold cutN
  by_cases h : (m : Int) < 1
  · obtain rfl : m = 0 := by omega
    rw [if_pos h, Nat.pow_zero, Nat.mod_one]
  · rw [if_neg h, Int.toNat_natCast]
theorem BitsBack : anneallaw1_BitsBack.Pure := by
  intro a0 a1 h0 h1
  obtain ⟨p0, q0⟩ := wf_u64 h0
  obtain ⟨p1, q1⟩ := wf_u8 h1
  obtain ⟨v, rfl⟩ := nat_of p0
  have hv : v < 18446744073709551616 := by omega
  apply Ev.rounds
  unfold anneallaw1_BitsBack.f
  refine Ev.bind known_ev ?_
  obtain ⟨m, hm⟩ := nat_of (show 0 ≤ Int.tmod a1 64 from Int.tmod_nonneg _ p1)
  have hlt : m < 64 := by rw [Int.tmod_eq_emod_of_nonneg p1] at hm; omega
  rw [hm, w64_id (m : Int) (by omega) (by omega), w64_id (-(m : Int)) (by omega) (by omega)]
  simp only [if_true]
  have hd : v / 2 ^ m < 18446744073709551616 := Nat.lt_of_le_of_lt (Nat.div_le_self _ _) hv
  have hs := shift_ev v hv m (by omega) (by omega)
  have ht := shift_ev (v / 2 ^ m) hd (-(m : Int)) (by omega) (by omega)
  have hle : v / 2 ^ m * 2 ^ m ≤ v := Nat.div_mul_le_self _ _
  rw [shiftN_right] at hs
  rw [shiftN_left _ _ hd, Nat.mod_eq_of_lt (by omega), decide_eq_false (by omega)] at ht
  refine Ev.bind hs (Ev.bind ht ?_)
  have hadd : v / 2 ^ m * 2 ^ m + v % 2 ^ m = v := by rw [Nat.mul_comm]; exact Nat.div_add_mod v _
  have hlow : v % 2 ^ m ≤ v := Nat.mod_le _ _
  have es : sgnN v 64 = if (v : Int) ≥ 2 ^ 63 then (v : Int) - 2 ^ 64 else (v : Int) := by
    unfold sgnN
    rw [if_neg (by decide), show min (64 : Int).toNat 64 = 64 by decide, Nat.mod_eq_of_lt (show v < 2 ^ 64 by omega)]
  have es' : IntKind.u64.wrap (sgnN v 64) = (v : Int) := by rw [es, u64_wrap]; split <;> omega
  have en : IntKind.u64.wrap (sgnN v m) % 2 ^ m = ((v % 2 ^ m : Nat) : Int) ∧ 0 ≤ IntKind.u64.wrap (sgnN v m) ∧ IntKind.u64.wrap (sgnN v m) < 18446744073709551616 := by
    rw [u64_wrap]
    refine ⟨?_, Int.emod_nonneg _ (by decide), Int.emod_lt_of_pos _ (by decide)⟩
    have hdv : (2 ^ m : Int) ∣ 18446744073709551616 := by
      have : ((2 ^ m : Nat) : Int) ∣ ((2 ^ 64 : Nat) : Int) := Int.natCast_dvd_natCast.mpr (Nat.pow_dvd_pow 2 (by omega))
      simpa using this
    rw [Int.emod_emod_of_dvd _ hdv]
    unfold sgnN
    have c2 : ((2 : Int) ^ m) = ((2 ^ m : Nat) : Int) := by simp
    by_cases c : (m : Int) < 1
    · obtain rfl : m = 0 := by omega
      simp [Nat.mod_one]
    · rw [if_neg c, Int.toNat_natCast, Nat.min_eq_left (by omega)]
      have hb : v % 2 ^ m < 2 ^ m := Nat.mod_lt _ (Nat.two_pow_pos _)
      generalize v % 2 ^ m = w at *
      split
      · rw [Int.sub_emod_right, c2, Int.emod_eq_of_lt (by omega) (by omega)]
      · rw [c2, Int.emod_eq_of_lt (by omega) (by omega)]
  obtain ⟨e1, e2, e3⟩ := en
  simp only [cut_f v hv m (by omega), cutN_nat, Option.bind_some, Bool.false_eq_true, if_false]
  rw [show ((v / 2 ^ m * 2 ^ m : Nat) : Int) + ((v % 2 ^ m : Nat) : Int) = (v : Int) by omega, u64_id v hv]
  have eb : ((((v % 2 ^ m : Nat) : Int) != 0) : Bool) = decide (v % 2 ^ m ≠ 0) := by
    rw [show (0 : Int) = ((0 : Nat) : Int) from rfl, bne_cast]
  rw [eb]
  simp only [if_true, beq_self_eq_true, signed_f v _ (show (64 : Int) ≤ 9223372036854775807 by decide), signed_f v _ (show (m : Int) ≤ 9223372036854775807 by omega), Option.bind_some, es']
  obtain ⟨z, hz⟩ := nat_of e2
  rw [hz] at e1 e3 ⊢
  simp only [cut_f z (by omega) m (by omega), cutN_nat, Option.bind_some]
  have : z % 2 ^ m = v % 2 ^ m := by
    have c2 : ((2 : Int) ^ m) = ((2 ^ m : Nat) : Int) := by simp
    rw [c2] at e1; omega
  rw [this]
  simp only [beq_self_eq_true]
  exact Ev.now true
end Go.Proofs.Ytjmihdhclbjaeaa.Pure
