/- RoundExact: what is a number already is it, in each mode, with noughts behind, with nothing told beside it. -/
import Derived.Test.YtoljndjpnbdjmaaRoundLaw
import Derived.Test.YtoljndjpnbdjmaaRoundE
import Derived.Test.YtoljndjpnbdjmaaPx16
namespace Go.Proofs.Ytoljndjpnbdjmaa.Pure
open Go.RowKit Go.Proofs.Ytoljndjpnbdjmaa.P Go.Proofs.Ytoljndjpnbdjmaa.Num Go.Proofs.Ytoljndjpnbdjmaa.BitsF Go.Proofs.Ytoljndjpnbdjmaa.Fmt Go.Proofs.Ytoljndjpnbdjmaa.Round Go.Proofs.YtoljndjpnbdjmaaW.PrintWords Go.Proofs.YtoljndjpnbdjmaaW.PrintLast Go.Proofs.YtoljndjpnbdjmaaW.PrintMore
theorem shl_whole (f : Int) (v s : Nat) (hs : s < 40) : shl .u64 (wholeN f v : Int) (s : Int) = ((wholeN f v * 2 ^ s : Nat) : Int) ∧ wholeN f v * 2 ^ s < 18446744073709551616 := by
  obtain ⟨b1, b2, b3, b4, b5⟩ := fbounds f
  have h1 := whole_lt f v
  have h2 : wholeN f v * 2 ^ s < 2 ^ (fm f + 1) * 2 ^ s := Nat.mul_lt_mul_of_pos_right h1 (Nat.two_pow_pos _)
  have h3 : 2 ^ (fm f + 1) * 2 ^ s ≤ 2 ^ 64 := by rw [← Nat.pow_add]; exact Nat.pow_le_pow_right (by decide) (by omega)
  have h4 : wholeN f v * 2 ^ s < 18446744073709551616 := Nat.lt_of_lt_of_le h2 h3
  exact ⟨by rw [shl_u64, Nat.mod_eq_of_lt h4], h4⟩
theorem RoundExact : anneallaw3_RoundExact.Pure := by
  intro a0 a1 a2 a3 h0 h1 h2 h3
  obtain ⟨p0, q0⟩ := wf_u8 h0
  obtain ⟨p2, q2⟩ := wf_u32 h2
  obtain ⟨p3, q3⟩ := wf_u8 h3
  obtain ⟨v, rfl⟩ := nat_of p2
  have hv : v < 4294967296 := by omega
  apply Ev.rounds
  unfold anneallaw3_RoundExact.f
  refine Ev.bind known3_ev ?_
  obtain ⟨f, hf, _⟩ := form_f a0 p0
  rw [hf]
  generalize wrap64 (Int.tmod a1 5) = mode
  have hw : ∃ s : Nat, wrap64 (Int.tmod a3 40) = (s : Int) ∧ s < 40 := by
    rw [Int.tmod_eq_emod_of_nonneg p3, w64_id _ (by omega) (by omega)]
    exact ⟨(a3 % 40).toNat, by omega, by omega⟩
  obtain ⟨s, hs, hs40⟩ := hw
  rw [hs]
  simp only [if_true, Option.bind_some]
  rw [ref_mask_f]
  refine Ev.bind (Ev.now (maskN f : Int)) ?_
  rw [and_mask f v hv]
  have hl := low_32 f v
  refine Ev.bind (ref_finite_ev f _ hl) ?_
  rw [low_low]
  by_cases c : expN f (lowN f v) < topN f
  · rw [decide_eq_true c]
    have hu := ref_unpack_ev f (lowN f v) hl (by rw [low_low]; exact c)
    rw [low_low] at hu
    simp only [if_true]
    refine Ev.bind hu ?_
    obtain ⟨e1, e2⟩ := shl_whole f (lowN f v) s hs40
    have hb : -1000 ≤ lowestN f (lowN f v) ∧ lowestN f (lowN f v) ≤ 1000 := by
      have := least_cases f; have := top_cases f; have := fbounds f
      unfold lowestN; omega
    dsimp only
    rw [e1, w64_id (lowestN f (lowN f v) - s) (by omega) (by omega)]
    refine Ev.congr (fun k => by rw [if_pos (Int.natCast_nonneg _)]) ?_
    have hp := pack_ev f mode (negN f (lowN f v)) (lowestN f (lowN f v) - s) (wholeN f (lowN f v) * 2 ^ s) false e2
    obtain ⟨g1, g2⟩ := finite_pack f mode v s c
    rw [clampE_id _ (by omega) (by omega), g1, g2] at hp
    refine Ev.bind hp ?_
    simp only [if_true]
    exact Ev.now _
  · rw [decide_eq_false c]
    simp only [Bool.false_eq_true, if_false]
    exact Ev.now _
end Go.Proofs.Ytoljndjpnbdjmaa.Pure
