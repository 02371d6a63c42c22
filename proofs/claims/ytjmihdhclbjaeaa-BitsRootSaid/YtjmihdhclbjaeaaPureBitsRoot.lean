/- BitsRoot: a root's square isn't above its number, and the next one's is, for every number. -/
import Derived.Test.YtjmihdhclbjaeaaBitsH
import Derived.Test.YtjmihdhclbjaeaaPx12
namespace Go.Proofs.Ytjmihdhclbjaeaa.Pure
open Go.RowKit Go.Proofs.Ytjmihdhclbjaeaa.P Go.Proofs.Ytjmihdhclbjaeaa.Num Go.Proofs.Ytjmihdhclbjaeaa.BitsF Go.Proofs.YtjmihdhclbjaeaaW.PrintWords Go.Proofs.YtjmihdhclbjaeaaW.PrintLast Go.Proofs.YtjmihdhclbjaeaaW.PrintMore
theorem BitsRoot : anneallaw1_BitsRoot.Pure := by
  intro a0 a1 h0 h1
  obtain ⟨p0, q0⟩ := wf_u64 h0
  obtain ⟨p1, q1⟩ := wf_u8 h1
  obtain ⟨v, rfl⟩ := nat_of p0
  apply Ev.rounds
  unfold anneallaw1_BitsRoot.f
  refine Ev.bind known_ev ?_
  obtain ⟨s, hs⟩ := nat_of (show 0 ≤ Int.tmod a1 64 from Int.tmod_nonneg _ p1)
  simp only [if_true, if_pos (show 0 ≤ Int.tmod a1 64 from Int.tmod_nonneg _ p1), hs, shr_u64 v s (by omega)]
  have hd : v / 2 ^ s < 18446744073709551616 := Nat.lt_of_le_of_lt (Nat.div_le_self _ _) (by omega)
  generalize v / 2 ^ s = x at *
  refine Ev.bind (root_ev x) ?_
  have hl := rootN_lt x
  obtain ⟨b1, b2⟩ := rootN_is x hd
  generalize rootN x = r at *
  have e : IntKind.u64.wrap ((r : Int) * (r : Int)) = ((r * r : Nat) : Int) := by rw [show (r : Int) * (r : Int) = ((r * r : Nat) : Int) by simp, u64_id _ (sq32 hl)]
  simp only [u64_id r (by omega), e]
  simp only [if_pos (show ((r * r : Nat) : Int) ≤ (x : Int) by omega)]
  by_cases c : (r : Int) = 4294967295
  · simp only [if_pos c]; rw [beq_cast]; simp only [beq_self_eq_true]; exact Ev.now true
  · have e2 : IntKind.u64.wrap (IntKind.u64.wrap ((r : Int) + 1) * IntKind.u64.wrap ((r : Int) + 1)) = (((r + 1) * (r + 1) : Nat) : Int) := by
      rw [show (r : Int) + 1 = ((r + 1 : Nat) : Int) by omega, u64_id (r + 1) (by omega), show ((r + 1 : Nat) : Int) * ((r + 1 : Nat) : Int) = (((r + 1) * (r + 1) : Nat) : Int) by simp, u64_id _ (sq32 (by omega))]
    simp only [if_neg c, e2, if_neg (show ¬ ((((r + 1) * (r + 1) : Nat) : Int) ≤ (x : Int)) by omega)]
    rw [beq_cast]; simp only [beq_self_eq_true]; exact Ev.now true
end Go.Proofs.Ytjmihdhclbjaeaa.Pure
