/- BitsTurn: what is turned round is as it was, and turns add up, for every number and every count of eight bits. -/
import Derived.Test.YtjmihdhclbjaeaaBitsH
import Derived.Test.YtjmihdhclbjaeaaPx12
namespace Go.Proofs.Ytjmihdhclbjaeaa.Pure
open Go.RowKit Go.Proofs.Ytjmihdhclbjaeaa.P Go.Proofs.Ytjmihdhclbjaeaa.Num Go.Proofs.Ytjmihdhclbjaeaa.BitsF Go.Proofs.YtjmihdhclbjaeaaW.PrintWords Go.Proofs.YtjmihdhclbjaeaaW.PrintLast Go.Proofs.YtjmihdhclbjaeaaW.PrintMore
theorem BitsTurn : anneallaw1_BitsTurn.Pure := by
  intro a0 a1 a2 h0 h1 h2
  obtain ⟨p0, q0⟩ := wf_u32 h0
  obtain ⟨p1, q1⟩ := wf_u8 h1
  obtain ⟨p2, q2⟩ := wf_u8 h2
  obtain ⟨v, rfl⟩ := nat_of p0
  apply Ev.rounds
  unfold anneallaw1_BitsTurn.f
  refine Ev.bind known_ev ?_
  have hv : v < 4294967296 := by omega
  have ha : (a1 % 32).toNat ≤ 32 := by omega
  rw [w64_id a1 (by omega) (by omega), w64_id a2 (by omega) (by omega), w64_id (a1 + a2) (by omega) (by omega), w64_id (-a1) (by omega) (by omega)]
  have r1 := rot_lt v (a1 % 32).toNat hv ha
  simp only [if_true, rotate_f v hv, rotate_f _ r1, Option.bind_some]
  rw [rot_rot v _ _ ((a1 + a2) % 32).toNat hv ha (by omega) (by omega) (by omega), rot_rot v _ _ 0 hv ha (by omega) (by omega) (by omega), show ((32 : Int) % 32).toNat = 0 by decide, rot_id v hv]
  simp only [if_true, beq_self_eq_true]
  exact Ev.now true
end Go.Proofs.Ytjmihdhclbjaeaa.Pure
