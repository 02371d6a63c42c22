/- BatchEpochs: epochs are told by how many batches there are, for every count of rows from 1 to 50, every batch from 1 to 9 and every 16-bit number of a batch. -/
import Derived.Test.YtjmihdhclbjaeaaBatchF
import Derived.Test.YtjmihdhclbjaeaaPx7
namespace Go.Proofs.Ytjmihdhclbjaeaa.Pure
open Go.RowKit Go.Proofs.Ytjmihdhclbjaeaa.P Go.Proofs.Ytjmihdhclbjaeaa.Num Go.Proofs.Ytjmihdhclbjaeaa.Batch Go.Proofs.YtjmihdhclbjaeaaW.PrintWords Go.Proofs.YtjmihdhclbjaeaaW.PrintLast Go.Proofs.YtjmihdhclbjaeaaW.PrintMore
theorem rest_one (a : Int) (m : Nat) (h : 0 ≤ a) (hm : 0 < m) (hm' : m < 100) : ∃ n : Nat, wrap64 ((wrap64 (Int.tmod a (m : Int))) + 1) = (n : Int) ∧ 0 < n ∧ n ≤ m := by
  have e := Int.tmod_eq_emod_of_nonneg (b := (m : Int)) h
  have p := Int.emod_nonneg a (show (m : Int) ≠ 0 by omega)
  have q := Int.emod_lt_of_pos a (show (0 : Int) < (m : Int) by omega)
  rw [e]
  generalize a % (m : Int) = r at *
  rw [w64_id r (by omega) (by omega), w64_id (r + 1) (by omega) (by omega)]
  exact ⟨(r + 1).toNat, by omega, by omega, by omega⟩
theorem BatchEpochs : anneallaw26_BatchEpochs.Pure := by
  intro a0 a1 a2 h0 h1 h2
  obtain ⟨p0, q0⟩ := wf_u8 h0
  obtain ⟨p1, q1⟩ := wf_u8 h1
  obtain ⟨p2, q2⟩ := wf_u16 h2
  obtain ⟨m, rfl⟩ := nat_of p2
  obtain ⟨n, en, n0, n1⟩ := rest_one a0 50 p0 (by decide) (by decide)
  obtain ⟨b, eb, b0, b1⟩ := rest_one a1 9 p1 (by decide) (by decide)
  apply Ev.rounds
  unfold anneallaw26_BatchEpochs.f
  refine Ev.bind known_ev ?_
  simp only [if_true]
  rw [show ((50 : Nat) : Int) = 50 from rfl] at en
  rw [show ((9 : Nat) : Int) = 9 from rfl] at eb
  rw [en, eb, w64_id (m : Int) (by omega) (by omega), many_f n b (by omega) b0 (by omega), epochs_f n b m n0 (by omega) b0 (by omega) (by omega)]
  have hz : batch_Epochs.f 0 (b : Int) (m : Int) = some (0, 0) := by
    unfold batch_Epochs.f
    rw [show (0 : Int) = ((0 : Nat) : Int) from rfl, few_f 0 (by decide)]
    rfl
  have hp := many_pos n b n0 b0
  have hs : m / manyN n b * manyN n b + m % manyN n b = m := by rw [Nat.mul_comm]; exact Nat.div_add_mod m _
  have hlt := Nat.mod_lt m hp
  have hle : m / manyN n b * manyN n b ≤ m := Nat.div_mul_le_self _ _
  rw [Option.bind_some, if_neg (by omega), hz, Option.bind_some]
  have e1 : ((m / manyN n b : Nat) : Int) * (manyN n b : Int) = ((m / manyN n b * manyN n b : Nat) : Int) := by rw [Int.natCast_mul]
  rw [e1]
  generalize m / manyN n b * manyN n b = u at *
  generalize m % manyN n b = v at *
  generalize manyN n b = w at *
  rw [w64_id (u : Int) (by omega) (by omega), w64_id ((u : Int) + v) (by omega) (by omega), if_pos (by omega), if_pos (by omega), if_pos (by omega), if_pos rfl]
  exact Ev.now _
end Go.Proofs.Ytjmihdhclbjaeaa.Pure
