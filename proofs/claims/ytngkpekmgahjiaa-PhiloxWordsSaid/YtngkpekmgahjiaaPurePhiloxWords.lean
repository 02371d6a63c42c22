/- PhiloxWords: four words beside one another are a block, of each stream its own, for every seed, stream and number. -/
import Derived.Test.YtngkpekmgahjiaaPhiloxF
import Derived.Test.YtngkpekmgahjiaaPx24
namespace Go.Proofs.Ytngkpekmgahjiaa.Pure
open Go.RowKit Go.Proofs.Ytngkpekmgahjiaa.P Go.Proofs.Ytngkpekmgahjiaa.Num Go.Proofs.Ytngkpekmgahjiaa.Philox Go.Proofs.YtngkpekmgahjiaaW.PrintWords Go.Proofs.YtngkpekmgahjiaaW.PrintLast Go.Proofs.YtngkpekmgahjiaaW.PrintMore
theorem PhiloxWords : anneallaw10_PhiloxWords.Pure := by
  intro a0 a1 a2 h0 h1 h2
  obtain ⟨p2, q2⟩ := wf_u64 h2
  obtain ⟨n, rfl⟩ := nat_of p2
  apply Ev.rounds
  unfold anneallaw10_PhiloxWords.f
  refine Ev.bind known_ev ?_
  simp only [if_true]
  have hq : (n : Int) / 4 = ((n / 4 : Nat) : Int) := by omega
  have hlt : n / 4 < 4611686018427387904 := by omega
  rw [hq]
  generalize n / 4 = q at *
  obtain ⟨r, hr, -⟩ := block_ev ((a0) % 4294967296) ((a0 / 4294967296) % 4294967296) ((q : Int) % 4294967296) (((q : Int) / 4294967296) % 4294967296) a1 0
  refine Ev.bind hr ?_
  have e : ∀ i : Nat, i < 4 → IntKind.u64.wrap ((IntKind.u64.wrap ((q : Int) * 4)) + (i : Int)) = ((q * 4 + i : Nat) : Int) := by
    intro i hi
    rw [u64_wrap, u64_wrap]; omega
  have w0 := word_of a0 a1 q 0 hlt (by decide) r hr
  have w1 := word_of a0 a1 q 1 hlt (by decide) r hr
  have w2 := word_of a0 a1 q 2 hlt (by decide) r hr
  have w3 := word_of a0 a1 q 3 hlt (by decide) r hr
  refine Ev.step (fun k => by rw [anneallaw10_PhiloxWords.l0, if_pos (by decide), show (0 : Int) = ((0 : Nat) : Int) from rfl, e 0 (by decide)]) (Ev.bind w0 (Ev.congr (fun k => by rw [if_pos (by decide), if_pos (by rfl)]) ?_))
  refine Ev.step (fun k => by rw [anneallaw10_PhiloxWords.l0, if_pos (by decide), show IntKind.u64.wrap (((0 : Nat) : Int) + 1) = ((1 : Nat) : Int) from rfl, e 1 (by decide)]) (Ev.bind w1 (Ev.congr (fun k => by rw [if_neg (by decide), if_pos (by decide), if_pos (by rfl)]) ?_))
  refine Ev.step (fun k => by rw [anneallaw10_PhiloxWords.l0, if_pos (by decide), show IntKind.u64.wrap (((1 : Nat) : Int) + 1) = ((2 : Nat) : Int) from rfl, e 2 (by decide)]) (Ev.bind w2 (Ev.congr (fun k => by rw [if_neg (by decide), if_neg (by decide), if_pos (by decide), if_pos (by rfl)]) ?_))
  refine Ev.step (fun k => by rw [anneallaw10_PhiloxWords.l0, if_pos (by decide), show IntKind.u64.wrap (((2 : Nat) : Int) + 1) = ((3 : Nat) : Int) from rfl, e 3 (by decide)]) (Ev.bind w3 (Ev.congr (fun k => by rw [if_neg (by decide), if_neg (by decide), if_neg (by decide), if_pos (by decide), if_pos (by rfl)]) ?_))
  obtain ⟨v, hv, v0, v1⟩ := below_ev a0 a1 (n : Int) 1 p2 (by decide) (by decide)
  obtain rfl : v = 0 := by omega
  refine Ev.step (fun k => by rw [anneallaw10_PhiloxWords.l0, if_neg (by decide)]) (Ev.bind (below_zero a0 a1 (n : Int) p2) ?_)
  exact Ev.bind hv (Ev.now _)
end Go.Proofs.Ytngkpekmgahjiaa.Pure
