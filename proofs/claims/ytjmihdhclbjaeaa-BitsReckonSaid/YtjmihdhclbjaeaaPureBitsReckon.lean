/- BitsReckon: what is turned, multiplied, rooted: the program's answers are the reference's, for every number and count. -/
import Derived.Test.YtjmihdhclbjaeaaBitsH
import Derived.Test.YtjmihdhclbjaeaaPx11
namespace Go.Proofs.Ytjmihdhclbjaeaa.Pure
open Go.RowKit Go.Proofs.Ytjmihdhclbjaeaa.P Go.Proofs.Ytjmihdhclbjaeaa.Num Go.Proofs.Ytjmihdhclbjaeaa.BitsF Go.Proofs.YtjmihdhclbjaeaaW.PrintWords Go.Proofs.YtjmihdhclbjaeaaW.PrintLast Go.Proofs.YtjmihdhclbjaeaaW.PrintMore
theorem rd_in (ys : List Int) (i : Nat) (h : i < ys.length) : rd ys (i : Int) ∈ ys := by
  unfold rd; rw [Int.toNat_natCast, List.getD_eq_getElem?_getD, List.getElem?_eq_getElem h]; exact List.getElem_mem _
theorem reckon_l1 (p q : Int) (ys : List Int) (hys : ∀ y ∈ ys, 0 ≤ y) (hm : ys.length ≤ 100) (d : Nat) :
    ∀ i : Nat, i + d = ys.length → Ev (fun k => anneallaw1_BitsReckon.l1 k p q p q ys (ys.length : Int) (i : Int)) true := by
  induction d with
  | zero =>
    intro i hi
    refine Ev.step (fun k => by rw [anneallaw1_BitsReckon.l1]) ?_
    simp only [if_neg (show ¬ ((i : Int) < (ys.length : Int)) by omega), if_true, beq_self_eq_true]
    exact Ev.now true
  | succ d ih =>
    intro i hi
    refine Ev.step (fun k => by rw [anneallaw1_BitsReckon.l1]) ?_
    simp only [if_pos (show ((i : Int) < (ys.length : Int)) by omega), if_pos (show 0 ≤ (i : Int) by omega)]
    obtain ⟨x, hx⟩ := nat_of (hys _ (rd_in ys i (by omega)))
    rw [hx]
    refine Ev.bind (root_ev x) (Ev.bind (ref_root_ev x) ?_)
    simp only [if_true, bne_self_eq_false, Bool.false_eq_true, if_false]
    rw [w64_id _ (by omega) (by omega), show (i : Int) + 1 = ((i + 1 : Nat) : Int) by omega]
    exact ih (i + 1) (by omega)
theorem reckon_l0 (a b v : Nat) (ha : a < 18446744073709551616) (hb : b < 18446744073709551616) (hv : v < 4294967296) (a4 : Int) (h4 : 0 ≤ a4) (ys : List Int) (hm : ys.length ≤ 100) (d : Nat) :
    ∀ i : Nat, i + d = ys.length → Ev (fun k => anneallaw1_BitsReckon.l0 k (a : Int) (b : Int) (v : Int) a4 ys (ys.length : Int) (i : Int)) true := by
  induction d with
  | zero =>
    intro i hi
    refine Ev.step (fun k => by rw [anneallaw1_BitsReckon.l0]) ?_
    obtain ⟨s, hs⟩ := nat_of (show 0 ≤ Int.tmod a4 64 from Int.tmod_nonneg _ h4)
    have hn : ∀ n : Int, 0 ≤ IntKind.u64.wrap n := fun n => by rw [u64_wrap]; exact Int.emod_nonneg _ (by decide)
    simp only [if_neg (show ¬ ((i : Int) < (ys.length : Int)) by omega), product_f a b ha hb, ref_product_f a b ha hb, Option.bind_some, hs, if_pos (show 0 ≤ (s : Int) by omega), shr_u64 a s ha]
    refine reckon_l1 _ _ _ ?_ (by simp) 5 0 (by simp)
    intro y hy
    simp only [List.mem_cons, List.not_mem_nil, or_false] at hy
    rcases hy with rfl | rfl | rfl | rfl | rfl
    · exact Int.natCast_nonneg _
    · exact Int.natCast_nonneg _
    all_goals exact hn _
  | succ d ih =>
    intro i hi
    refine Ev.step (fun k => by rw [anneallaw1_BitsReckon.l0]) ?_
    simp only [if_pos (show ((i : Int) < (ys.length : Int)) by omega), if_pos (show 0 ≤ (i : Int) by omega), rotate_f v hv, Option.bind_some]
    refine Ev.bind (ref_rotate_ev v hv _) ?_
    simp only [if_true]
    rw [w64_id _ (by omega) (by omega), show (i : Int) + 1 = ((i + 1 : Nat) : Int) by omega]
    exact ih (i + 1) (by omega)
theorem BitsReckon : anneallaw1_BitsReckon.Pure := by
  intro a0 a1 a2 a3 a4 h0 h1 h2 _ h4
  obtain ⟨p0, q0⟩ := wf_u64 h0
  obtain ⟨p1, q1⟩ := wf_u64 h1
  obtain ⟨p2, q2⟩ := wf_u32 h2
  obtain ⟨p4, q4⟩ := wf_u8 h4
  obtain ⟨a, rfl⟩ := nat_of p0
  obtain ⟨b, rfl⟩ := nat_of p1
  obtain ⟨v, rfl⟩ := nat_of p2
  apply Ev.rounds
  unfold anneallaw1_BitsReckon.f
  refine Ev.bind known_ev ?_
  simp only [if_true, Option.bind_some]
  exact reckon_l0 a b v (by omega) (by omega) (by omega) a4 p4 _ (by simp) 2 0 (by simp)
end Go.Proofs.Ytjmihdhclbjaeaa.Pure
