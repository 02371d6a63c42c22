/- BitsTell: how many bits a number has, what moves out, its lowest ones, with sign or without: the program's answers are the reference's, for every number and every count. -/
import Derived.Test.YtjmihdhclbjaeaaBitsH
import Derived.Test.YtjmihdhclbjaeaaPx16
namespace Go.Proofs.Ytjmihdhclbjaeaa.Pure
open Go.RowKit Go.Proofs.Ytjmihdhclbjaeaa.P Go.Proofs.Ytjmihdhclbjaeaa.Num Go.Proofs.Ytjmihdhclbjaeaa.BitsF Go.Proofs.YtjmihdhclbjaeaaW.PrintWords Go.Proofs.YtjmihdhclbjaeaaW.PrintLast Go.Proofs.YtjmihdhclbjaeaaW.PrintMore

theorem tell_loop (v m : Nat) (hv : v < 18446744073709551616) (a2 : Int) (h2 : 0 ≤ a2) (h3 : a2 < 256) (ys : List Int) (hys : ∀ y ∈ ys, -9223372036854775808 ≤ y ∧ y ≤ 9223372036854775807) (hm : ys.length ≤ 100) (d : Nat) :
    ∀ i : Nat, i + d = ys.length → Ev (fun k => anneallaw1_BitsTell.l0 k (v : Int) a2 ys (ys.length : Int) (i : Int)) true := by
  induction d with
  | zero =>
    intro i hi
    refine Ev.step (fun k => by rw [anneallaw1_BitsTell.l0]) ?_
    simp only [if_neg (show ¬ ((i : Int) < (ys.length : Int)) by omega)]
    refine Ev.bind (len_ev v hv) (Ev.bind (ref_len_ev v hv) ?_)
    obtain ⟨s, hs⟩ := nat_of (show 0 ≤ Int.tmod a2 64 from Int.tmod_nonneg _ h2)
    simp only [if_true, if_pos (show 0 ≤ Int.tmod a2 64 from Int.tmod_nonneg _ h2), hs, shr_u64 v s hv]
    have hd : v / 2 ^ s < 18446744073709551616 := Nat.lt_of_le_of_lt (Nat.div_le_self _ _) hv
    refine Ev.bind (len_ev _ hd) (Ev.bind (ref_len_ev _ hd) ?_)
    simp only [beq_self_eq_true]
    exact Ev.now true
  | succ d ih =>
    intro i hi
    refine Ev.step (fun k => by rw [anneallaw1_BitsTell.l0]) ?_
    simp only [if_pos (show ((i : Int) < (ys.length : Int)) by omega), if_pos (show 0 ≤ (i : Int) by omega)]
    have hr : rd ys (i : Int) ∈ ys := by
      unfold rd; rw [Int.toNat_natCast, List.getD_eq_getElem?_getD, List.getElem?_eq_getElem (by omega)]; exact List.getElem_mem _
    obtain ⟨r1, r2⟩ := hys _ hr
    generalize rd ys (i : Int) = c at *
    refine Ev.bind (shift_ev v hv c r1 r2) (Ev.bind (ref_shift_ev v hv c) ?_)
    simp only [if_true, bne_self_eq_false, Bool.false_eq_true, if_false, cut_f v hv c r2, ref_cut_f v hv c, signed_f v c r2, ref_signed_f v hv c, Option.bind_some]
    rw [w64_id _ (by omega) (by omega), show (i : Int) + 1 = ((i + 1 : Nat) : Int) by omega]
    exact ih (i + 1) (by omega)

theorem BitsTell : anneallaw1_BitsTell.Pure := by
  intro a0 a1 a2 h0 h1 h2
  obtain ⟨p0, q0⟩ := wf_u64 h0
  obtain ⟨p1, q1⟩ := wf_i64 h1
  obtain ⟨p2, q2⟩ := wf_u8 h2
  obtain ⟨v, rfl⟩ := nat_of p0
  apply Ev.rounds
  unfold anneallaw1_BitsTell.f
  refine Ev.bind known_ev ?_
  simp only [if_true, Option.bind_some]
  have hb : -140 < Int.tmod a2 140 ∧ Int.tmod a2 140 < 140 := by
    rw [Int.tmod_eq_emod_of_nonneg p2]; omega
  exact tell_loop v 0 (by omega) a2 p2 q2 _ (by
    intro y hy
    simp only [List.mem_cons, List.not_mem_nil, or_false] at hy
    have := w64_id (Int.tmod a2 140) (by omega) (by omega)
    rcases hy with rfl | rfl | rfl | rfl | rfl | rfl | rfl | rfl
    · exact ⟨p1, q1⟩
    · rw [this, w64_id] <;> omega
    all_goals omega) (by simp) 8 0 (by simp)
end Go.Proofs.Ytjmihdhclbjaeaa.Pure
