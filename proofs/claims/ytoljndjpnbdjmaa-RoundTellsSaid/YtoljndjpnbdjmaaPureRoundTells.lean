/- RoundTells: to which number any number is rounded, in each mode, and what is told beside it: the program's answers are the reference's, for every format, mode, exponent and number. -/
import Derived.Test.YtoljndjpnbdjmaaRoundE
import Derived.Test.YtoljndjpnbdjmaaPx13
namespace Go.Proofs.Ytoljndjpnbdjmaa.Pure
open Go.RowKit Go.Proofs.Ytoljndjpnbdjmaa.P Go.Proofs.Ytoljndjpnbdjmaa.Num Go.Proofs.Ytoljndjpnbdjmaa.BitsF Go.Proofs.Ytoljndjpnbdjmaa.Round Go.Proofs.YtoljndjpnbdjmaaW.PrintWords Go.Proofs.YtoljndjpnbdjmaaW.PrintLast Go.Proofs.YtoljndjpnbdjmaaW.PrintMore

theorem tells_l3 (x1 x2 x3 x4 x5 : Int) (x6 x7 : Bool) (x18 x20 x22 : Int) (x34 : List Int) (x35 x36 : Int) (x44 : List Int) (x45 x46 : Int) (x62 : List Int) (x63 x64 : Int) (ys : List Int)
    (hys : ∀ y ∈ ys, 0 ≤ y ∧ y < 18446744073709551616) (hn : ys.length ≤ 1000)
    (hx : Ev (fun k => anneallaw3_RoundTells.l2 k x1 x2 x3 x4 x5 x6 x7 x18 x20 x34 x35 x36 x44 x45 x46 x62 x63 (wrap64 (x64 + 1))) true) (d : Nat) :
    ∀ i : Nat, i + d = ys.length → Ev (fun k => anneallaw3_RoundTells.l3 k x1 x2 x3 x4 x5 x6 x7 x18 x20 x22 x34 x35 x36 x44 x45 x46 x62 x63 x64 ys (ys.length : Int) (i : Int)) true := by
  induction d with
  | zero =>
    intro i hi
    refine Ev.step (fun k => by rw [anneallaw3_RoundTells.l3]) ?_
    simp only [if_neg (show ¬ ((i : Int) < (ys.length : Int)) by omega)]
    exact hx
  | succ d ih =>
    intro i hi
    refine Ev.step (fun k => by rw [anneallaw3_RoundTells.l3]) ?_
    simp only [if_pos (show ((i : Int) < (ys.length : Int)) by omega), if_pos (show 0 ≤ (i : Int) by omega)]
    obtain ⟨r1, r2⟩ := hys _ (rd_in ys i (by omega))
    obtain ⟨s, hs⟩ := nat_of r1
    rw [hs] at r2 ⊢
    refine Ev.bind (pack_ev x18 x20 x6 x22 s x7 (by omega)) (Ev.bind (ref_pack_ev x18 x20 x6 x22 s x7 (by omega)) ?_)
    simp only [if_true, beq_self_eq_true, Bool.not_true, Bool.or_false, Bool.false_eq_true, if_false]
    rw [next_i i ys.length (by omega) hn]
    exact ih (i + 1) (by omega)
theorem tells_l2 (x1 x2 x3 x4 : Int) (s : Nat) (hs : s < 18446744073709551616) (h4 : 0 ≤ x4) (x6 x7 : Bool) (x18 x20 : Int) (x34 : List Int) (x35 x36 : Int) (x44 : List Int) (x45 x46 : Int) (ys : List Int) (hn : ys.length ≤ 1000)
    (hx : Ev (fun k => anneallaw3_RoundTells.l1 k x1 x2 x3 x4 (s : Int) x6 x7 x18 x34 x35 x36 x44 x45 (wrap64 (x46 + 1))) true) (d : Nat) :
    ∀ i : Nat, i + d = ys.length → Ev (fun k => anneallaw3_RoundTells.l2 k x1 x2 x3 x4 (s : Int) x6 x7 x18 x20 x34 x35 x36 x44 x45 x46 ys (ys.length : Int) (i : Int)) true := by
  induction d with
  | zero =>
    intro i hi
    refine Ev.step (fun k => by rw [anneallaw3_RoundTells.l2]) ?_
    simp only [if_neg (show ¬ ((i : Int) < (ys.length : Int)) by omega)]
    exact hx
  | succ d ih =>
    intro i hi
    refine Ev.step (fun k => by rw [anneallaw3_RoundTells.l2]) ?_
    have h40 : 0 ≤ Int.tmod x4 64 := Int.tmod_nonneg _ h4
    simp only [if_pos (show ((i : Int) < (ys.length : Int)) by omega), if_pos (show 0 ≤ (i : Int) by omega), if_pos h40, Option.bind_some]
    have ih' := ih (i + 1) (by omega)
    rw [← next_i i ys.length (by omega) hn] at ih'
    refine tells_l3 _ _ _ _ _ _ _ _ _ _ _ _ _ _ _ _ _ _ _ _ ?_ (by simp) ih' 4 0 (by simp)
    obtain ⟨t, ht⟩ := nat_of h40
    have e1 := shr_u64 s t hs
    have e2 := mask_u64 s 3 hs (by decide)
    rw [show ((2 ^ 3 - 1 : Nat) : Int) = 7 from rfl] at e2
    have l1 : s / 2 ^ t ≤ s := Nat.div_le_self _ _
    rw [ht, e1, e2]
    generalize s / 2 ^ t = u at *
    intro y hy
    simp only [List.mem_cons, List.not_mem_nil, or_false] at hy
    have hm : s % 2 ^ 3 < 8 := Nat.mod_lt _ (by decide)
    rcases hy with rfl | rfl | rfl | rfl <;> omega
theorem tells_l1 (x1 x2 x3 x4 : Int) (s : Nat) (hs : s < 18446744073709551616) (h4 : 0 ≤ x4) (x6 x7 : Bool) (x18 : Int) (x34 : List Int) (x35 x36 : Int) (ys : List Int) (hn : ys.length ≤ 1000)
    (hx : Ev (fun k => anneallaw3_RoundTells.l0 k x1 x2 x3 x4 (s : Int) x6 x7 x34 x35 (wrap64 (x36 + 1))) true) (d : Nat) :
    ∀ i : Nat, i + d = ys.length → Ev (fun k => anneallaw3_RoundTells.l1 k x1 x2 x3 x4 (s : Int) x6 x7 x18 x34 x35 x36 ys (ys.length : Int) (i : Int)) true := by
  induction d with
  | zero =>
    intro i hi
    refine Ev.step (fun k => by rw [anneallaw3_RoundTells.l1]) ?_
    simp only [if_neg (show ¬ ((i : Int) < (ys.length : Int)) by omega)]
    exact hx
  | succ d ih =>
    intro i hi
    refine Ev.step (fun k => by rw [anneallaw3_RoundTells.l1]) ?_
    simp only [if_pos (show ((i : Int) < (ys.length : Int)) by omega), if_pos (show 0 ≤ (i : Int) by omega), Option.bind_some]
    have ih' := ih (i + 1) (by omega)
    rw [← next_i i ys.length (by omega) hn] at ih'
    exact tells_l2 x1 x2 x3 x4 s hs h4 x6 x7 x18 _ x34 x35 x36 ys _ _ _ (by simp) ih' 6 0 (by simp)
theorem tells_l0 (x1 x2 x3 x4 : Int) (s : Nat) (hs : s < 18446744073709551616) (h4 : 0 ≤ x4) (x6 x7 : Bool) (ys : List Int) (hn : ys.length ≤ 1000) (d : Nat) :
    ∀ i : Nat, i + d = ys.length → Ev (fun k => anneallaw3_RoundTells.l0 k x1 x2 x3 x4 (s : Int) x6 x7 ys (ys.length : Int) (i : Int)) true := by
  induction d with
  | zero =>
    intro i hi
    refine Ev.step (fun k => by rw [anneallaw3_RoundTells.l0]) ?_
    simp only [if_neg (show ¬ ((i : Int) < (ys.length : Int)) by omega)]
    exact Ev.now true
  | succ d ih =>
    intro i hi
    refine Ev.step (fun k => by rw [anneallaw3_RoundTells.l0]) ?_
    simp only [if_pos (show ((i : Int) < (ys.length : Int)) by omega), if_pos (show 0 ≤ (i : Int) by omega), Option.bind_some]
    have ih' := ih (i + 1) (by omega)
    rw [← next_i i ys.length (by omega) hn] at ih'
    exact tells_l1 x1 x2 x3 x4 s hs h4 x6 x7 _ ys _ _ _ (by simp) ih' 2 0 (by simp)
theorem RoundTells : anneallaw3_RoundTells.Pure := by
  intro a0 a1 a2 a3 a4 a5 a6 a7 _ _ _ h3 h4 h5
  obtain ⟨p3, q3⟩ := wf_u8 h3
  obtain ⟨p4, q4⟩ := wf_u8 h4
  obtain ⟨p5, q5⟩ := wf_u64 h5
  obtain ⟨s, rfl⟩ := nat_of p5
  apply Ev.rounds
  unfold anneallaw3_RoundTells.f
  refine Ev.bind known3_ev ?_
  obtain ⟨f, hf, _⟩ := form_f a3 p3
  simp only [if_true, hf, Option.bind_some]
  exact tells_l0 a1 a2 a3 a4 s (by omega) p4 a6 a7 _ (by simp) 2 0 (by simp)
end Go.Proofs.Ytoljndjpnbdjmaa.Pure
