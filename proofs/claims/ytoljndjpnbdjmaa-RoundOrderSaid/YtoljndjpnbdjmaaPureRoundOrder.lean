/- RoundOrder: a greater number isn't rounded to a lesser one, in each mode and format. -/
import Derived.Test.YtoljndjpnbdjmaaRoundLaw
import Derived.Test.YtoljndjpnbdjmaaRoundE
import Derived.Test.YtoljndjpnbdjmaaPx17
namespace Go.Proofs.Ytoljndjpnbdjmaa.Pure
open Go.RowKit Go.Proofs.Ytoljndjpnbdjmaa.P Go.Proofs.Ytoljndjpnbdjmaa.Num Go.Proofs.Ytoljndjpnbdjmaa.BitsF Go.Proofs.Ytoljndjpnbdjmaa.Fmt Go.Proofs.Ytoljndjpnbdjmaa.Round Go.Proofs.YtoljndjpnbdjmaaW.PrintWords Go.Proofs.YtoljndjpnbdjmaaW.PrintLast Go.Proofs.YtoljndjpnbdjmaaW.PrintMore
theorem place_pack (f mode x : Int) (a : Nat) (more : Bool) : annealref1_Key.f f (packN f mode false x a more : Int) = some (packN f mode false x a more : Int) := by
  have hb := pack_below f mode x a more
  generalize packN f mode false x a more = v at *
  obtain ⟨b1, b2, b3, b4, b5⟩ := fbounds f
  have h31 := pow_le31 b5
  have hl : lowN f v = v := low_id f v (by rw [Nat.pow_succ]; omega)
  rw [ref_key_f f v (by omega), hl]
  unfold placeN negN
  rw [Nat.div_eq_of_lt hb, Nat.mod_eq_of_lt hb]
  simp
theorem order_j1 (f mode x : Int) (a b : Nat) (more less : Bool) (ha : a < 18446744073709551616) (hb : b < 18446744073709551616) (h : a ≤ b) (hm : a = b → more = true → less = true) :
    Ev (fun k => anneallaw3_RoundOrder.j1 k more less f mode x (a : Int) (b : Int)) true := by
  refine Ev.step (fun k => by rw [anneallaw3_RoundOrder.j1]) ?_
  refine Ev.bind (pack_ev f mode false x a more ha) (Ev.bind (pack_ev f mode false x b less hb) ?_)
  dsimp only
  rw [place_pack, Option.bind_some, place_pack, Option.bind_some, decide_eq_true (Int.ofNat_le.mpr (pack_mono f mode false (clampE x) h hm))]
  exact Ev.now _
theorem mn_nat (a b : Nat) : mn (a : Int) (b : Int) = ((min a b : Nat) : Int) := by unfold mn; split <;> omega
theorem mx_nat (a b : Nat) : mx (a : Int) (b : Int) = ((max a b : Nat) : Int) := by unfold mx; split <;> omega
theorem RoundOrder : anneallaw3_RoundOrder.Pure := by
  intro a0 a1 a2 a3 a4 a5 a6 h0 h1 h2 h3 h4
  obtain ⟨p0, q0⟩ := wf_u8 h0
  obtain ⟨p2, q2⟩ := wf_u64 h2
  obtain ⟨p3, q3⟩ := wf_u64 h3
  obtain ⟨a, rfl⟩ := nat_of p2
  obtain ⟨b, rfl⟩ := nat_of p3
  apply Ev.rounds
  unfold anneallaw3_RoundOrder.f
  refine Ev.bind known3_ev ?_
  obtain ⟨f, hf, _⟩ := form_f a0 p0
  rw [hf]
  generalize wrap64 (Int.tmod a1 5) = mode
  generalize wrap64 ((Int.tmod (wrap64 a4) 200) - 30) = x
  simp only [if_true, Option.bind_some]
  rw [mn_nat, mx_nat]
  have ha : min a b < 18446744073709551616 := by omega
  have hb : max a b < 18446744073709551616 := by omega
  have hle : min a b ≤ max a b := by omega
  generalize min a b = s at *
  generalize max a b = t at *
  have go := order_j1 f mode x s t
  by_cases c : s = t
  · cases a5
    · refine Ev.congr (fun k => by rw [if_pos (by omega), if_neg (by decide)]) (Ev.step (fun k => by rw [anneallaw3_RoundOrder.j0, if_neg (by decide)]) (go false a6 ha hb hle (fun _ h => by cases h)))
    · refine Ev.congr (fun k => by rw [if_pos (by omega), if_pos (by decide)]) ?_
      cases a6
      · exact Ev.step (fun k => by rw [anneallaw3_RoundOrder.j0, if_pos (by decide)]) (go false false ha hb hle (fun _ h => h))
      · exact Ev.step (fun k => by rw [anneallaw3_RoundOrder.j0, if_neg (by decide)]) (go true true ha hb hle (fun _ h => h))
  · exact Ev.congr (fun k => by rw [if_neg (by omega)]) (Ev.step (fun k => by rw [anneallaw3_RoundOrder.j0, if_neg (by decide)]) (go a5 a6 ha hb hle (fun h => absurd h c)))
end Go.Proofs.Ytoljndjpnbdjmaa.Pure
