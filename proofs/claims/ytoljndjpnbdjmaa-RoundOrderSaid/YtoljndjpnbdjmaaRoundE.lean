/- The program's rounding and the reference's, from some round on; small facts about lists. -/
import Derived.Test.YtoljndjpnbdjmaaRefPack
import Derived.Test.YtoljndjpnbdjmaaPx8
namespace Go.Proofs.Ytoljndjpnbdjmaa.Round
open Go.RowKit Go.Proofs.Ytoljndjpnbdjmaa.P Go.Proofs.Ytoljndjpnbdjmaa.Num Go.Proofs.Ytoljndjpnbdjmaa.BitsF Go.Proofs.Ytoljndjpnbdjmaa.Fmt Go.Proofs.YtoljndjpnbdjmaaW.PrintWords Go.Proofs.YtoljndjpnbdjmaaW.PrintLast Go.Proofs.YtoljndjpnbdjmaaW.PrintMore

theorem pack_ev (f mode : Int) (neg : Bool) (x : Int) (s : Nat) (more : Bool) (hs : s < 18446744073709551616) :
    Ev (fun k => round_Pack.f k f mode neg x (s : Int) more) ((packN f mode neg (clampE x) s more : Int), false, false, excN f mode neg (clampE x) s more) :=
  Ev.of (round_Pack.mono _ _ _ _ _ _) (pack_f 0 f mode neg x s more hs)
theorem known3_ev : Ev (fun k => anneallaw3_known.f k) true := Ev.of anneallaw3_known.mono (k := 20) (by kernel_rfl)
theorem rd_in (ys : List Int) (i : Nat) (h : i < ys.length) : rd ys (i : Int) ∈ ys := by
  unfold rd; rw [Int.toNat_natCast, List.getD_eq_getElem?_getD, List.getElem?_eq_getElem h]; exact List.getElem_mem _
theorem next_i (i n : Nat) (h : i < n) (hn : n ≤ 1000) : wrap64 ((i : Int) + 1) = ((i + 1 : Nat) : Int) := by rw [w64_id _ (by omega) (by omega)]; omega
theorem form_f (a : Int) (h : 0 ≤ a) : ∃ f : Int, anneallaw3_form.f a = some f ∧ (f = 0 ∨ f = 1 ∨ f = 2) := by
  unfold anneallaw3_form.f
  have e := Int.tmod_eq_emod_of_nonneg (b := 3) h
  have : a % 3 = 0 ∨ a % 3 = 1 ∨ a % 3 = 2 := by omega
  simp only [Option.bind_some, e]
  rcases this with h | h | h <;> rw [h]
  · exact ⟨0, rfl, .inl rfl⟩
  · exact ⟨1, rfl, .inr (.inl rfl)⟩
  · exact ⟨2, rfl, .inr (.inr rfl)⟩
end Go.Proofs.Ytoljndjpnbdjmaa.Round
