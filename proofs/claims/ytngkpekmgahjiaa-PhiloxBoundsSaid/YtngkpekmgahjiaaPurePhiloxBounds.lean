/- PhiloxBounds: a number below another is below it, a uniform one is from nought to below 1, for every seed, stream, word and number. -/
import Derived.Test.YtngkpekmgahjiaaPhiloxF
import Derived.Test.YtngkpekmgahjiaaBase
import Derived.Test.YtngkpekmgahjiaaPx10
import Derived.Test.YtngkpekmgahjiaaPx22
import Derived.Test.YtngkpekmgahjiaaPx23
namespace Go.Proofs.Ytngkpekmgahjiaa.Pure
open Go.RowKit Go.Proofs.Ytngkpekmgahjiaa.P Go.Proofs.Ytngkpekmgahjiaa.Num Go.Proofs.Ytngkpekmgahjiaa.Fmt Go.Proofs.Ytngkpekmgahjiaa.Round Go.Proofs.Ytngkpekmgahjiaa.Philox Go.Proofs.YtngkpekmgahjiaaW.PrintWords Go.Proofs.YtngkpekmgahjiaaW.PrintLast Go.Proofs.YtngkpekmgahjiaaW.PrintMore
def uniN (s : Nat) : Nat := packN 2 0 false (-24) s false
theorem uni_ev (w : Nat) (hw : w < 4294967296) : Ev (fun k => philox_Uniform.f k (w : Int)) (uniN (w / 256) : Int) := by
  have hd : w / 256 < 18446744073709551616 := by omega
  have h := packs_ev 2 0 false (-24) (w / 256) false hd
  rw [clampE_id (-24) (by omega) (by omega)] at h
  refine Ev.congr (fun k => by unfold philox_Uniform.f; rw [show (w : Int) / 256 = ((w / 256 : Nat) : Int) by omega, u64_id _ hd]) (Ev.bind h (Ev.now _))
theorem uni_top : uniN 16777215 = 1065353215 := by kernel_rfl
theorem uni_one : uniN 1 = 864026624 := by kernel_rfl
theorem uni_zero : uniN 0 = 0 := by kernel_rfl
theorem uni_le (s : Nat) (h : s < 16777216) : uniN s < 1065353216 := by
  have := pack_mono 2 0 false (-24) (a := s) (b := 16777215) (more := false) (less := false) (by omega) (fun _ h => h)
  have e := uni_top
  unfold uniN at *; omega
theorem uni_pos (s : Nat) (h : s ≠ 0) : uniN s ≠ 0 := by
  have := pack_mono 2 0 false (-24) (a := 1) (b := s) (more := false) (less := false) (by omega) (fun _ h => h)
  have e := uni_one
  unfold uniN at *; omega
theorem cls_small (u : Nat) (h : u < 1065353216) : clsN 2 u < 4 := by
  have : clsN 2 u < 3 := by
    rw [cls_finite]
    have : u / 2 ^ fm 2 % 2 ^ fe 2 ≤ u / 2 ^ fm 2 := Nat.mod_le _ _
    have e : u / 2 ^ fm 2 < 127 := by
      rw [show fm 2 = 23 from rfl]; omega
    have t : topN 2 = 255 := rfl
    unfold expN; omega
  omega
theorem place_small (u : Nat) (h : u < 1065353216) : placeN 2 (lowN 2 u) = (u : Int) := by
  have e : fe 2 + fm 2 = 31 := rfl
  rw [low_id 2 u (by rw [e]; omega)]
  unfold placeN negN
  rw [e, Nat.div_eq_of_lt (show u < 2 ^ 31 by omega), Nat.mod_eq_of_lt (show u < 2 ^ 31 by omega)]
  simp
theorem less_ev (u : Nat) (h : u < 1065353216) : Ev (fun k => annealref1_Less.f k 2 (u : Int) 0) false := by
  have hc := compare_ev 2 u 0 (by omega) (by decide)
  have n1 : isNan 2 u = false := by have := cls_small u h; unfold isNan; simp; omega
  have n2 : isNan 2 0 = false := rfl
  have p2 : placeN 2 (lowN 2 0) = 0 := rfl
  have p1 := place_small u h
  have e : (cmpN 2 u 0).2 = true ∧ ¬ (cmpN 2 u 0).1 < 0 := by
    unfold cmpN
    rw [n1, n2, p1, p2, if_neg (by decide)]
    split
    · exact ⟨rfl, by decide⟩
    · rw [if_neg (by omega)]
      split
      · exact ⟨rfl, by decide⟩
      · exact ⟨rfl, by decide⟩
  refine Ev.congr (fun k => by unfold annealref1_Less.f; rfl) (Ev.bind hc (Ev.congr (fun k => ?_) (Ev.now _)))
  rw [if_pos e.1, decide_eq_false e.2]
theorem PhiloxBounds : anneallaw10_PhiloxBounds.Pure := by
  intro a0 a1 a2 a3 a4 h0 h1 h2 h3 h4
  obtain ⟨p2, q2⟩ := wf_u32 h2
  obtain ⟨p3, q3⟩ := wf_u32 h3
  obtain ⟨p4, q4⟩ := wf_u64 h4
  obtain ⟨w, rfl⟩ := nat_of p2
  apply Ev.rounds
  unfold anneallaw10_PhiloxBounds.f
  refine Ev.bind known_ev ?_
  simp only [if_true]
  have hs : w / 256 < 16777216 := by omega
  have hle := uni_le (w / 256) hs
  have hbool : ((((w : Int) / 256) == 0) == ((uniN (w / 256) : Int) == 0)) = true := by
    by_cases c : w / 256 = 0
    · have e1 : (((w : Int) / 256) == 0) = true := by simp; omega
      rw [e1, c, uni_zero]; rfl
    · have hp := uni_pos _ c
      have e1 : (((w : Int) / 256) == 0) = false := by simp; omega
      have e2 : ((uniN (w / 256) : Int) == 0) = false := by simp; omega
      rw [e1, e2]; rfl
  have fin : Ev (fun k => (annealref1_Less.f k 2 (uniN (w / 256) : Int) 0).bind fun t => (some (!t))) true := Ev.bind (less_ev _ hle) (Ev.now _)
  by_cases c : a3 = 0
  · subst c
    refine Ev.bind (below_zero a0 a1 a4 p4) (Ev.bind (uni_ev w (by omega)) (Ev.congr (fun k => ?_) fin))
    rw [if_neg (by decide), if_pos rfl, if_pos rfl, if_pos (by omega), if_pos hbool]
  · obtain ⟨v, hv, v0, v1⟩ := below_ev a0 a1 a4 a3 p4 (by omega) q3
    refine Ev.bind hv (Ev.bind (uni_ev w (by omega)) (Ev.congr (fun k => ?_) fin))
    rw [if_pos v1, if_pos (by omega), if_pos hbool]
end Go.Proofs.Ytngkpekmgahjiaa.Pure
