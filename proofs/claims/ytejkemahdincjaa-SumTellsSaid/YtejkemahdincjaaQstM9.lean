import Derived.Test.YtejkemahdincjaaQstProdF
import Derived.Test.YtejkemahdincjaaQstM8
import Derived.Test.YtejkemahdincjaaQstM5
import Derived.Test.YtejkemahdincjaaQstM7
import Derived.Test.YtejkemahdincjaaQstM3
import Derived.Test.YtejkemahdincjaaQstM6
import Derived.Test.YtejkemahdincjaaQstPx25
/- A product and a number together: the program's, of finite numbers, as plain numbers. -/
set_option linter.unusedVariables false
set_option linter.unusedSimpArgs false
namespace Go.Proofs.Ytejkemahdincjaa.Round
open Go.RowKit Go.Proofs.Ytejkemahdincjaa.P Go.Proofs.Ytejkemahdincjaa.Num Go.Proofs.Ytejkemahdincjaa.BitsF Go.Proofs.Ytejkemahdincjaa.Fmt Go.Proofs.YtejkemahdincjaaW.PrintWords Go.Proofs.YtejkemahdincjaaW.PrintLast Go.Proofs.YtejkemahdincjaaW.PrintMore

end Go.Proofs.Ytejkemahdincjaa.Round

/- The reference's differences, products with a sum: as plain numbers. -/
namespace Go.Proofs.Ytejkemahdincjaa.Round
open Go.RowKit Go.Proofs.Ytejkemahdincjaa.P Go.Proofs.Ytejkemahdincjaa.E Go.Proofs.Ytejkemahdincjaa.Num Go.Proofs.Ytejkemahdincjaa.BitsF Go.Proofs.Ytejkemahdincjaa.Fmt Go.Proofs.YtejkemahdincjaaW.PrintWords Go.Proofs.YtejkemahdincjaaW.PrintLast Go.Proofs.YtejkemahdincjaaW.PrintMore

theorem rminus_ev (f : Int) (v : Nat) (hv : v < 4294967296) : Ev (fun k => P.annealref1_Minus.f k f (v : Int)) ((if 4 ≤ clsN f v then lowN f v else turnN f v : Nat) : Int) := by
  have hb := fbounds f
  have h31 := pow_le31 (show fe f + fm f ≤ 31 by omega)
  have h32 := pow_le32 (show fe f + fm f + 1 ≤ 32 by omega)
  refine Ev.congr (fun k => by unfold P.annealref1_Minus.f; rfl) (Ev.bind (nans1_ev f v hv) ?_)
  by_cases n : 4 ≤ clsN f v
  · rw [if_pos n]
    exact Ev.congr (fun k => by rw [if_pos (show isNan f v = true from decide_eq_true n), ref_mask_f, Option.bind_some, and_mask f v hv]) (Ev.now _)
  · rw [if_neg n]
    refine Ev.congr (fun k => ?_) (Ev.now _)
    have hs : signN f true = 2 ^ (fe f + fm f) := rfl
    have hs0 : signN f false = 0 := rfl
    have hx : (v ^^^ 2 ^ (fe f + fm f)) < 4294967296 := Nat.xor_lt_two_pow (n := 32) hv (by omega)
    have key : lowN f (v ^^^ 2 ^ (fe f + fm f)) = turnN f v := by
      unfold lowN
      rw [Nat.xor_mod_two_pow, Nat.mod_eq_of_lt (show 2 ^ (fe f + fm f) < 2 ^ (fe f + fm f + 1) from Nat.pow_lt_pow_right (by decide) (Nat.lt_succ_self _))]
      have hm := mag_lt f v
      have hvm := low_mag f v
      unfold lowN at hvm
      rw [hvm]
      obtain ⟨x1, x2⟩ := xor_off (magN f v) (fe f + fm f) hm
      unfold turnN
      cases hn : negN f v
      · rw [hs0, Nat.add_zero, Bool.not_false, hs, x1]
      · rw [hs, Bool.not_true, hs0, Nat.add_zero, x2]
    rw [if_neg (show ¬ isNan f v = true by unfold isNan; rw [decide_eq_true_iff]; exact n), ref_sign_f, Option.bind_some, ref_mask_f, Option.bind_some, hs, xor_u32 v _ hv (by omega), and_mask f _ hx, key]
theorem ref_sub_ev (f mode : Int) (a b : Nat) (ha : a < 4294967296) (hb : b < 4294967296) : Ev (fun n => E.annealref1_Sub.f n f mode (a : Int) (b : Int)) ((subN f mode a b : Int), subX f mode a b) := by
  refine Ev.congr (fun n => annealref1_Sub.eq n f mode a b) (Ev.bind (rminus_ev f b hb) ?_)
  have tp := turn_parts f b
  by_cases n : 4 ≤ clsN f b
  · rw [if_pos n]
    have e : sumN f mode a (lowN f b) = subN f mode a b ∧ sumX f mode a (lowN f b) = subX f mode a b := by
      unfold sumN sumX subN subX isLoud
      rw [cls_low, if_pos (.inr n), if_pos (.inr n), if_pos (.inr n), if_pos (.inr n)]; exact ⟨rfl, rfl⟩
    rw [← e.1, ← e.2]
    exact Ev.bind (ref_add_ev f mode a (lowN f b) ha (low_32 f b)) (Ev.now _)
  · rw [if_neg n]
    have e : sumN f mode a (turnN f b) = subN f mode a b ∧ sumX f mode a (turnN f b) = subX f mode a b := by
      unfold subN subX
      by_cases m : 4 ≤ clsN f a
      · unfold sumN sumX isLoud
        rw [tp.2.1, if_pos (.inl m), if_pos (.inl m), if_pos (.inl m), if_pos (.inl m)]; exact ⟨rfl, rfl⟩
      · rw [if_neg (show ¬ (4 ≤ clsN f a ∨ 4 ≤ clsN f b) by omega), if_neg (show ¬ (4 ≤ clsN f a ∨ 4 ≤ clsN f b) by omega)]; exact ⟨rfl, rfl⟩
    rw [← e.1, ← e.2]
    exact Ev.bind (ref_add_ev f mode a (turnN f b) ha tp.2.2.2.2) (Ev.now _)

end Go.Proofs.Ytejkemahdincjaa.Round

/- Numbers drawn, of any format: no more bits than the format has. Plain numbers. -/
namespace Go.Proofs.Ytejkemahdincjaa.Round
open Go.RowKit Go.Proofs.Ytejkemahdincjaa.P Go.Proofs.Ytejkemahdincjaa.Num Go.Proofs.Ytejkemahdincjaa.BitsF Go.Proofs.Ytejkemahdincjaa.Fmt Go.Proofs.YtejkemahdincjaaW.PrintWords Go.Proofs.YtejkemahdincjaaW.PrintLast Go.Proofs.YtejkemahdincjaaW.PrintMore

theorem and_lt (f y : Int) : ∃ m : Nat, Go.bits .and .u32 y (maskN f : Int) = (m : Int) ∧ m < 2 ^ (fe f + fm f + 1) := by
 have hb := fbounds f
 have h32 := pow_le32 (show fe f + fm f + 1 ≤ 32 by omega)
 have hp := Nat.two_pow_pos (fe f + fm f + 1)
 have hm : (BitVec.ofInt 32 y &&& BitVec.ofInt 32 (maskN f : Int)).toNat < 2 ^ (fe f + fm f + 1) := by
  rw [BitVec.toNat_and, BitVec.ofInt_natCast, BitVec.toNat_ofNat]
  have h1 := Nat.and_le_right (n := (BitVec.ofInt 32 y).toNat) (m := maskN f % 2 ^ 32)
  have h2 := Nat.mod_le (maskN f) (2 ^ 32)
  have h3 : maskN f < 2 ^ (fe f + fm f + 1) := by unfold maskN; omega
  omega
 refine ⟨_, ?_, hm⟩
 show IntKind.u32.wrap (((BitVec.ofInt 32 y &&& BitVec.ofInt 32 (maskN f : Int)).toNat : Nat) : Int) = _
 exact wraps_u32 _ (Int.natCast_nonneg _) (by omega)
theorem or_top_lt (f : Int) (m : Nat) (h : m < 2 ^ (fe f + fm f + 1)) : ∃ x : Nat, Go.bits .or .u32 (m : Int) (signN f true : Int) = (x : Int) ∧ x < 2 ^ (fe f + fm f + 1) := by
 have hb := fbounds f
 have h32 := pow_le32 (show fe f + fm f + 1 ≤ 32 by omega)
 have h31 := pow_le31 (show fe f + fm f ≤ 31 by omega)
 have hs : signN f true = 2 ^ (fe f + fm f) := rfl
 refine ⟨m ||| 2 ^ (fe f + fm f), ?_, Nat.or_lt_two_pow h (Nat.pow_lt_pow_right (by decide) (by omega))⟩
 rw [hs, or_u32 m _ (by omega) (by omega)]
theorem num_low (f : Int) (a : Nat) : ∃ x : Nat, annealseat_Num.f f (a : Int) = some (x : Int) ∧ x < 2 ^ (fe f + fm f + 1) ∧ x < 4294967296 := by
 have hb := fbounds f
 have h32 := pow_le32 (show fe f + fm f + 1 ≤ 32 by omega)
 have e := Int.tmod_eq_emod_of_nonneg (b := 15) (Int.natCast_nonneg a)
 have hp : 0 ≤ Int.tmod (a : Int) 15 ∧ Int.tmod (a : Int) 15 < 15 := by rw [e]; omega
 have fin : ∀ y : Int, ∃ x : Nat, (if (a : Int) / 2147483648 = 1 then (some (signN f true : Int)).bind (fun t => some (Go.bits .or .u32 (Go.bits .and .u32 y (maskN f : Int)) t)) else some (Go.bits .and .u32 y (maskN f : Int))) = some (x : Int) ∧ x < 2 ^ (fe f + fm f + 1) ∧ x < 4294967296 := by
  intro y
  obtain ⟨m, h1, h2⟩ := and_lt f y
  rw [h1]
  by_cases c : (a : Int) / 2147483648 = 1
  ·rw [if_pos c, Option.bind_some]
   obtain ⟨x, h3, h4⟩ := or_top_lt f m h2
   exact ⟨x, by rw [h3], h4, by omega⟩
  ·rw [if_neg c]
   exact ⟨m, rfl, h2, by omega⟩
 unfold annealseat_Num.f
 rw [ref_widths_f, Option.bind_some]
 dsimp only
 rcases fcases f with ⟨h1, h2⟩ | ⟨h1, h2⟩ | ⟨h1, h2⟩
 ·rw [h1, h2, if_pos (by decide), if_pos (by decide), if_neg (by decide), if_pos (show (0 : Int) ≤ wrap64 (((10 : Nat) : Int) - 1) by unfold wrap64; omega), if_neg (by decide), Option.bind_some, if_pos hp.1, if_pos (by exact hp.2), ref_mask_f, Option.bind_some, ref_zero_f]
  rw [h1, h2] at fin
  exact fin _
 ·rw [h1, h2, if_pos (by decide), if_pos (by decide), if_neg (by decide), if_pos (show (0 : Int) ≤ wrap64 (((7 : Nat) : Int) - 1) by unfold wrap64; omega), if_neg (by decide), Option.bind_some, if_pos hp.1, if_pos (by exact hp.2), ref_mask_f, Option.bind_some, ref_zero_f]
  rw [h1, h2] at fin
  exact fin _
 ·rw [h1, h2, if_pos (by decide), if_pos (by decide), if_neg (by decide), if_pos (show (0 : Int) ≤ wrap64 (((23 : Nat) : Int) - 1) by unfold wrap64; omega), if_neg (by decide), Option.bind_some, if_pos hp.1, if_pos (by exact hp.2), ref_mask_f, Option.bind_some, ref_zero_f]
  rw [h1, h2] at fin
  exact fin _
end Go.Proofs.Ytejkemahdincjaa.Round

/- SumTells: each sum and difference is as the reference's, for any two numbers of each format, in each mode. -/
namespace Go.Proofs.Ytejkemahdincjaa.Pure
open Go.RowKit Go.Proofs.Ytejkemahdincjaa.P Go.Proofs.Ytejkemahdincjaa.Num Go.Proofs.Ytejkemahdincjaa.BitsF Go.Proofs.Ytejkemahdincjaa.Fmt Go.Proofs.Ytejkemahdincjaa.Round Go.Proofs.YtejkemahdincjaaW.PrintWords Go.Proofs.YtejkemahdincjaaW.PrintLast Go.Proofs.YtejkemahdincjaaW.PrintMore

theorem known4_ev : Ev (fun k => anneallaw4_known.f k) true := Ev.of anneallaw4_known.mono (k := 60) (by kernel_rfl)
theorem form4_some (c : Nat) : ∃ f : Int, anneallaw4_form.f (c : Int) = some f := by
 have e := Int.tmod_eq_emod_of_nonneg (b := 3) (Int.natCast_nonneg c)
 unfold anneallaw4_form.f
 rw [Option.bind_some, e]
 have h : (c : Int) % 3 = 0 ∨ (c : Int) % 3 = 1 ∨ (c : Int) % 3 = 2 := by omega
 rcases h with h | h | h <;> rw [h] <;> exact ⟨_, rfl⟩
theorem radd_ev (f mode : Int) (a b : Nat) (ha : a < 4294967296) (hb : b < 4294967296) : Ev (fun k => annealref1_Add.f k f mode (a : Int) (b : Int)) ((sumN f mode a b : Int), sumX f mode a b) := ref_add_ev f mode a b ha hb
theorem rsub_ev (f mode : Int) (a b : Nat) (ha : a < 4294967296) (hb : b < 4294967296) : Ev (fun k => annealref1_Sub.f k f mode (a : Int) (b : Int)) ((subN f mode a b : Int), subX f mode a b) := ref_sub_ev f mode a b ha hb
theorem tells_step (x0 x1 x4 x5 : Int) (L : List S26) (i u v : Nat) (hL : L.length = 4) (hi : i < 4) (hu : u < 4294967296) (hv : v < 4294967296) (h0 : (rd_T26 L (i : Int)).f2 = (u : Int)) (h1 : (rd_T26 L (i : Int)).f3 = (v : Int))
  (h : Ev (fun k => anneallaw4_SumTells.l0 k x0 x1 x4 x5 L 4 ((i + 1 : Nat) : Int)) true) : Ev (fun k => anneallaw4_SumTells.l0 k x0 x1 x4 x5 L 4 (i : Int)) true := by
 have hw : wrap64 ((i : Int) + 1) = ((i + 1 : Nat) : Int) := by rw [w64_id _ (by omega) (by omega)]; omega
 refine Ev.step (fun k => by rw [anneallaw4_SumTells.l0, if_pos (by omega), if_pos (Int.natCast_nonneg _), if_pos (by rw [hL]; omega), h0, h1, hw]) (Ev.bind (add_ev _ _ u v hu hv) (Ev.bind (radd_ev _ _ u v hu hv) (Ev.bind (sub_ev _ _ u v hu hv) (Ev.bind (rsub_ev _ _ u v hu hv) (Ev.congr (fun k => ?_) h)))))
 simp
theorem tells_end (x0 x1 : Int) (a b : Nat) (L : List S26) (ha : a < 4294967296) (hb : b < 4294967296) : Ev (fun k => anneallaw4_SumTells.l0 k x0 x1 (a : Int) (b : Int) L 4 ((4 : Nat) : Int)) true := by
 refine Ev.step (fun k => by rw [anneallaw4_SumTells.l0, if_neg (by decide)]) (Ev.bind (add_ev x0 x1 a b ha hb) (Ev.bind (radd_ev x0 x1 a b ha hb) (Ev.congr (fun k => ?_) (Ev.now true))))
 simp
theorem SumTells : anneallaw4_SumTells.Pure := by
 intro a0 a1 a2 a3 a4 a5 h0 h1 h2 h3 h4 h5
 obtain ⟨p2, q2⟩ := wf_u8 h2
 obtain ⟨p4, q4⟩ := wf_u32 h4
 obtain ⟨p5, q5⟩ := wf_u32 h5
 obtain ⟨c, rfl⟩ := nat_of p2
 obtain ⟨a, rfl⟩ := nat_of p4
 obtain ⟨b, rfl⟩ := nat_of p5
 obtain ⟨f, ff⟩ := form4_some c
 obtain ⟨x, hx, _, xv⟩ := num_low f a
 obtain ⟨y, hy, _, yv⟩ := num_low f b
 obtain ⟨m, s, hm, hmr⟩ := mild_f f a (by omega)
 obtain ⟨n, t, hn, hnr⟩ := mild_f f b (by omega)
 have mv : m + signN f s < 4294967296 := by
  rcases hmr with ⟨rfl, rfl⟩ | h
  ·exact (show 0 + 0 < 4294967296 by decide)
  ·exact (mild_parts f m s h.1 h.2).2.2.2.1
 have nv : n + signN f t < 4294967296 := by
  rcases hnr with ⟨rfl, rfl⟩ | h
  ·exact (show 0 + 0 < 4294967296 by decide)
  ·exact (mild_parts f n t h.1 h.2).2.2.2.1
 apply Ev.rounds
 unfold anneallaw4_SumTells.f
 refine Ev.bind known4_ev ?_
 refine Ev.congr (fun k => by rw [if_pos rfl, ff, Option.bind_some, hx, Option.bind_some, hy, Option.bind_some, hm, Option.bind_some, hn, Option.bind_some, Option.bind_some]) ?_
 exact tells_step _ _ _ _ _ 0 x y rfl (by decide) xv yv rfl rfl (tells_step _ _ _ _ _ 1 a b rfl (by decide) (by omega) (by omega) rfl rfl (tells_step _ _ _ _ _ 2 _ _ rfl (by decide) mv nv rfl rfl (tells_step _ _ _ _ _ 3 a b rfl (by decide) (by omega) (by omega) rfl rfl (tells_end a0 a1 a b _ (by omega) (by omega)))))
end Go.Proofs.Ytejkemahdincjaa.Pure
