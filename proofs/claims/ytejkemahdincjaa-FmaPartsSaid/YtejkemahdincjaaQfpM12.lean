import Derived.Test.YtejkemahdincjaaQfpM8
import Derived.Test.YtejkemahdincjaaQfpM4
import Derived.Test.YtejkemahdincjaaQfpPartsN
import Derived.Test.YtejkemahdincjaaQfpProdF
import Derived.Test.YtejkemahdincjaaQfpM9
import Derived.Test.YtejkemahdincjaaQfpM7
/- Numbers drawn, of any format: no more bits than the format has. Plain numbers. -/
set_option linter.unusedVariables false
set_option linter.unusedSimpArgs false
namespace Go.Proofs.Ytejkemahdincjaa.Round
open Go.RowKit Go.Proofs.Ytejkemahdincjaa.P Go.Proofs.Ytejkemahdincjaa.Num Go.Proofs.Ytejkemahdincjaa.BitsF Go.Proofs.Ytejkemahdincjaa.Fmt Go.Proofs.YtejkemahdincjaaW.PrintWords Go.Proofs.YtejkemahdincjaaW.PrintLast Go.Proofs.YtejkemahdincjaaW.PrintMore

theorem and_lt (f y : Int) : ∃ m : Nat, Go.bits .and .u32 y (maskN f : Int) = (m : Int) ∧ m < 2 ^ (fe f + fm f + 1) := by
 have hb := fbounds f
 have h32 := pow_le32 (show fe f + fm f + 1 ≤ 32 by omega)
 have hp := Nat.two_pow_pos (fe f + fm f + 1)
 have hm : (BitVec.ofInt 32 y &&& BitVec.ofInt 32 (maskN f : Int)).toNat < 2 ^ (fe f + fm f + 1) := by
  rw [BitVec.toNat_and, BitVec.ofInt_natCast, BitVec.toNat_ofNat]
  have h1 := Nat.and_le_right (n := (BitVec.ofInt 32 y).toNat) (m := maskN f % 2 ^ 32)
  have h2 := Nat.mod_le (maskN f) (2 ^ 32)
  have h3 : maskN f < 2 ^ (fe f + fm f + 1) := by unfold maskN; omega
  omega
 refine ⟨_, ?_, hm⟩
 show IntKind.u32.wrap (((BitVec.ofInt 32 y &&& BitVec.ofInt 32 (maskN f : Int)).toNat : Nat) : Int) = _
 exact wraps_u32 _ (Int.natCast_nonneg _) (by omega)
theorem or_top_lt (f : Int) (m : Nat) (h : m < 2 ^ (fe f + fm f + 1)) : ∃ x : Nat, Go.bits .or .u32 (m : Int) (signN f true : Int) = (x : Int) ∧ x < 2 ^ (fe f + fm f + 1) := by
 have hb := fbounds f
 have h32 := pow_le32 (show fe f + fm f + 1 ≤ 32 by omega)
 have h31 := pow_le31 (show fe f + fm f ≤ 31 by omega)
 have hs : signN f true = 2 ^ (fe f + fm f) := rfl
 refine ⟨m ||| 2 ^ (fe f + fm f), ?_, Nat.or_lt_two_pow h (Nat.pow_lt_pow_right (by decide) (by omega))⟩
 rw [hs, or_u32 m _ (by omega) (by omega)]
theorem num_low (f : Int) (a : Nat) : ∃ x : Nat, annealseat_Num.f f (a : Int) = some (x : Int) ∧ x < 2 ^ (fe f + fm f + 1) ∧ x < 4294967296 := by
 have hb := fbounds f
 have h32 := pow_le32 (show fe f + fm f + 1 ≤ 32 by omega)
 have e := Int.tmod_eq_emod_of_nonneg (b := 15) (Int.natCast_nonneg a)
 have hp : 0 ≤ Int.tmod (a : Int) 15 ∧ Int.tmod (a : Int) 15 < 15 := by rw [e]; omega
 have fin : ∀ y : Int, ∃ x : Nat, (if (a : Int) / 2147483648 = 1 then (some (signN f true : Int)).bind (fun t => some (Go.bits .or .u32 (Go.bits .and .u32 y (maskN f : Int)) t)) else some (Go.bits .and .u32 y (maskN f : Int))) = some (x : Int) ∧ x < 2 ^ (fe f + fm f + 1) ∧ x < 4294967296 := by
  intro y
  obtain ⟨m, h1, h2⟩ := and_lt f y
  rw [h1]
  by_cases c : (a : Int) / 2147483648 = 1
  ·rw [if_pos c, Option.bind_some]
   obtain ⟨x, h3, h4⟩ := or_top_lt f m h2
   exact ⟨x, by rw [h3], h4, by omega⟩
  ·rw [if_neg c]
   exact ⟨m, rfl, h2, by omega⟩
 unfold annealseat_Num.f
 rw [ref_widths_f, Option.bind_some]
 dsimp only
 rcases fcases f with ⟨h1, h2⟩ | ⟨h1, h2⟩ | ⟨h1, h2⟩
 ·rw [h1, h2, if_pos (by decide), if_pos (by decide), if_neg (by decide), if_pos (show (0 : Int) ≤ wrap64 (((10 : Nat) : Int) - 1) by unfold wrap64; omega), if_neg (by decide), Option.bind_some, if_pos hp.1, if_pos (by exact hp.2), ref_mask_f, Option.bind_some, ref_zero_f]
  rw [h1, h2] at fin
  exact fin _
 ·rw [h1, h2, if_pos (by decide), if_pos (by decide), if_neg (by decide), if_pos (show (0 : Int) ≤ wrap64 (((7 : Nat) : Int) - 1) by unfold wrap64; omega), if_neg (by decide), Option.bind_some, if_pos hp.1, if_pos (by exact hp.2), ref_mask_f, Option.bind_some, ref_zero_f]
  rw [h1, h2] at fin
  exact fin _
 ·rw [h1, h2, if_pos (by decide), if_pos (by decide), if_neg (by decide), if_pos (show (0 : Int) ≤ wrap64 (((23 : Nat) : Int) - 1) by unfold wrap64; omega), if_neg (by decide), Option.bind_some, if_pos hp.1, if_pos (by exact hp.2), ref_mask_f, Option.bind_some, ref_zero_f]
  rw [h1, h2] at fin
  exact fin _
end Go.Proofs.Ytejkemahdincjaa.Round

/- FmaParts: with a nought behind it is a product, with a one ahead a sum: for any two numbers of each format, in each mode. -/
namespace Go.Proofs.Ytejkemahdincjaa.Pure
open Go.RowKit Go.Proofs.Ytejkemahdincjaa.P Go.Proofs.Ytejkemahdincjaa.Num Go.Proofs.Ytejkemahdincjaa.BitsF Go.Proofs.Ytejkemahdincjaa.Fmt Go.Proofs.Ytejkemahdincjaa.Round Go.Proofs.YtejkemahdincjaaW.PrintWords Go.Proofs.YtejkemahdincjaaW.PrintLast Go.Proofs.YtejkemahdincjaaW.PrintMore

theorem known5_ev : Ev (fun k => anneallaw5_known.f k) true := Ev.of anneallaw5_known.mono (k := 60) (by kernel_rfl)
theorem form5_some (c : Nat) : ∃ f : Int, anneallaw5_form.f (c : Int) = some f := by
 have e := Int.tmod_eq_emod_of_nonneg (b := 3) (Int.natCast_nonneg c)
 unfold anneallaw5_form.f
 rw [Option.bind_some, e]
 have h : (c : Int) % 3 = 0 ∨ (c : Int) % 3 = 1 ∨ (c : Int) % 3 = 2 := by omega
 rcases h with h | h | h <;> rw [h] <;> exact ⟨_, rfl⟩
theorem from_one_ev (f mode : Int) : ∃ x : Bool × Bool × Bool × Bool × Bool, Ev (fun k => annealref1_FromInt.f k f mode 1) ((unoN f : Int), x) := by
 have hp := ref_pack_ev f mode false 0 1 false (by decide)
 rw [clampE_id _ (by decide) (by decide), int_one] at hp
 exact ⟨_, Ev.congr (fun k => by unfold annealref1_FromInt.f; rw [if_neg (by decide), show IntKind.u64.wrap 1 = ((1 : Nat) : Int) from by rw [u64_wrap]; rfl]) (Ev.bind hp (Ev.now _))⟩
theorem and_top (f : Int) (v : Nat) (hv : v < 4294967296) : Go.bits .and .u32 (v : Int) (signN f true : Int) = (signN f (negN f v) : Int) := by
 have hb := fbounds f
 have h31 := pow_le31 (show fe f + fm f ≤ 31 by omega)
 have hs : signN f true = 2 ^ (fe f + fm f) := rfl
 rw [and_u32 v _ hv (by omega), hs]
 congr 1
 apply Nat.eq_of_testBit_eq
 intro i
 rw [Nat.testBit_and, Nat.testBit_two_pow]
 unfold signN negN
 by_cases e : fe f + fm f = i
 ·subst e
  rw [Nat.testBit_eq_decide_div_mod_eq]
  by_cases c : v / 2 ^ (fe f + fm f) % 2 = 1
  ·rw [decide_eq_true c, if_pos rfl, Nat.testBit_two_pow]; simp
  ·rw [decide_eq_false c, if_neg (by decide)]; simp
 ·rw [decide_eq_false e, Bool.and_false]
  split
  ·rw [Nat.testBit_two_pow, decide_eq_false e]
  ·simp
theorem radd_ev (f mode : Int) (a b : Nat) (ha : a < 4294967296) (hb : b < 4294967296) : Ev (fun k => annealref1_Add.f k f mode (a : Int) (b : Int)) ((sumN f mode a b : Int), sumX f mode a b) := ref_add_ev f mode a b ha hb
theorem FmaParts : anneallaw5_FmaParts.Pure := by
 intro a0 a1 a2 a3 h0 h1 h2 h3
 obtain ⟨p0, q0⟩ := wf_u8 h0
 obtain ⟨p2, q2⟩ := wf_u32 h2
 obtain ⟨p3, q3⟩ := wf_u32 h3
 obtain ⟨c, rfl⟩ := nat_of p0
 obtain ⟨a, rfl⟩ := nat_of p2
 obtain ⟨b, rfl⟩ := nat_of p3
 obtain ⟨f, ff⟩ := form5_some c
 obtain ⟨x, hx, _, xv⟩ := num_low f a
 obtain ⟨y, hy, _, yv⟩ := num_low f b
 apply Ev.rounds
 unfold anneallaw5_FmaParts.f
 refine Ev.bind known5_ev ?_
 generalize wrap64 (Int.tmod a1 5) = mode
 obtain ⟨X, hX⟩ := from_one_ev f mode
 obtain ⟨u1, u2, _⟩ := uno_parts f
 have xy : x ^^^ y < 4294967296 := Nat.xor_lt_two_pow (n := 32) xv yv
 obtain ⟨m1, m2⟩ := fma_nought f mode x y
 obtain ⟨s1, s2⟩ := fma_one f mode x y
 have t1 := fma_all_ev f mode x y _ xv yv (zero_all f (negN f x != negN f y)).2.2
 have t2 := fma_all_ev f mode (unoN f) x y u2 xv yv
 rw [m1, m2] at t1
 rw [s1, s2] at t2
 refine Ev.congr (fun k => by rw [if_pos rfl, ff, Option.bind_some, hx, Option.bind_some, hy, Option.bind_some]) (Ev.bind hX (Ev.bind (mul_ev f mode x y xv yv) ?_))
 dsimp only
 refine Ev.congr (fun k => by rw [ref_zero_f, Option.bind_some, xor_u32 x y xv yv, and_top f _ xy, neg_xor, sign_ne, ref_zero_f, Option.bind_some]) (Ev.bind t1 (Ev.bind (radd_ev f mode x y xv yv) (Ev.bind t2 (Ev.congr (fun k => ?_) (Ev.now true)))))
 simp
end Go.Proofs.Ytejkemahdincjaa.Pure
