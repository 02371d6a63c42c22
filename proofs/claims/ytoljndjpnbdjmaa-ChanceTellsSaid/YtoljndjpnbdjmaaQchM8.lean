import Derived.Test.YtoljndjpnbdjmaaQchM7
import Derived.Test.YtoljndjpnbdjmaaQchPx22
import Derived.Test.YtoljndjpnbdjmaaQchM5
import Derived.Test.YtoljndjpnbdjmaaQchM6
/- Numbers drawn, of any format at all: plain numbers. -/
namespace Go.Proofs.Ytoljndjpnbdjmaa.Round
open Go.RowKit Go.Proofs.Ytoljndjpnbdjmaa.P Go.Proofs.Ytoljndjpnbdjmaa.Num Go.Proofs.Ytoljndjpnbdjmaa.BitsF Go.Proofs.Ytoljndjpnbdjmaa.Fmt Go.Proofs.YtoljndjpnbdjmaaW.PrintWords Go.Proofs.YtoljndjpnbdjmaaW.PrintLast Go.Proofs.YtoljndjpnbdjmaaW.PrintMore

theorem any_in (n : Int) : ∃ m : Nat, IntKind.u32.wrap n = (m : Int) ∧ m < 4294967296 := by
  rw [u32_wrap]
  exact ⟨(n % 4294967296).toNat, by omega, by omega⟩
theorem any_bits (op : BinOp) (a b : Int) (h : op = .and ∨ op = .or) : ∃ m : Nat, Go.bits op .u32 a b = (m : Int) ∧ m < 4294967296 := by
  rcases h with rfl | rfl
  · exact any_in _
  · exact any_in _
theorem num_any (f : Int) (a : Nat) : ∃ x : Nat, annealseat_Num.f f (a : Int) = some (x : Int) ∧ x < 4294967296 := by
  have e := Int.tmod_eq_emod_of_nonneg (b := 15) (Int.natCast_nonneg a)
  have hp : 0 ≤ Int.tmod (a : Int) 15 ∧ Int.tmod (a : Int) 15 < 15 := by rw [e]; omega
  have fin : ∀ y : Int, ∃ x : Nat, (if (a : Int) / 2147483648 = 1 then (some (signN f true : Int)).bind (fun t => some (Go.bits .or .u32 (Go.bits .and .u32 y (maskN f : Int)) t)) else some (Go.bits .and .u32 y (maskN f : Int))) = some (x : Int) ∧ x < 4294967296 := by
    intro y
    by_cases c : (a : Int) / 2147483648 = 1
    · rw [if_pos c, Option.bind_some]
      obtain ⟨m, h1, h2⟩ := any_bits .or (Go.bits .and .u32 y (maskN f : Int)) (signN f true : Int) (.inr rfl)
      exact ⟨m, by rw [h1], h2⟩
    · rw [if_neg c]
      obtain ⟨m, h1, h2⟩ := any_bits .and y (maskN f : Int) (.inl rfl)
      exact ⟨m, by rw [h1], h2⟩
  unfold annealseat_Num.f
  rw [ref_widths_f, Option.bind_some]
  dsimp only
  rcases fcases f with ⟨h1, h2⟩ | ⟨h1, h2⟩ | ⟨h1, h2⟩
  · rw [h1, h2, if_pos (by decide), if_pos (by decide), if_neg (by decide), if_pos (show (0 : Int) ≤ wrap64 (((10 : Nat) : Int) - 1) by unfold wrap64; omega), if_neg (by decide), Option.bind_some, if_pos hp.1, if_pos (by exact hp.2), ref_mask_f, Option.bind_some, ref_zero_f]
    exact fin _
  · rw [h1, h2, if_pos (by decide), if_pos (by decide), if_neg (by decide), if_pos (show (0 : Int) ≤ wrap64 (((7 : Nat) : Int) - 1) by unfold wrap64; omega), if_neg (by decide), Option.bind_some, if_pos hp.1, if_pos (by exact hp.2), ref_mask_f, Option.bind_some, ref_zero_f]
    exact fin _
  · rw [h1, h2, if_pos (by decide), if_pos (by decide), if_neg (by decide), if_pos (show (0 : Int) ≤ wrap64 (((23 : Nat) : Int) - 1) by unfold wrap64; omega), if_neg (by decide), Option.bind_some, if_pos hp.1, if_pos (by exact hp.2), ref_mask_f, Option.bind_some, ref_zero_f]
    exact fin _
end Go.Proofs.Ytoljndjpnbdjmaa.Round

/- ChanceTells: which neighbour any number becomes, by any word, is as the reference's: for any format, any number, any word. -/
namespace Go.Proofs.Ytoljndjpnbdjmaa.Pure
open Go.RowKit Go.Proofs.Ytoljndjpnbdjmaa.P Go.Proofs.Ytoljndjpnbdjmaa.Num Go.Proofs.Ytoljndjpnbdjmaa.BitsF Go.Proofs.Ytoljndjpnbdjmaa.Fmt Go.Proofs.Ytoljndjpnbdjmaa.Round Go.Proofs.YtoljndjpnbdjmaaW.PrintWords Go.Proofs.YtoljndjpnbdjmaaW.PrintLast Go.Proofs.YtoljndjpnbdjmaaW.PrintMore
theorem known11_ev : Ev (fun k => anneallaw11_known.f k) true := Ev.of anneallaw11_known.mono (k := 60) (by kernel_rfl)
theorem mild_any (f : Int) (a : Nat) (ha : a < 4294967296) : ∃ x : Nat, annealseat_Mild.f f (a : Int) = some (x : Int) ∧ x < 4294967296 := by
  obtain ⟨m, s, hm, hmr⟩ := mild_f f a ha
  refine ⟨_, hm, ?_⟩
  rcases hmr with ⟨rfl, rfl⟩ | h
  · exact (show 0 + 0 < 4294967296 by decide)
  · exact (mild_parts f m s h.1 h.2).2.2.2.1
theorem w_succ (i : Nat) (h : i < 100) : wrap64 ((i : Int) + 1) = ((i + 1 : Nat) : Int) := by rw [w64_id _ (by omega) (by omega)]; omega
/-- A number of 32 bits. -/
def Bits32 (n : Int) : Prop := ∃ m : Nat, n = (m : Int) ∧ m < 4294967296
theorem bits_mod (n : Int) : Bits32 (n % 4294967296) := ⟨(n % 4294967296).toNat, by omega, by omega⟩
theorem bits_nat (m : Nat) (h : m < 4294967296) : Bits32 (m : Int) := ⟨m, rfl, h⟩
theorem tells_l2 (x1 x2 x3 f : Int) (x : Nat) (hx : x < 4294967296) (A : List Int) (n i : Int) (B : List Int) (m j : Int) (L : List Int) (hL : L.length = 4) (hb : ∀ i : Nat, i < 4 → Bits32 (rd L (i : Int)))
    (h : Ev (fun k => anneallaw11_ChanceTells.l1 k x1 x2 x3 f A n i B m (wrap64 (j + 1))) true) (d : Nat) : ∀ q : Nat, q + d = 4 → Ev (fun k => anneallaw11_ChanceTells.l2 k x1 x2 x3 f (x : Int) A n i B m j L 4 (q : Int)) true := by
  induction d with
  | zero => intro q hq; exact Ev.step (fun k => by rw [anneallaw11_ChanceTells.l2, if_neg (by omega)]) h
  | succ d ih =>
    intro q hq
    obtain ⟨w, hw, wv⟩ := hb q (by omega)
    obtain ⟨y, hy, yv⟩ := any_bits .or (x : Int) 2147483648 (.inr rfl)
    refine Ev.step (fun k => by rw [anneallaw11_ChanceTells.l2, if_pos (by omega), if_pos (Int.natCast_nonneg _), if_pos (by rw [hL]; omega), hw, hy, w_succ q (by omega)]) (Ev.bind (chance_ev f x w hx wv) (Ev.bind (ref_chance_ev f x w hx wv) ?_))
    refine Ev.congr (fun k => by rw [if_pos rfl]) (Ev.bind (chance_ev f y w yv wv) (Ev.bind (ref_chance_ev f y w yv wv) ?_))
    exact Ev.congr (fun k => by rw [if_pos rfl]) (ih (q + 1) (by omega))
theorem word_all (w : Nat) (hw : w < 4294967296) (i : Nat) (hi : i < 4) : Bits32 (rd [(w : Int), 0, 4294967295, ((w : Int) * 65536) % 4294967296] (i : Int)) := by
  have : i = 0 ∨ i = 1 ∨ i = 2 ∨ i = 3 := by omega
  rcases this with rfl | rfl | rfl | rfl
  · exact bits_nat w hw
  · exact bits_nat 0 (by decide)
  · exact bits_nat 4294967295 (by decide)
  · exact bits_mod _
theorem tells_l1 (x1 x2 f : Int) (w : Nat) (hw : w < 4294967296) (A : List Int) (n i : Int) (B : List Int) (hB : B.length = 7) (hb : ∀ i : Nat, i < 7 → Bits32 (rd B (i : Int)))
    (h : Ev (fun k => anneallaw11_ChanceTells.l0 k x1 x2 (w : Int) A n (wrap64 (i + 1))) true) (d : Nat) : ∀ q : Nat, q + d = 7 → Ev (fun k => anneallaw11_ChanceTells.l1 k x1 x2 (w : Int) f A n i B 7 (q : Int)) true := by
  induction d with
  | zero => intro q hq; exact Ev.step (fun k => by rw [anneallaw11_ChanceTells.l1, if_neg (by omega)]) h
  | succ d ih =>
    intro q hq
    obtain ⟨x, hx, xv⟩ := hb q (by omega)
    refine Ev.step (fun k => by rw [anneallaw11_ChanceTells.l1, if_pos (by omega), if_pos (Int.natCast_nonneg _), if_pos (by rw [hB]; omega), hx, Option.bind_some]) ?_
    exact tells_l2 x1 x2 w f x xv A n i B 7 q _ rfl (word_all w hw) (by rw [w_succ q (by omega)]; exact ih (q + 1) (by omega)) 4 0 rfl
theorem tells_l0 (a b w : Nat) (ha : a < 4294967296) (hb : b < 4294967296) (hw : w < 4294967296) (A : List Int) (hA : A.length = 4) (d : Nat) : ∀ q : Nat, q + d = 4 → Ev (fun k => anneallaw11_ChanceTells.l0 k (b : Int) (a : Int) (w : Int) A 4 (q : Int)) true := by
  induction d with
  | zero => intro q hq; exact Ev.step (fun k => by rw [anneallaw11_ChanceTells.l0, if_neg (by omega)]) (Ev.now _)
  | succ d ih =>
    intro q hq
    obtain ⟨x, hx, xv⟩ := num_any 2 b
    obtain ⟨y, hy, yv⟩ := mild_any 2 b hb
    refine Ev.step (fun k => by rw [anneallaw11_ChanceTells.l0, if_pos (by omega), if_pos (Int.natCast_nonneg _), if_pos (by rw [hA]; omega), hx, Option.bind_some, hy, Option.bind_some, Option.bind_some]) ?_
    refine tells_l1 b a _ w hw A 4 q _ rfl (fun i hi => ?_) (by rw [w_succ q (by omega)]; exact ih (q + 1) (by omega)) 7 0 rfl
    have : i = 0 ∨ i = 1 ∨ i = 2 ∨ i = 3 ∨ i = 4 ∨ i = 5 ∨ i = 6 := by omega
    rcases this with rfl | rfl | rfl | rfl | rfl | rfl | rfl
    · exact bits_nat a ha
    · exact bits_nat x xv
    · exact bits_nat y yv
    · exact bits_mod _
    · exact bits_mod _
    · exact bits_mod _
    · exact bits_mod _
theorem ChanceTells : anneallaw11_ChanceTells.Pure := by
  intro a0 a1 a2 a3 h0 h1 h2 h3
  obtain ⟨p1, q1⟩ := wf_u32 h1
  obtain ⟨p2, q2⟩ := wf_u32 h2
  obtain ⟨p3, q3⟩ := wf_u32 h3
  obtain ⟨b, rfl⟩ := nat_of p1
  obtain ⟨a, rfl⟩ := nat_of p2
  obtain ⟨w, rfl⟩ := nat_of p3
  apply Ev.rounds
  unfold anneallaw11_ChanceTells.f
  refine Ev.bind known11_ev ?_
  refine Ev.congr (fun k => by rw [if_pos rfl, Option.bind_some]) ?_
  exact tells_l0 a b w (by omega) (by omega) (by omega) _ rfl 4 0 rfl
end Go.Proofs.Ytoljndjpnbdjmaa.Pure
