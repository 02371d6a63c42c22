/- Layers 10 and 26: every word is below 2^32, a number below another is below it, and an epoch's order is a permutation of its rows. -/
import Derived.Test.YtjmihdhclbjaeaaNum
import Derived.Test.YtjmihdhclbjaeaaPx1
import Derived.Test.YtjmihdhclbjaeaaPx2
import Derived.Test.YtjmihdhclbjaeaaPx3
namespace Go.Proofs.Ytjmihdhclbjaeaa.Batch
open Go.RowKit Go.Proofs.Ytjmihdhclbjaeaa.P Go.Proofs.Ytjmihdhclbjaeaa.Num Go.Proofs.YtjmihdhclbjaeaaW.PrintWords Go.Proofs.YtjmihdhclbjaeaaW.PrintLast Go.Proofs.YtjmihdhclbjaeaaW.PrintMore

theorem xor_in (a b : Int) : 0 ≤ Go.bits .xor .u32 a b ∧ Go.bits .xor .u32 a b < 4294967296 := by
  show 0 ≤ IntKind.u32.wrap _ ∧ IntKind.u32.wrap _ < 4294967296
  rw [u32_wrap]; exact ⟨Int.emod_nonneg _ (by decide), Int.emod_lt_of_pos _ (by decide)⟩
theorem mod_in (a : Int) : 0 ≤ a % 4294967296 ∧ a % 4294967296 < 4294967296 := ⟨Int.emod_nonneg _ (by decide), Int.emod_lt_of_pos _ (by decide)⟩
def In4 (r : Int × Int × Int × Int) : Prop := (0 ≤ r.1 ∧ r.1 < 4294967296) ∧ (0 ≤ r.2.1 ∧ r.2.1 < 4294967296) ∧ (0 ≤ r.2.2.1 ∧ r.2.2.1 < 4294967296) ∧ (0 ≤ r.2.2.2 ∧ r.2.2.2 < 4294967296)
theorem once_in (a b c d e f : Int) : ∃ r, philox_once.f a b c d e f = some r ∧ In4 r :=
  ⟨_, rfl, xor_in _ _, mod_in _, xor_in _ _, mod_in _⟩
theorem block_loop (d : Nat) : ∀ (i : Nat), i + d = 10 → ∀ a b c e f g : Int, (d = 0 → In4 (c, e, f, g)) → ∃ r, Ev (fun k => philox_Block.l0 k (i : Int) a b c e f g) r ∧ In4 r := by
  induction d with
  | zero =>
    intro i hi a b c e f g h
    exact ⟨_, Ev.step (fun k => by rw [philox_Block.l0, if_neg (by omega)]) (Ev.now _), h rfl⟩
  | succ d ih =>
    intro i hi a b c e f g _
    obtain ⟨r, hr, hin⟩ := once_in a b c e f g
    obtain ⟨s, hs, hins⟩ := ih (i + 1) (by omega) ((a + 2654435769) % 4294967296) ((b + 3144134277) % 4294967296) r.1 r.2.1 r.2.2.1 r.2.2.2 (fun _ => hin)
    refine ⟨s, Ev.step (fun k => by rw [philox_Block.l0, if_pos (by omega), hr, Option.bind_some, w64_id _ (by omega) (by omega)]) ?_, hins⟩
    exact Ev.congr (fun k => by rw [Int.natCast_add]; rfl) hs
theorem block_ev (a b c e f g : Int) : ∃ r, Ev (fun k => philox_Block.f k a b c e f g) r ∧ In4 r := by
  obtain ⟨r, h, hin⟩ := block_loop 10 0 rfl a b c e f g (fun h => by cases h)
  exact ⟨r, Ev.congr (fun k => rfl) h, hin⟩
theorem word_ev (a b n : Int) (hn : 0 ≤ n) : ∃ w, Ev (fun k => philox_Word.f k a b n) w ∧ 0 ≤ w ∧ w < 4294967296 := by
  obtain ⟨r, h, h1, h2, h3, h4⟩ := block_ev ((a) % 4294967296) ((a / 4294967296) % 4294967296) ((IntKind.u64.wrap (Int.tdiv n 4)) % 4294967296) (((IntKind.u64.wrap (Int.tdiv n 4)) / 4294967296) % 4294967296) b 0
  have e := Int.tmod_eq_emod_of_nonneg (b := 4) hn
  have c : n % 4 = 0 ∨ n % 4 = 1 ∨ n % 4 = 2 ∨ n % 4 = 3 := by omega
  rcases c with c | c | c | c
  · exact ⟨r.1, Ev.congr (fun k => by unfold philox_Word.f; rfl) (Ev.bind h (Ev.congr (fun k => by rw [e, c]; rfl) (Ev.now _))), h1⟩
  · exact ⟨r.2.1, Ev.congr (fun k => by unfold philox_Word.f; rfl) (Ev.bind h (Ev.congr (fun k => by rw [e, c]; rfl) (Ev.now _))), h2⟩
  · exact ⟨r.2.2.1, Ev.congr (fun k => by unfold philox_Word.f; rfl) (Ev.bind h (Ev.congr (fun k => by rw [e, c]; rfl) (Ev.now _))), h3⟩
  · exact ⟨r.2.2.2, Ev.congr (fun k => by unfold philox_Word.f; rfl) (Ev.bind h (Ev.congr (fun k => by rw [e, c]; rfl) (Ev.now _))), h4⟩
theorem below_lt (w m : Nat) (hw : w < 4294967296) (hm : 0 < m) : w * m / 4294967296 < m := by
  rw [Nat.div_lt_iff_lt_mul (by decide)]
  rw [Nat.mul_comm]; exact Nat.mul_lt_mul_of_pos_left hw hm
theorem below_ev (a b n m : Int) (hn : 0 ≤ n) (hm : 0 < m) (hm' : m < 4294967296) : ∃ v, Ev (fun k => philox_Below.f k a b n m) v ∧ 0 ≤ v ∧ v < m := by
  obtain ⟨w, h, w0, w1⟩ := word_ev a b n hn
  obtain ⟨w, rfl⟩ := nat_of w0
  obtain ⟨m, rfl⟩ := nat_of (show 0 ≤ m by omega)
  have hlt := below_lt w m (by omega) (by omega)
  have hp : w * m < 18446744073709551616 := by
    have := Nat.mul_le_mul (show w ≤ 4294967295 by omega) (show m ≤ 4294967295 by omega)
    omega
  refine ⟨((w * m / 4294967296 : Nat) : Int), ?_, Int.natCast_nonneg _, by exact_mod_cast hlt⟩
  refine Ev.congr (fun k => by unfold philox_Below.f; rfl) (Ev.bind h (Ev.congr (fun k => ?_) (Ev.now _)))
  rw [u64_id w (by omega), u64_id m (by omega), ← Int.natCast_mul, u64_id _ hp]
  congr 1
  generalize hq : w * m = q at *
  omega

/-! ### an order -/
def upto (n : Nat) : List Int := (List.range n).map (fun i : Nat => (i : Int))
theorem upto_succ (n : Nat) : upto (n + 1) = upto n ++ [(n : Int)] := by unfold upto; rw [List.range_succ, List.map_append]; rfl
theorem upto_len (n : Nat) : (upto n).length = n := by unfold upto; simp
theorem set_two (l : List Int) (i j : Nat) (hi : i < l.length) (hj : j < l.length) : ((l.set i (l.getD j 0)).set j (l.getD i 0)).Perm l := by
  have e1 : l.getD j 0 = l[j] := by rw [List.getD_eq_getElem?_getD, List.getElem?_eq_getElem hj]; rfl
  have e2 : l.getD i 0 = l[i] := by rw [List.getD_eq_getElem?_getD, List.getElem?_eq_getElem hi]; rfl
  rw [e1, e2]
  exact List.set_set_perm hi hj
theorem order_l1 (seed s : Int) (d : Nat) : ∀ (l : List Int) (i : Int), i + 1 = (d : Int) → (d : Int) ≤ l.length → d ≤ 4096 → ∃ L, Ev (fun k => batch_Order.l1 k seed l s i) L ∧ L.Perm l := by
  induction d with
  | zero => intro l i hi _ _; exact ⟨l, Ev.step (fun k => by rw [batch_Order.l1, if_neg (by omega)]) (Ev.now _), List.Perm.refl _⟩
  | succ d ih =>
    intro l i hi hl hd
    by_cases c : i > 0
    · obtain ⟨v, hv, v0, v1⟩ := below_ev seed s (IntKind.u64.wrap i) ((wrap64 (i + 1)) % 4294967296) (by rw [u64_wrap]; exact Int.emod_nonneg _ (by decide)) (by rw [w64_id _ (by omega) (by omega)]; omega) (by rw [w64_id _ (by omega) (by omega)]; omega)
      rw [w64_id _ (by omega) (by omega)] at v1
      have hlt : v < (l.length : Int) := by omega
      obtain ⟨L, hL, hp⟩ := ih ((l.set (i : Int).toNat (rd l v)).set (v : Int).toNat (rd l i)) (wrap64 (i - 1)) (by rw [w64_id _ (by omega) (by omega)]; omega) (by simp; omega) (by omega)
      refine ⟨L, Ev.step (fun k => by rw [batch_Order.l1, if_pos c]) (Ev.bind hv (Ev.congr (fun k => ?_) hL)), hp.trans ?_⟩
      · rw [if_pos v0, if_pos hlt, if_pos (show 0 ≤ i by omega), if_pos (show i < (l.length : Int) by omega)]
      · unfold rd; exact set_two l i.toNat v.toNat (by omega) (by omega)
    · exact ⟨l, Ev.step (fun k => by rw [batch_Order.l1, if_neg c]) (Ev.now _), List.Perm.refl _⟩
theorem order_l0 (seed e : Int) (n : Nat) (hn : n ≤ 4096) (d : Nat) : ∀ i, i + d = n → ∃ L, Ev (fun k => batch_Order.l0 k seed e (upto i) (n : Int) (i : Int)) L ∧ L.Perm (upto n) := by
  induction d with
  | zero =>
    intro i hi
    obtain rfl : i = n := by omega
    obtain ⟨L, h, hp⟩ := order_l1 seed ((3221225472 + ((mx e 0) % 4294967296)) % 4294967296) i (upto i) (wrap64 (((upto i).length : Int) - 1)) (by rw [upto_len, w64_id _ (by omega) (by omega)]; omega) (by rw [upto_len]; exact Int.le_refl _) hn
    exact ⟨L, Ev.step (fun k => by rw [batch_Order.l0, if_neg (by omega)]) h, hp⟩
  | succ d ih =>
    intro i hi
    obtain ⟨L, h, hp⟩ := ih (i + 1) (by omega)
    refine ⟨L, Ev.step (fun k => by rw [batch_Order.l0, if_pos (by omega), if_pos (by rw [upto_len]; omega), w64_id _ (by omega) (by omega), ← upto_succ]) ?_, hp⟩
    exact Ev.congr (fun k => by rw [Int.natCast_add]; rfl) h
theorem few_f (n : Nat) (h : n ≤ 4096) : batch_few.f (n : Int) = some (n : Int) := by
  unfold batch_few.f mn mx
  split <;> split <;> congr 1 <;> omega
theorem order_ev (seed e : Int) (n : Nat) (hn : n ≤ 4096) : ∃ L, Ev (fun k => batch_Order.f k (n : Int) seed e) L ∧ L.Perm (upto n) := by
  obtain ⟨L, h, hp⟩ := order_l0 seed e n hn n 0 (by omega)
  exact ⟨L, Ev.congr (fun k => by unfold batch_Order.f; rw [few_f n hn, Option.bind_some]; rfl) h, hp⟩

/-! ### epochs and batches -/
def manyN (n b : Nat) : Nat := (n + b - 1) / b
theorem many_pos (n b : Nat) (hn : 0 < n) (hb : 0 < b) : 0 < manyN n b := Nat.div_pos (by omega) hb
theorem many_f (n b : Nat) (hn : n ≤ 4096) (hb : 0 < b) (hb' : b ≤ 256) : wrap64 (Int.tdiv (wrap64 ((wrap64 ((n : Int) + (b : Int))) - 1)) (b : Int)) = (manyN n b : Int) := by
  rw [w64_id ((n : Int) + b) (by omega) (by omega), w64_id ((n : Int) + b - 1) (by omega) (by omega), show (n : Int) + b - 1 = ((n + b - 1 : Nat) : Int) by omega, Int.tdiv_eq_ediv_of_nonneg (Int.natCast_nonneg _), ← Int.natCast_ediv]
  have : (n + b - 1) / b ≤ n + b - 1 := Nat.div_le_self _ _
  unfold manyN
  generalize (n + b - 1) / b = q at *
  exact w64_id _ (by omega) (by omega)
theorem clip_b (b : Nat) (hb : 0 < b) (hb' : b ≤ 256) : mn (mx (b : Int) 1) 256 = (b : Int) := by
  unfold mn mx; split <;> split <;> omega
theorem mx0 (m : Nat) : mx (m : Int) 0 = (m : Int) := by unfold mx; split <;> omega
theorem epochs_f (n b m : Nat) (hn : 0 < n) (hn' : n ≤ 4096) (hb : 0 < b) (hb' : b ≤ 256) (hm : m < 9223372036854775808) :
    batch_Epochs.f (n : Int) (b : Int) (m : Int) = some (((m / manyN n b : Nat) : Int), ((m % manyN n b : Nat) : Int)) := by
  have hp := many_pos n b hn hb
  unfold batch_Epochs.f
  rw [few_f n hn', Option.bind_some, clip_b b hb hb', many_f n b hn' hb hb', mx0, if_neg (by omega), if_neg (by omega), if_neg (by omega)]
  rw [Int.tdiv_eq_ediv_of_nonneg (Int.natCast_nonneg _), ← Int.natCast_ediv, ← Int.natCast_emod]
  have : m / manyN n b ≤ m := Nat.div_le_self _ _
  generalize m / manyN n b = q at *
  rw [w64_id _ (by omega) (by omega)]
theorem known_ev : Ev (fun k => anneallaw26_known.f k) true := Ev.of anneallaw26_known.mono (k := 40) (by kernel_rfl)
end Go.Proofs.Ytjmihdhclbjaeaa.Batch
