/- BatchOnce: each row comes just once in an epoch, for every count of rows from 1 to 40, every batch from 1 to 9, every seed and every 8-bit epoch. -/
import Derived.Test.YtjmihdhclbjaeaaPureBatchEpochs
import Derived.Test.YtjmihdhclbjaeaaPx6
namespace Go.Proofs.Ytjmihdhclbjaeaa.Pure
open Go.RowKit Go.Proofs.Ytjmihdhclbjaeaa.P Go.Proofs.Ytjmihdhclbjaeaa.Num Go.Proofs.Ytjmihdhclbjaeaa.Batch Go.Proofs.YtjmihdhclbjaeaaW.PrintWords Go.Proofs.YtjmihdhclbjaeaaW.PrintLast Go.Proofs.YtjmihdhclbjaeaaW.PrintMore
theorem many_up {n b i : Nat} (hb : 0 < b) (h : i < manyN n b) : i * b < n := by
  have h1 : (i + 1) * b ≤ manyN n b * b := Nat.mul_le_mul_right b h
  have h2 : manyN n b * b ≤ n + b - 1 := Nat.div_mul_le_self _ _
  rw [Nat.add_mul, Nat.one_mul] at h1
  omega
theorem many_all {n b : Nat} (hb : 0 < b) : n ≤ manyN n b * b := by
  have h := Nat.div_add_mod (n + b - 1) b
  have h' := Nat.mod_lt (n + b - 1) hb
  unfold manyN
  rw [Nat.mul_comm] at h
  omega
def slice (L : List Int) (n b i : Nat) : List Int := (L.take (min (i * b + b) n)).drop (i * b)
theorem slice_len (L : List Int) (n b i : Nat) (hL : L.length = n) (hi : i * b < n) : (slice L n b i).length = min (i * b + b) n - i * b := by
  unfold slice; rw [List.length_drop, List.length_take, hL]; omega
theorem slice_rd (L : List Int) (n b i j : Nat) (hL : L.length = n) (hj : j < (slice L n b i).length) (hi : i * b < n) : ∃ h : i * b + j < L.length, rd (slice L n b i) (j : Int) = L[i * b + j] := by
  have hl := slice_len L n b i hL hi
  have h : i * b + j < L.length := by omega
  refine ⟨h, ?_⟩
  unfold rd
  rw [Int.toNat_natCast, List.getD_eq_getElem?_getD, List.getElem?_eq_getElem hj]
  show ((L.take (min (i * b + b) n)).drop (i * b))[j] = _
  exact (List.getElem_drop ..).trans (List.getElem_take ..)
theorem rows_ev (seed : Int) (n b e i : Nat) (L : List Int) (hn : 0 < n) (hn' : n ≤ 4096) (hb : 0 < b) (hb' : b ≤ 256) (he : e < 256) (hi : i < manyN n b) (hm : manyN n b ≤ 4096)
    (h : Ev (fun k => batch_Order.f k (n : Int) seed (e : Int)) L) (hl : L.length = n) :
    Ev (fun k => batch_Rows.f k (n : Int) (b : Int) seed ((e * manyN n b + i : Nat) : Int)) (slice L n b i) := by
  have hp := many_pos n b hn hb
  have hib := many_up hb hi
  have hbig : e * manyN n b ≤ 256 * 4096 := Nat.mul_le_mul (by omega) hm
  have e1 : (e * manyN n b + i) / manyN n b = e := by rw [Nat.mul_comm, Nat.mul_add_div hp, Nat.div_eq_of_lt hi, Nat.add_zero]
  have e2 : (e * manyN n b + i) % manyN n b = i := by rw [Nat.mul_comm, Nat.mul_add_mod, Nat.mod_eq_of_lt hi]
  refine Ev.congr (fun k => by unfold batch_Rows.f; rw [few_f n hn', Option.bind_some, clip_b b hb hb', epochs_f n b _ hn hn' hb hb' (by omega), e1, e2, Option.bind_some]) (Ev.bind h (Ev.congr (fun k => ?_) (Ev.now _)))
  have c : (i : Int) * (b : Int) = ((i * b : Nat) : Int) := by rw [Int.natCast_mul]
  dsimp only
  rw [c]
  unfold slice
  generalize i * b = s at *
  have e3 : mn (wrap64 ((s : Int) + (b : Int))) (n : Int) = ((min (s + b) n : Nat) : Int) := by
    rw [w64_id _ (by omega) (by omega)]; unfold mn; split <;> omega
  rw [w64_id (s : Int) (by omega) (by omega), e3, if_pos (by omega), if_pos (by omega), if_pos (by omega), Int.toNat_natCast, Int.toNat_natCast]
def Seen (L : List Int) (n p : Nat) (S : List Int) : Prop := S.length = n ∧ ∀ v : Nat, v < n → rd S (v : Int) = (((L.take p).count (v : Int) : Nat) : Int)
theorem seen_zero (L : List Int) (n : Nat) : Seen L n 0 (List.replicate n 0) := by
  refine ⟨List.length_replicate, fun v hv => ?_⟩
  unfold rd
  simp [List.getD_eq_getElem?_getD, List.getElem?_replicate, hv]
theorem rd_set_self (S : List Int) (x : Nat) (y : Int) (h : x < S.length) : rd (S.set x y) (x : Int) = y := by
  unfold rd; rw [Int.toNat_natCast, List.getD_eq_getElem?_getD, List.getElem?_set_self h]; rfl
theorem rd_set_ne (S : List Int) (x v : Nat) (y : Int) (h : v ≠ x) : rd (S.set x y) (v : Int) = rd S (v : Int) := by
  unfold rd; rw [Int.toNat_natCast, List.getD_eq_getElem?_getD, List.getElem?_set_ne (fun e => h e.symm), ← List.getD_eq_getElem?_getD]
theorem count_upto (n v : Nat) : (upto n).count (v : Int) = if v < n then 1 else 0 := by
  induction n with
  | zero => rfl
  | succ n ih =>
    rw [upto_succ, List.count_append, ih, List.count_singleton]
    by_cases c : v = n
    · subst c; simp
    · have e : ((n : Int) == (v : Int)) = false := by simp; omega
      rw [e, if_neg (show ¬ (false = true) by decide), Nat.add_zero]
      by_cases d : v < n
      · rw [if_pos d, if_pos (by omega)]
      · rw [if_neg d, if_neg (by omega)]
theorem next_i (i n : Nat) (h : i < n) (hn : n ≤ 4096) : wrap64 ((i : Int) + 1) = ((i + 1 : Nat) : Int) := by rw [w64_id _ (by omega) (by omega)]; omega
theorem at_f (e m i : Nat) (he : e < 256) (hm : m ≤ 4096) (hi : i ≤ 4096) : wrap64 ((wrap64 ((wrap64 (e : Int)) * (m : Int))) + (i : Int)) = ((e * m + i : Nat) : Int) := by
  have hbig : e * m ≤ 256 * 4096 := Nat.mul_le_mul (by omega) hm
  rw [w64_id (e : Int) (by omega) (by omega), ← Int.natCast_mul]
  generalize e * m = q at *
  rw [w64_id (q : Int) (by omega) (by omega), w64_id _ (by omega) (by omega)]; omega
theorem seen_next (L : List Int) (n p x : Nat) (S : List Int) (h : Seen L n p S) (hp : p < L.length) (hx : L[p] = (x : Int)) (hn : x < n) (hL : L.length ≤ 4096) :
    Seen L n (p + 1) (S.set x (wrap64 (rd S (x : Int) + 1))) := by
  obtain ⟨hl, hc⟩ := h
  refine ⟨by rw [List.length_set]; exact hl, fun v hv => ?_⟩
  have ht : L.take (p + 1) = L.take p ++ [(x : Int)] := by rw [← hx]; exact (List.take_append_getElem hp).symm
  have hb : (L.take p).count (x : Int) ≤ 4096 := Nat.le_trans List.count_le_length (by rw [List.length_take]; omega)
  rw [ht, List.count_append]
  by_cases c : v = x
  · subst c
    have e := rd_set_self S v (wrap64 (rd S (v : Int) + 1)) (by omega)
    rw [e, hc v hv, w64_id _ (by omega) (by omega)]
    simp
  · have e := rd_set_ne S x v (wrap64 (rd S (x : Int) + 1)) c
    rw [e, hc v hv, List.count_singleton, if_neg (by simp; omega), Nat.add_zero]
theorem seen_all (L : List Int) (n : Nat) (S : List Int) (hp : L.Perm (upto n)) (h : Seen L n n S) (v : Nat) (hv : v < n) : rd S (v : Int) = 1 := by
  have hl : L.length = n := by rw [hp.length_eq, upto_len]
  rw [h.2 v hv, List.take_of_length_le (by omega), hp.count_eq]
  rw [count_upto, if_pos hv]; rfl
theorem perm_in (L : List Int) (n p : Nat) (hp : L.Perm (upto n)) (h : p < L.length) : ∃ x : Nat, L[p] = (x : Int) ∧ x < n := by
  have : L[p] ∈ upto n := hp.mem_iff.mp (List.getElem_mem h)
  unfold upto at this
  obtain ⟨x, hx, e⟩ := List.mem_map.mp this
  exact ⟨x, e.symm, List.mem_range.mp hx⟩
theorem once_l2 (n : Nat) (hn : n ≤ 4096) (S : List Int) (hl : S.length = n) (h : ∀ v : Nat, v < n → rd S (v : Int) = 1) (d : Nat) : ∀ i, i + d = n → Ev (fun k => anneallaw26_BatchOnce.l2 k (n : Int) S (i : Int)) true := by
  induction d with
  | zero => intro i hi; exact Ev.step (fun k => by rw [anneallaw26_BatchOnce.l2, if_neg (by omega)]) (Ev.now _)
  | succ d ih =>
    intro i hi
    refine Ev.step (fun k => by rw [anneallaw26_BatchOnce.l2, if_pos (by omega), if_pos (by omega), if_pos (by omega), if_pos (h i (by omega)), w64_id _ (by omega) (by omega)]) ?_
    exact Ev.congr (fun k => by rw [Int.natCast_add]; rfl) (ih (i + 1) (by omega))
theorem once_l1 (seed a3 : Int) (n b m i : Nat) (L : List Int) (hn : n ≤ 4096) (hp : L.Perm (upto n)) (hi : i * b < n)
    (go : ∀ S, Seen L n (min (i * b + b) n) S → Ev (fun k => anneallaw26_BatchOnce.l0 k seed a3 (n : Int) (b : Int) (m : Int) S (wrap64 ((i : Int) + 1))) true) (d : Nat) :
    ∀ j S, j + d = (slice L n b i).length → Seen L n (i * b + j) S → Ev (fun k => anneallaw26_BatchOnce.l1 k seed a3 (n : Int) (b : Int) (m : Int) S (i : Int) (slice L n b i) (j : Int)) true := by
  have hl : L.length = n := by rw [hp.length_eq, upto_len]
  have hs := slice_len L n b i hl hi
  induction d with
  | zero =>
    intro j S hj hS
    refine Ev.step (fun k => by rw [anneallaw26_BatchOnce.l1, if_neg (by omega)]) (go S ?_)
    rw [show min (i * b + b) n = i * b + j by omega]; exact hS
  | succ d ih =>
    intro j S hj hS
    obtain ⟨h, hr⟩ := slice_rd L n b i j hl (by omega) hi
    obtain ⟨x, hx, hxn⟩ := perm_in L n _ hp h
    refine Ev.step (fun k => by rw [anneallaw26_BatchOnce.l1, if_pos (by omega), if_pos (by omega), hr, hx, if_neg (by omega), if_neg (by omega), if_pos (by omega), if_pos (by rw [hS.1]; omega), w64_id ((j : Int) + 1) (by omega) (by omega)]) ?_
    refine Ev.congr (fun k => by rw [Int.toNat_natCast, show (j : Int) + 1 = ((j + 1 : Nat) : Int) by omega]) (ih (j + 1) _ (by omega) ?_)
    exact seen_next L n _ x S hS h hx hxn (by omega)
theorem once_l0 (seed : Int) (n b e : Nat) (L : List Int) (hn : 0 < n) (hn' : n ≤ 4096) (hb : 0 < b) (hb' : b ≤ 256) (he : e < 256) (hm : manyN n b ≤ 4096)
    (h : Ev (fun k => batch_Order.f k (n : Int) seed (e : Int)) L) (hp : L.Perm (upto n)) (d : Nat) :
    ∀ i S, i + d = manyN n b → Seen L n (min (i * b) n) S → Ev (fun k => anneallaw26_BatchOnce.l0 k seed (e : Int) (n : Int) (b : Int) (manyN n b : Int) S (i : Int)) true := by
  have hl : L.length = n := by rw [hp.length_eq, upto_len]
  induction d with
  | zero =>
    intro i S hi hS
    obtain rfl : i = manyN n b := by omega
    rw [Nat.min_eq_right (many_all hb)] at hS
    exact Ev.step (fun k => by rw [anneallaw26_BatchOnce.l0, if_neg (by omega)]; rfl) (once_l2 n hn' S hS.1 (seen_all L n S hp hS) n 0 (by omega))
  | succ d ih =>
    intro i S hi hS
    have hib := many_up hb (show i < manyN n b by omega)
    have hs := slice_len L n b i hl hib
    have em := at_f e (manyN n b) i he hm (by omega)
    have hr := rows_ev seed n b e i L hn hn' hb hb' he (by omega) hm h hl
    refine Ev.step (fun k => by rw [anneallaw26_BatchOnce.l0, if_pos (by omega), em]) (Ev.bind hr ?_)
    have ei := next_i i (manyN n b) (by omega) hm
    have hj : Ev (fun k => anneallaw26_BatchOnce.j1 k seed (e : Int) (n : Int) (b : Int) (manyN n b : Int) S (i : Int) (slice L n b i) false) true := by
      refine Ev.step (fun k => by rw [anneallaw26_BatchOnce.j1, if_neg (by decide)]) ?_
      refine Ev.congr (fun k => rfl) (once_l1 seed (e : Int) n b (manyN n b) i L hn' hp hib (fun S' hS' => ?_) (slice L n b i).length 0 S (by omega) ?_)
      · rw [ei]
        refine ih (i + 1) S' (by omega) ?_
        rw [Nat.add_mul, Nat.one_mul]; exact hS'
      · rw [Nat.min_eq_left (by omega)] at hS; exact hS
    refine Ev.congr (fun k => ?_) hj
    rw [if_neg (by rw [hs]; omega), ei]
    by_cases c : i + 1 < manyN n b
    · have hib' := many_up hb c
      rw [Nat.add_mul, Nat.one_mul] at hib'
      rw [if_pos (by omega), show (((slice L n b i).length : Int) != (b : Int)) = false by rw [hs]; simp; omega]
    · rw [if_neg (by omega)]
theorem BatchOnce : anneallaw26_BatchOnce.Pure := by
  intro a0 a1 a2 a3 h0 h1 h2 h3
  obtain ⟨p0, q0⟩ := wf_u8 h0
  obtain ⟨p1, q1⟩ := wf_u8 h1
  obtain ⟨p3, q3⟩ := wf_u8 h3
  obtain ⟨e, rfl⟩ := nat_of p3
  obtain ⟨n, en, n0, n1⟩ := rest_one a0 40 p0 (by decide) (by decide)
  obtain ⟨b, eb, b0, b1⟩ := rest_one a1 9 p1 (by decide) (by decide)
  apply Ev.rounds
  unfold anneallaw26_BatchOnce.f
  refine Ev.bind known_ev ?_
  simp only [if_true]
  rw [show ((40 : Nat) : Int) = 40 from rfl] at en
  rw [show ((9 : Nat) : Int) = 9 from rfl] at eb
  rw [en, eb, many_f n b (by omega) b0 (by omega)]
  obtain ⟨L, hL, hp⟩ := order_ev a2 (e : Int) n (by omega)
  have hm : manyN n b ≤ n + b - 1 := Nat.div_le_self _ _
  refine Ev.congr (fun k => by rw [if_neg (by omega), if_pos (by omega), if_pos (by omega), Int.toNat_natCast]; rfl) (once_l0 a2 n b e L n0 (by omega) b0 (by omega) (by omega) (by omega) hL hp (manyN n b) 0 _ (by omega) ?_)
  rw [Nat.zero_mul, Nat.zero_min]
  exact seen_zero L n
end Go.Proofs.Ytjmihdhclbjaeaa.Pure
