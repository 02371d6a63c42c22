import Derived.Test.YtolpdiifmacdbaaGreatQckM13
set_option linter.unusedVariables false
set_option linter.unusedSimpArgs false
namespace Go.Proofs.YtolpdiifmacdbaaGreat
noncomputable section
open Go.RowKit YtolpdiifmacdbaaGreatW.PrintWords YtolpdiifmacdbaaGreatW.PrintLast YtolpdiifmacdbaaGreatW.PrintMore
namespace ParF
open P Xe Num BitsF Fmt Round
theorem num_v (f : Int) {k : Int} (h : IntKind.u32.has k) : ∃ x : Nat, dA.f f k = some (x : Int) ∧ x < 4294967296 := by
 obtain ⟨u, rfl⟩ : ∃ u : Nat, k = u := ⟨k.toNat, by have := h.1; exact (Int.toNat_of_nonneg this).symm⟩
 exact num_any f u
theorem mild_v (f : Int) {k : Int} (h : IntKind.u32.has k) : ∃ x : Nat, bX.f f k = some (x : Int) ∧ x < 4294967296 := by
 obtain ⟨u, rfl⟩ : ∃ u : Nat, k = u := ⟨k.toNat, by have := h.1; exact (Int.toNat_of_nonneg this).symm⟩
 have hu : (u : Int) ≤ 4294967295 := h.2
 obtain ⟨m, neg, h1, h2⟩ := mild_f f u (by omega)
 refine ⟨_, h1, ?_⟩
 have hs : eQ f neg ≤ 2147483648 := by
  unfold eQ
  rcases qA f with ⟨e1, e2, e3, _⟩ | ⟨e1, e2, e3, _⟩ | ⟨e1, e2, e3, _⟩ <;> rw [e1, e2] <;> cases neg <;> decide
 have ho : (yS f + 2) * 2 ^ fm f ≤ 2147483648 := by
  rcases qA f with ⟨e1, e2, e3, _⟩ | ⟨e1, e2, e3, _⟩ | ⟨e1, e2, e3, _⟩ <;> rw [e2, e3] <;> decide
 rcases h2 with ⟨rfl, _⟩ | ⟨_, h3⟩ <;> omega
def tv (m : Bool) (k : Int) : Int := (((((if m = true then bX.f 2 k else dA.f 2 k).getD 0).toNat % 4294967296 : Nat)) : Int)
theorem tv_u (m : Bool) (k : Int) : IntKind.u32.has (tv m k) := by
 show (0 : Int) ≤ tv m k ∧ tv m k ≤ 4294967295
 unfold tv
 omega
theorem aCH {k : Int} (h : IntKind.u32.has k) : bX.f 2 k = some (tv true k) := by
 obtain ⟨x, h1, h2⟩ := mild_v 2 h
 rw [h1]
 unfold tv
 rw [if_pos rfl, h1]
 show _ = some (((x : Int).toNat % 4294967296 : Nat) : Int)
 rw [Int.toNat_natCast, Nat.mod_eq_of_lt h2]
theorem tv_num {k : Int} (h : IntKind.u32.has k) : dA.f 2 k = some (tv false k) := by
 obtain ⟨x, h1, h2⟩ := num_v 2 h
 rw [h1]
 unfold tv
 rw [if_neg (by decide), h1]
 show _ = some (((x : Int).toNat % 4294967296 : Nat) : Int)
 rw [Int.toNat_natCast, Nat.mod_eq_of_lt h2]
def tk (l : List Int) (j : Nat) : Int := if (l.length : Int) > 0 then ((rd l (Int.tmod (j : Int) (l.length : Int))) + ((((wrap64 (Int.tdiv (j : Int) (l.length : Int))) % 4294967296) * 40503) % 4294967296)) % 4294967296 else (((j : Int) % 4294967296) * 2654435761) % 4294967296
theorem mod_u (x : Int) : IntKind.u32.has (x % 4294967296) := by
 show (0 : Int) ≤ x % 4294967296 ∧ x % 4294967296 ≤ 4294967295
 omega
theorem tk_u (l : List Int) (j : Nat) : IntKind.u32.has (tk l j) := by
 unfold tk; split <;> exact mod_u _
def nl (g : Nat → Int) : Nat → Nat → List Int
 |0, _ => []
 |n + 1, j => g j :: nl g n (j + 1)
theorem nl_len (g : Nat → Int) : ∀ n j, (nl g n j).length = n := by
 intro n
 induction n with
 |zero => intro j; rfl
 |succ n ih => intro j; rw [nl, List.length_cons, ih]
theorem nl_numV (g : Nat → Int) : ∀ n j, (nl g n j).map (Value.int .u32) = numV g n j := by
 intro n
 induction n with
 |zero => intro j; rfl
 |succ n ih => intro j; rw [nl, List.map_cons, ih]; rfl
theorem tens_l (l : List Int) (m : Bool) (r c : Nat) (hr : r ≤ 1000) (hc : c ≤ 1000) : ∀ (n j : Nat) (acc : List Int), j + n = r * c → acc.length = j →
  Ev (fun k => aH.l0 k (r : Int) (c : Int) 2 l m (j : Int) (r : Int) (c : Int) 2 acc) ((r : Int), (c : Int), 2, acc ++ nl (fun j => tv m (tk l j)) n j) := by
 have hrc : r * c ≤ 1000 * 1000 := Nat.mul_le_mul hr hc
 have hw : wrap64 ((r : Int) * (c : Int)) = ((r * c : Nat) : Int) := by
  rw [← Int.natCast_mul, cZ _ (by omega) (by omega)]
 intro n
 induction n with
 |zero =>
  intro j acc hj ha
  refine Ev.step (fun k => by rw [aH.l0, hw, if_neg (by omega)]) ?_
  rw [nl, List.append_nil]
  exact Ev.now _
 |succ n ih =>
  intro j acc hj ha
  have hjn : wrap64 ((j : Int) + 1) = ((j + 1 : Nat) : Int) := by rw [cZ _ (by omega) (by omega)]; rfl
  have join : ∀ K : Int, K = tk l j → Ev (fun k => aH.j1 k (r : Int) (c : Int) 2 l m (j : Int) K (r : Int) (c : Int) 2 acc) ((r : Int), (c : Int), 2, acc ++ nl (fun j => tv m (tk l j)) (n + 1) j) := by
   intro K hK
   subst hK
   have hl := ih (j + 1) (acc ++ [tv m (tk l j)]) (by omega) (by rw [List.length_append, ha]; rfl)
   rw [List.append_assoc] at hl
   cases m with
   |true => exact Ev.step (fun k => by rw [aH.j1, if_pos rfl, aCH (tk_u l j), Option.bind_some, if_pos (show acc.length < 35184372088832 by omega), hjn]) hl
   |false => exact Ev.step (fun k => by rw [aH.j1, if_neg (show ¬ false = true by decide), tv_num (tk_u l j), Option.bind_some, if_pos (show acc.length < 35184372088832 by omega), hjn]) hl
  by_cases h0 : (l.length : Int) > 0
  ·have b0 : 0 ≤ Int.tmod (j : Int) (l.length : Int) := Int.tmod_nonneg _ (Int.natCast_nonneg _)
   have b1 : Int.tmod (j : Int) (l.length : Int) < (l.length : Int) := Int.tmod_lt_of_pos _ h0
   refine Ev.step (fun k => by rw [aH.l0, hw, if_pos (show (j : Int) < ((r * c : Nat) : Int) by omega), if_pos h0, if_neg (show ¬ (l.length : Int) = 0 by omega), if_pos b0, if_pos b1]) (join _ ?_)
   unfold tk
   rw [if_pos h0]
  ·refine Ev.step (fun k => by rw [aH.l0, hw, if_pos (show (j : Int) < ((r * c : Nat) : Int) by omega), if_neg h0]) (join _ ?_)
   unfold tk
   rw [if_neg h0]
theorem aC6 (l : List Int) (m : Bool) (r c : Nat) (hr : r ≤ 1000) (hc : c ≤ 1000) : Ev (fun k => aH.f k (r : Int) (c : Int) 2 l m) ((r : Int), (c : Int), 2, nl (fun j => tv m (tk l j)) (r * c) 0) := by
 have h := tens_l l m r c hr hc (r * c) 0 [] (Nat.zero_add _) rfl
 rw [List.nil_append] at h
 exact Ev.congr (fun k => rfl) h
def rw_ (l : List Int) (i j : Nat) : Int := ((rd l (j : Int)) + ((((i : Int) % 4294967296) * 77) % 4294967296)) % 4294967296
def rowOf (l : List Int) (i : Nat) : List Int := nl (rw_ l i) l.length 0
def G (l : List Int) (m : Bool) (i j : Nat) : Int := tv m (tk (rowOf l i) j)
def parX (l : List Int) (m : Bool) : List Nat → Nat → List S31
 |a :: q, i => match q with
  |b :: r => (⟨⟨(b : Int), (a : Int), 2, nl (G l m i) (a * b) 0⟩, ⟨1, (b : Int), 2, nl (G l m i) b 0⟩⟩ : S31) :: parX l m (b :: r) (i + 1)
  |[] => []
 |[], _ => []
theorem row_l (ws l : List Int) (m : Bool) (out : List S31) (i : Nat) {R : List S31} (hl : l.length ≤ 1000) : ∀ (n j : Nat) (acc : List Int), j + n = l.length → acc.length = j →
  Ev (fun k => bC.l1 k ws l m out (i : Int) (acc ++ nl (rw_ l i) n j) (l.length : Int)) R → Ev (fun k => bC.l1 k ws l m out (i : Int) acc (j : Int)) R := by
 intro n
 induction n with
 |zero =>
  intro j acc hj ha h
  rw [nl, List.append_nil] at h
  obtain rfl : j = l.length := by omega
  exact h
 |succ n ih =>
  intro j acc hj ha h
  have hjn : wrap64 ((j : Int) + 1) = ((j + 1 : Nat) : Int) := by rw [cZ _ (by omega) (by omega)]; rfl
  refine Ev.step (fun k => by rw [bC.l1, if_pos (show (j : Int) < (l.length : Int) by omega), if_pos (show (0 : Int) ≤ (j : Int) by omega), if_pos (show acc.length < 35184372088832 by omega), hjn]) ?_
  refine ih (j + 1) (acc ++ [rw_ l i j]) (by omega) (by rw [List.length_append, ha]; rfl) ?_
  rw [List.append_assoc]
  exact h
theorem par_l (W : List Nat) (l : List Int) (m : Bool) (hW : ∀ a ∈ W, a ≤ 1000) (hWl : W.length ≤ 1000000) (hl : l.length ≤ 1000) : ∀ (ws : List Nat) (i : Nat) (out : List S31), W.drop i = ws → ws ≠ [] → out.length ≤ i →
  Ev (fun k => bC.l0 k (W.map fun n : Nat => (n : Int)) l m out (i : Int)) (out ++ parX l m ws i) := by
 intro ws
 induction ws with
 |nil => intro i out _ h; exact absurd rfl h
 |cons a ws ih =>
  intro i out hd _ ho
  have hi : i < W.length := by
   rcases Nat.lt_or_ge i W.length with h | h
   ·exact h
   ·rw [List.drop_eq_nil_of_le h] at hd; cases hd
  have hlen : W.length = i + (ws.length + 1) := by
   have := congrArg List.length hd
   rw [List.length_drop, List.length_cons] at this
   omega
  have hw : wrap64 ((i : Int) + 1) = ((i + 1 : Nat) : Int) := by rw [cZ _ (by omega) (by omega)]; rfl
  have hm : (W.map fun n : Nat => (n : Int)).length = W.length := List.length_map _
  have at_ : ∀ (j : Nat) (x : Nat), W[j]? = some x → rd (W.map fun n : Nat => (n : Int)) (j : Int) = (x : Int) := by
   intro j x hx
   unfold rd
   rw [Int.toNat_natCast, List.getD_eq_getElem?_getD, List.getElem?_map, hx]
   rfl
  have ga : W[i]? = some a := by
   have := congrArg (fun q : List Nat => q[0]?) hd
   simpa using this
  cases ws with
  |nil =>
   refine Ev.step (fun k => by rw [bC.l0, hw, hm, if_neg (show ¬ ((i + 1 : Nat) : Int) < (W.length : Int) by rw [hlen]; simp)]) ?_
   show Ev _ (out ++ [])
   rw [List.append_nil]
   exact Ev.now _
  |cons b ws =>
   have gb : W[i + 1]? = some b := by
    have := congrArg (fun q : List Nat => q[1]?) hd
    simpa using this
   have ha := hW a (List.mem_of_getElem? ga)
   have hb := hW b (List.mem_of_getElem? gb)
   have hlt : ((i + 1 : Nat) : Int) < (W.length : Int) := by rw [hlen, List.length_cons]; omega
   refine Ev.step (fun k => by rw [bC.l0, hw, hm, if_pos hlt]) ?_
   refine row_l _ l m out i hl l.length 0 [] (Nat.zero_add _) rfl ?_
   rw [List.nil_append]
   have t1 := aC6 (rowOf l i) m b a hb ha
   have t2 := aC6 (rowOf l i) m 1 b (by omega) hb
   rw [Nat.one_mul] at t2
   have hi0 : W.drop (i + 1) = b :: ws := by
    rw [← List.drop_drop, hd]; rfl
   have rest := ih (i + 1) (out ++ [(⟨⟨(b : Int), (a : Int), 2, nl (G l m i) (b * a) 0⟩, ⟨1, (b : Int), 2, nl (G l m i) b 0⟩⟩ : S31)]) hi0 (by simp) (by rw [List.length_append]; simp; omega)
   rw [List.append_assoc] at rest
   refine Ev.step (fun k => by
    rw [bC.l1, if_neg (show ¬ (l.length : Int) < (l.length : Int) from Int.lt_irrefl _), hw, hm, if_pos (show (0 : Int) ≤ ((i + 1 : Nat) : Int) by omega), if_pos hlt, if_pos (show (0 : Int) ≤ (i : Int) by omega), if_pos (show (i : Int) < (W.length : Int) by omega), at_ _ _ gb, at_ _ _ ga]) ?_
   refine Ev.bind t1 (Ev.bind t2 (Ev.congr (fun k => by rw [if_pos (show out.length < 1466015503701 by omega)]) ?_))
   show Ev (fun k => bC.l0 k _ l m (out ++ [(⟨⟨(b : Int), (a : Int), 2, nl (G l m i) (b * a) 0⟩, ⟨1, (b : Int), 2, nl (G l m i) b 0⟩⟩ : S31)]) ((i + 1 : Nat) : Int)) (out ++ ((⟨⟨(b : Int), (a : Int), 2, nl (G l m i) (a * b) 0⟩, ⟨1, (b : Int), 2, nl (G l m i) b 0⟩⟩ : S31) :: parX l m (b :: ws) (i + 1)))
   rw [Nat.mul_comm a b]
   exact rest
theorem par_ev (W : List Nat) (l : List Int) (m : Bool) (hW : ∀ a ∈ W, a ≤ 1000) (hWl : W.length ≤ 1000000) (h0 : W ≠ []) (hl : l.length ≤ 1000) : Ev (fun k => bC.f k (W.map fun n : Nat => (n : Int)) l m) (parX l m W 0) := by
 have h := par_l W l m hW hWl hl W 0 [] rfl h0 (Nat.le_refl _)
 rw [List.nil_append] at h
 exact Ev.congr (fun k => rfl) h
theorem parX_len (l : List Int) (m : Bool) : ∀ (ws : List Nat) (i : Nat), (parX l m ws i).length = ws.length - 1 := by
 intro ws
 induction ws with
 |nil => intro i; rfl
 |cons a ws ih =>
  intro i
  cases ws with
  |nil => rfl
  |cons b ws =>
   show (_ :: parX l m (b :: ws) (i + 1)).length = _
   rw [List.length_cons, ih]
   rfl
theorem wY {α : Type} {R : α → List Value → Prop} {size : Nat} {cs : List Value} (h : Reps R size ([] : List α) cs) : cs = [] := by
 have := h.1
 exact List.eq_nil_of_length_eq_zero (by simpa using this)
theorem xN {α : Type} {R : α → List Value → Prop} {size : Nat} {x : α} {xs : List α} {cs : List Value} (h : Reps R size (x :: xs) cs) : ∃ c q, cs = c ++ q ∧ R x c ∧ Reps R size xs q := by
 refine ⟨cs.take size, cs.drop size, (List.take_append_drop _ _).symm, ?_, ?_, ?_⟩
 ·have := h.2 0 x rfl
  simpa using this
 ·have := h.1
  rw [List.length_cons, Nat.add_mul, Nat.one_mul] at this
  rw [List.length_drop]
  omega
 ·intro j p hj
  have := h.2 (j + 1) p (by simpa using hj)
  rw [List.drop_drop]
  rw [show size + j * size = (j + 1) * size by rw [Nat.add_mul, Nat.one_mul, Nat.add_comm]]
  exact this
theorem aCK {w : World} {base : Nat} {ok : Nat → Prop} {v : Value} {g : Nat → Int} {n : Nat} (h : (Kd.int .u32).R 27 w base ok v (nl g n 0)) : w.ownsRow base 27 1 v n (numV g n 0) := by
 obtain ⟨_, inner, h1, h2⟩ := h
 rw [nl_len] at h1
 have e : ∀ (xs : List Int) (cs : List Value), Reps ((Kd.int .u32).M w base (fun k => ok k ∧ some k ≠ v.ownBlock)) 1 xs cs → cs = xs.map (Value.int .u32) := by
  intro xs
  induction xs with
  |nil => intro cs hc; exact wY hc
  |cons x xs ih =>
   intro cs hc
   obtain ⟨c, q, rfl, c1, c2⟩ := xN hc
   have c1 : c = [Value.int .u32 x] := c1
   rw [c1, ih _ c2]
   rfl
 have := e _ _ h2
 rw [this, nl_numV] at h1
 exact h1
theorem aC7 {w : World} {base : Nat} {ok : Nat → Prop} {l : List Int} {m : Bool} : ∀ (ws : List Nat) (i : Nat) (cs : List Value), Reps (k31.M w base ok) 8 (parX l m ws i) cs → ParC w base 27 (G l m) ws i cs := by
 intro ws
 induction ws with
 |nil => intro i cs h; exact wY h
 |cons a ws ih =>
  intro i cs h
  cases ws with
  |nil => exact wY h
  |cons b ws =>
   obtain ⟨c, q, rfl, c1, c2⟩ := xN h
   obtain ⟨v3, v7, rfl, g3, g7⟩ := aBK c1
   exact ⟨v3, v7, q, rfl, aCK g3, aCK g7, ih _ _ c2⟩
theorem aB3 (ws : List Nat) (l : List Int) (b : Bool) (aw al : Option Addr) (cw cl : Nat) (W : World) (h1 : 1 < ws.length) (h2 : ws.length ≤ cw) (h3 : l.length ≤ cl) (h4 : ∀ a ∈ ws, 0 < a ∧ a ≤ 1000) (h5 : ws.length ≤ 1000) (h6 : l.length ≤ 1000)
  (r1 : Kd.C (Kd.int .i64) W aw ws.length (ws.map fun n : Nat => (n : Int))) (r2 : Kd.C (Kd.int .u32) W al l.length l) :
  Calls Tryz.prog 8 #[.slice aw ws.length cw, .slice al l.length cl, .bool b] W fun en W' => ∃ v cs, en = .returned v ∧ W'.ownsRow W.heap.size 31 8 v (ws.length - 1) cs ∧ ParC W' W.heap.size 27 (G l b) ws 0 cs ∧ Below W.heap.size W W' := by
 obtain ⟨k, hk⟩ := (par_ev ws l b (fun a ha => (h4 a ha).2) (by omega) (by rintro rfl; simp at h1) h6).rounds
 have hm : (ws.map fun n : Nat => (n : Int)).length = ws.length := List.length_map _
 have := bC.calls k aw cw (ws.map fun n : Nat => (n : Int)) al cl l b _ W (by rw [hm]; exact r1) (by rw [hm]; exact h2) r2 h3 hk
 rw [hm] at this
 refine this.mono ?_
 rintro e w' ⟨v, rfl, hs, hb⟩
 obtain ⟨_, inner, q1, q2⟩ := Kd.S_R hs
 rw [parX_len] at q1
 exact ⟨v, inner, rfl, q1, aC7 _ _ _ q2, hb⟩
end ParF
end
end Go.Proofs.YtolpdiifmacdbaaGreat
