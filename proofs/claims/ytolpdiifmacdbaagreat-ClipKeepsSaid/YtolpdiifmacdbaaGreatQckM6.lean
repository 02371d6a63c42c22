import Derived.Test.YtolpdiifmacdbaaGreatQckM5
set_option linter.unusedVariables false
set_option linter.unusedSimpArgs false
set_option maxRecDepth 100000
set_option maxHeartbeats 8000000
namespace Go.Proofs.YtolpdiifmacdbaaGreat
noncomputable section
open Go.RowKit YtolpdiifmacdbaaGreatW.PrintWords YtolpdiifmacdbaaGreatW.PrintLast YtolpdiifmacdbaaGreatW.PrintMore
namespace Ek
theorem BE.aCn {α : Type _} (b : BE) (t e : α) : b.ite t e = if b.d = true then t else e := by
 have dec : ∀ (c : Prop) [Decidable c], (if c then t else e) = if decide c = true then t else e := fun c _ => by by_cases h : c <;> simp [h]
 induction b generalizing t e with
 |tt => rfl
 |ff => rfl
 |q b => rfl
 |lt x y => exact dec (x < y)
 |le x y => exact dec (x ≤ y)
 |eq x y =>
  show (if x = y then t else e) = if (x == y) = true then t else e
  by_cases h : x = y <;> simp [h]
 |no b ih =>
  show b.ite e t = if (!b.d) = true then t else e
  rw [ih e t (fun c _ => by by_cases h : c <;> simp [h])]
  by_cases h : b.d = true <;> simp [h]
theorem BE.vL (b : BE) : b.neg.d = !b.d := by cases b <;> simp [BE.neg, BE.d]
theorem BE.tZ (b : Bool) : (BE.lit b).d = b := by cases b <;> rfl
theorem IE.vC (a b : IE) (n : Int) : (IE.mk2 a b n).d = n := by cases a <;> cases b <;> rfl
theorem IE.cmp_d (a b : IE) (e : BE) : (IE.cmp a b e).d = e.d := by cases a <;> cases b <;> simp [IE.cmp, BE.tZ]
theorem IE.nz_d (a : IE) : a.nz.d = (a.d == 0) := by cases a <;> simp [IE.nz, IE.d, BE.tZ, BE.d]
theorem IE.ge0_d (a : IE) : a.ge0.d = decide (0 ≤ a.d) := by
 cases a
 ·exact BE.tZ _
 ·rfl
theorem fZ (k : IntKind) (n : Int) : iW k n = k.wrap n := by
 cases k <;> first | rfl | exact (i64_w n).symm | exact (i32_w n).symm | exact (IntKind.wrap_u32 n).symm | exact (IntKind.wrap_u8 n).symm
theorem eqB_d (a b : BE) : (eqB a b).d = (a.d == b.d) := by
 have h : ∀ x : Bool, (true == x) = x ∧ (false == x) = !x ∧ (x == true) = x ∧ (x == false) = !x := by decide
 unfold eqB
 split
 ·exact (h _).1.symm
 ·rw [BE.vL]; exact (h _).2.1.symm
 ·exact (h _).2.2.1.symm
 ·rw [BE.vL]; exact (h _).2.2.2.symm
 ·rfl
def C.v (m : Nat → Nat) : C → Value
 |.i k x => .int k x.d
 |.b x => .bool x.d
 |.p g o => .pointer (some ⟨m g, o, none⟩)
 |.pd g o j _ => .pointer (some ⟨m g, o + j.toNat, none⟩)
 |.sl g o n c => .slice (some ⟨m g, o, none⟩) n c
def S.v (m : Nat → Nat) : S → List Value
 |.c u => [u.v m]
 |.a k xs _ => xs.map (Value.int k)
def vals (m : Nat → Nat) : List S → List Value
 |[] => []
 |s :: r => s.v m ++ vals m r
def PV.v (m : Nat → Nat) : PV → Value
 |.one c => c.v m
 |.agg ss => .agg (vals m ss).toArray
def SV.v (m : Nat → Nat) : SV → Value
 |.pv u => u.v m
 |.tup vs => .tuple (vs.map (PV.v m)).toArray
 |.und => undef
def C.ok (N : Nat) : C → Prop
 |.p g _ => g < N
 |.pd g _ j n => g < N ∧ 0 ≤ j ∧ j < n
 |.sl g _ _ _ => g < N
 |_ => True
def S.ok (N : Nat) : S → Prop
 |.c u => u.ok N
 |.a _ xs n => xs.length = n
def oks (N : Nat) : List S → Prop
 |[] => True
 |s :: r => s.ok N ∧ oks N r
def PV.ok (N : Nat) : PV → Prop
 |.one c => c.ok N
 |.agg ss => oks N ss
def SV.ok (N : Nat) : SV → Prop
 |.pv u => u.ok N
 |.tup vs => ∀ v ∈ vs, v.ok N
 |.und => True
theorem C.one (m : Nat → Nat) (c : C) : (c.v m).oneCell' = true := by cases c <;> rfl
theorem C.cells (m : Nat → Nat) (c : C) : (c.v m).cells = #[c.v m] := by cases c <;> rfl
theorem fF (m : Nat → Nat) (a b : List S) : vals m (a ++ b) = vals m a ++ vals m b := by
 induction a with
 |nil => rfl
 |cons s r ih => simp [vals, ih]
theorem kJ {N : Nat} {a b : List S} : oks N (a ++ b) ↔ oks N a ∧ oks N b := by
 induction a with
 |nil => simp [oks]
 |cons s r ih => simp [oks, ih, and_assoc]
theorem S.length (m : Nat → Nat) {N : Nat} (s : S) (h : s.ok N) : (s.v m).length = s.len := by
 cases s with
 |c u => rfl
 |a k xs n =>
  show (xs.map (Value.int k)).length = n
  rw [List.length_map]; exact h
theorem dK (m : Nat → Nat) {N : Nat} (ss : List S) (h : oks N ss) : (vals m ss).length = qG ss := by
 induction ss with
 |nil => rfl
 |cons s r ih => simp [vals, qG, S.length m s h.1, ih h.2]
theorem sS (m : Nat → Nat) (ss : List S) : ∀ v ∈ vals m ss, v.oneCell' = true := by
 induction ss with
 |nil => simp [vals]
 |cons s r ih =>
  intro v hv
  rcases List.mem_append.1 hv with h | h
  ·cases s with
   |c u =>
    obtain rfl : v = u.v m := by simpa [S.v] using h
    exact C.one m u
   |a k xs n =>
    obtain ⟨x, _, rfl⟩ : ∃ x ∈ xs, Value.int k x = v := by simpa [S.v] using h
    rfl
  ·exact ih v h
theorem sG {α : Type _} {b : Bool} {x y z : α} (h : (cnd (b) (x) <| y) = z) : (b = true ∧ x = z) ∨ (b = false ∧ y = z) := by
 cases b
 ·exact .inr ⟨rfl, h⟩
 ·exact .inl ⟨rfl, h⟩
theorem gF {α : Type _} {b : Bool} {x : Option α} {r : α} (h : (cnd (b) (x) <| none) = some r) : b = true ∧ x = some r := by
 cases b
 ·cases h
 ·exact ⟨rfl, h⟩
theorem qM {vs : List Value} {ss : List S} (m : Nat → Nat) (N : Nat) (h : mQ vs = some ss) : vals m ss = vs ∧ oks N ss := by
 induction vs generalizing ss with
 |nil => cases h; exact ⟨rfl, trivial⟩
 |cons v r ih =>
  unfold mQ at h
  split at h
  ·next c cs h1 h2 =>
   cases h
   obtain ⟨e, o⟩ := ih h2
   have : c.v m = [v] ∧ c.ok N := by
    unfold uG at h1
    split at h1
    ·cases h1; exact ⟨rfl, trivial⟩
    ·next b => cases h1; exact ⟨by cases b <;> rfl, trivial⟩
    ·cases h1
   exact ⟨by simp [vals, this.1, e], this.2, o⟩
  ·cases h
theorem ofV_v {c : Value} {v : SV} (m : Nat → Nat) (N : Nat) (h : ofV c = some v) : v.v m = c ∧ v.ok N := by
 unfold ofV at h
 split at h
 ·cases h; exact ⟨rfl, trivial⟩
 ·next b => cases h; exact ⟨by cases b <;> rfl, trivial⟩
 ·next cs =>
  split at h
  ·next ss h1 =>
   cases h
   obtain ⟨e, o⟩ := qM m N h1
   refine ⟨?_, o⟩
   show Value.agg (vals m ss).toArray = _
   rw [e]
  ·cases h
 ·cases h
def Knows (m : Nat → Nat) (N : Nat) (env : List (Nat × SV)) (a : Act) : Prop := ∀ t v, look env t = some v → v.ok N ∧ a.tmps.getD t undef = v.v m
theorem jB {m : Nat → Nat} {N : Nat} {env : List (Nat × SV)} {a : Act} (hk : Knows m N env a) {x : Operand} {v : SV} (h : ev env x = some v) : v.ok N ∧ a.eval x = v.v m := by
 cases x with
 |tmp t => exact hk t v h
 |const c => obtain ⟨e, o⟩ := ofV_v m N h; exact ⟨o, e.symm⟩
 |global g => cases h
 |func f => cases h
theorem vE {m : Nat → Nat} {N : Nat} {env : List (Nat × SV)} {a : Act} (hk : Knows m N env a) {xs : List Operand} {vs : List PV} (h : evs env xs = some vs) : (∀ v ∈ vs, v.ok N) ∧ xs.map a.eval = vs.map (PV.v m) := by
 induction xs generalizing vs with
 |nil => cases h; exact ⟨by simp, rfl⟩
 |cons x r ih =>
  unfold evs at h
  split at h
  ·next v ws h1 h2 =>
   cases h
   obtain ⟨o, e⟩ := jB hk h1
   obtain ⟨o', e'⟩ := ih h2
   refine ⟨fun u hu => ?_, by simp [e, e', SV.v]⟩
   rcases List.mem_cons.1 hu with rfl | hu
   ·exact o
   ·exact o' u hu
  ·cases h
theorem aC9 {R : Type} (P : Program) (t : TypeId) {op : BinOp} {k k' : IntKind} {a b : IE} {K : C → Option R} {r : R} (m : Nat → Nat) (N : Nat) (h : binI op k k' a b K = some r) :
  ∃ c, K c = some r ∧ c.ok N ∧ ∀ w, (binOp op t (.int k a.d) (.int k' b.d)).run P w = .ok (c.v m) w := by
 have ite0 : ∀ {z : Option R}, b.ge0.ite z none = some r → 0 ≤ b.d ∧ z = some r := by
  intro z h
  rw [BE.aCn, IE.ge0_d] at h
  by_cases c : 0 ≤ b.d
  ·exact ⟨c, by simpa [c] using h⟩
  ·simp [c] at h
 have itz : ∀ {z : Option R}, b.nz.ite none z = some r → b.d ≠ 0 ∧ z = some r := by
  intro z h
  rw [BE.aCn, IE.nz_d] at h
  by_cases c : b.d = 0
  ·simp [c] at h
  ·exact ⟨c, by simpa [c] using h⟩
 cases op <;> unfold binI at h <;> simp only [] at h
 case shl =>
  obtain ⟨h0, h1⟩ := ite0 h
  exact ⟨_, h1, trivial, fun w => by simp [binOp, Op.shift, Int.not_lt.mpr h0, C.v, IE.vC, shl]⟩
 case shr =>
  obtain ⟨h0, h1⟩ := ite0 h
  have hp : ∀ n : Nat, (0 : Int) ≤ 2 ^ n := fun n => Int.pow_nonneg (by decide)
  exact ⟨_, h1, trivial, fun w => by simp [binOp, Op.shift, Int.not_lt.mpr h0, C.v, IE.vC, shr, Int.fdiv_eq_ediv_of_nonneg _ (hp _)]⟩
 all_goals (have hb := gF h; clear h; obtain ⟨hk, h⟩ := hb; have he := of_decide_eq_true hk; clear hk; subst he)
 case quo =>
  obtain ⟨h0, h1⟩ := itz h
  exact ⟨_, h1, trivial, fun w => by simp [binOp, Op.intDiv, h0, C.v, IE.vC, fZ]⟩
 case rem =>
  obtain ⟨h0, h1⟩ := itz h
  exact ⟨_, h1, trivial, fun w => by simp [binOp, Op.intDiv, h0, C.v, IE.vC]⟩
 all_goals exact ⟨_, h, trivial, fun w => by simp [binOp, Op.intArith, Op.intBits, Op.intCmp, Go.bits, C.v, IE.vC, IE.cmp_d, BE.vL, BE.d, fZ, bne, GT.gt, GE.ge]⟩
theorem qI {ss : List S} : ∀ {n : Nat} {a b : List S}, pW ss n = some (a, b) → ss = a ++ b ∧ qG a = n := by
 induction ss with
 |nil =>
  intro n a b h
  obtain ⟨h0, h1⟩ := gF h
  cases h1
  exact ⟨rfl, (Nat.eq_of_beq_eq_true h0).symm⟩
 |cons s r ih =>
  intro n a b h
  unfold pW at h
  rcases sG h with ⟨h0, h1⟩ | ⟨_, h1⟩
  ·cases h1
   exact ⟨rfl, (Nat.eq_of_beq_eq_true h0).symm⟩
  ·obtain ⟨h2, h3⟩ := gF h1
   have h2 := Nat.le_of_ble_eq_true h2
   split at h3
   ·next a' b' h4 =>
    cases h3
    obtain ⟨e1, e2⟩ := ih h4
    exact ⟨by rw [e1]; rfl, by show s.len + qG a' = n; omega⟩
   ·cases h3
theorem sub_v (m : Nat → Nat) {N : Nat} {ss a : List S} {o n : Nat} (ho : oks N ss) (h : sub ss o n = some a) : oks N a ∧ qG a = n ∧ vals m a = ((vals m ss).drop o).take n ∧ o + n ≤ (vals m ss).length := by
 unfold sub at h
 split at h
 ·next p r h1 =>
  split at h
  ·next a' q h2 =>
   cases h
   obtain ⟨e1, l1⟩ := qI h1
   obtain ⟨e2, l2⟩ := qI h2
   subst e2
   subst e1
   rw [kJ, kJ] at ho
   obtain ⟨o1, o2, o3⟩ := ho
   have v1 := dK m p o1
   have v2 := dK m a o2
   refine ⟨o2, l2, ?_, ?_⟩
   ·rw [fF, fF, List.drop_append_of_le_length (by omega), List.drop_eq_nil_of_le (by omega), List.nil_append, List.take_append_of_le_length (by omega), List.take_of_length_le (by omega)]
   ·rw [fF, fF]; simp only [List.length_append]; omega
  ·cases h
 ·cases h
theorem aAT (m : Nat → Nat) {N : Nat} {ss : List S} : ∀ {o : Nat} {c : C}, oks N ss → cellAt ss o = some c → c.ok N ∧ (vals m ss)[o]? = some (c.v m) := by
 induction ss with
 |nil => intro o c _ h; cases h
 |cons s r ih =>
  intro o c ho h
  cases s with
  |c u =>
   unfold cellAt at h
   rcases sG h with ⟨h0, h1⟩ | ⟨h0, h1⟩
   ·cases h1
    obtain rfl := Nat.eq_of_beq_eq_true h0
    exact ⟨ho.1, rfl⟩
   ·obtain ⟨p, rfl⟩ : ∃ p, o = p + 1 := ⟨o - 1, by have := Nat.ne_of_beq_eq_false h0; omega⟩
    obtain ⟨a, b⟩ := ih ho.2 h1
    exact ⟨a, by simpa [vals, S.v] using b⟩
  |a k xs n =>
   have hl : xs.length = n := ho.1
   unfold cellAt at h
   rcases sG h with ⟨h0, h1⟩ | ⟨h0, h1⟩
   ·cases h1
    have h0 : o < n := Nat.le_of_ble_eq_true h0
    refine ⟨trivial, ?_⟩
    show (xs.map (Value.int k) ++ vals m r)[o]? = some (.int k (rd xs (Int.ofNat o)))
    rw [List.getElem?_append_left (by rw [List.length_map]; omega), List.getElem?_map, List.getElem?_eq_getElem (by omega)]
    simp [rd, show o < xs.length by omega]
   ·have h0 : ¬ o < n := fun hh => by
     have : Nat.blt o n = true := Nat.ble_eq.mpr hh
     rw [this] at h0; cases h0
    obtain ⟨a, b⟩ := ih ho.2 h1
    refine ⟨a, ?_⟩
    show (xs.map (Value.int k) ++ vals m r)[o]? = some (c.v m)
    rw [List.getElem?_append_right (by rw [List.length_map]; omega), List.length_map, hl]
    exact b
theorem aDd (m : Nat → Nat) {N : Nat} {ss : List S} : ∀ {o : Nat} {c : C} {ss' : List S}, oks N ss → c.ok N → setAt ss o c = some ss' → oks N ss' ∧ vals m ss' = (vals m ss).set o (c.v m) ∧ o < (vals m ss).length ∧ qG ss' = qG ss := by
 induction ss with
 |nil => intro o c ss' _ _ h; cases h
 |cons s r ih =>
  intro o c ss' ho hc h
  cases s with
  |c u =>
   unfold setAt at h
   rcases sG h with ⟨h0, h1⟩ | ⟨h0, h1⟩
   ·cases h1
    obtain rfl := Nat.eq_of_beq_eq_true h0
    exact ⟨⟨hc, ho.2⟩, rfl, by simp [vals, S.v], rfl⟩
   ·obtain ⟨p, rfl⟩ : ∃ p, o = p + 1 := ⟨o - 1, by have := Nat.ne_of_beq_eq_false h0; omega⟩
    split at h1
    ·next r' h2 =>
     cases h1
     obtain ⟨a, b, l, e⟩ := ih ho.2 hc h2
     exact ⟨⟨ho.1, a⟩, by simp only [Nat.add_sub_cancel] at b; simp [vals, S.v, b], by simp only [Nat.add_sub_cancel] at l; simp [vals, S.v]; omega, by simp [qG, e]⟩
    ·cases h1
  |a k xs n =>
   have hl : xs.length = n := ho.1
   unfold setAt at h
   rcases sG h with ⟨h0, h1⟩ | ⟨h0, h1⟩
   ·have h0 : o < n := Nat.le_of_ble_eq_true h0
    split at h1
    ·next k' v =>
     obtain ⟨h2, h3⟩ := gF h1
     cases h3
     obtain rfl := of_decide_eq_true h2
     refine ⟨⟨by show (xs.set o v.d).length = n; rw [List.length_set]; exact hl, ho.2⟩, ?_, ?_, rfl⟩
     ·show (xs.set o v.d).map (Value.int k') ++ vals m r = (xs.map (Value.int k') ++ vals m r).set o (.int k' v.d)
      rw [List.set_append_left _ _ (by rw [List.length_map]; omega), List.map_set]
     ·show o < (xs.map (Value.int k') ++ vals m r).length
      rw [List.length_append, List.length_map]; omega
    ·cases h1
   ·have h0 : ¬ o < n := fun hh => by
     have : Nat.blt o n = true := Nat.ble_eq.mpr hh
     rw [this] at h0; cases h0
    split at h1
    ·next r' h2 =>
     cases h1
     obtain ⟨a, b, l, e⟩ := ih ho.2 hc h2
     refine ⟨⟨ho.1, a⟩, ?_, ?_, by simp [qG, e]⟩
     ·show xs.map (Value.int k) ++ vals m r' = (xs.map (Value.int k) ++ vals m r).set o (c.v m)
      rw [List.set_append_right _ _ (by rw [List.length_map]; omega), List.length_map, hl, b]
     ·show o < (xs.map (Value.int k) ++ vals m r).length
      rw [List.length_append, List.length_map]; omega
    ·cases h1
theorem runAt_v (m : Nat → Nat) {N : Nat} {ss : List S} : ∀ {o n : Nat} {k : IntKind} {xs : List Int}, oks N ss → vM ss o = some (k, xs, n) → xs.length = n ∧ ∃ a b, vals m ss = a ++ (xs.map (Value.int k) ++ b) ∧ a.length = o := by
 induction ss with
 |nil => intro o n k xs _ h; cases h
 |cons s r ih =>
  intro o n k xs ho h
  cases s with
  |c u =>
   unfold vM at h
   rcases sG h with ⟨h0, h1⟩ | ⟨h0, h1⟩
   ·cases h1
   ·obtain ⟨p, rfl⟩ : ∃ p, o = p + 1 := ⟨o - 1, by have := Nat.ne_of_beq_eq_false h0; omega⟩
    obtain ⟨l, a, b, e, la⟩ := ih ho.2 h1
    exact ⟨l, u.v m :: a, b, by simp [vals, S.v, e], by simpa using la⟩
  |a k' xs' n' =>
   have hl : xs'.length = n' := ho.1
   unfold vM at h
   rcases sG h with ⟨h0, h1⟩ | ⟨h0, h1⟩
   ·cases h1
    obtain rfl := Nat.eq_of_beq_eq_true h0
    exact ⟨hl, [], vals m r, rfl, rfl⟩
   ·obtain ⟨h2, h3⟩ := gF h1
    have h2 := Nat.le_of_ble_eq_true h2
    obtain ⟨l, a, b, e, la⟩ := ih ho.2 h3
    exact ⟨l, xs'.map (Value.int k') ++ a, b, by simp [vals, S.v, e], by simp [la]; omega⟩
theorem setRun_v (m : Nat → Nat) {N : Nat} {ss : List S} : ∀ {o n i : Nat} {k : IntKind} {xs : List Int} {y : Int}, oks N ss → vM ss o = some (k, xs, n) → i < n →
  oks N (mH ss o (xs.set i y)) ∧ vals m (mH ss o (xs.set i y)) = (vals m ss).set (o + i) (.int k y) ∧ o + i < (vals m ss).length ∧ qG (mH ss o (xs.set i y)) = qG ss := by
 induction ss with
 |nil => intro o n i k xs y _ h; cases h
 |cons s r ih =>
  intro o n i k xs y ho h hi
  cases s with
  |c u =>
   unfold vM at h
   rcases sG h with ⟨h0, h1⟩ | ⟨h0, h1⟩
   ·cases h1
   ·obtain ⟨p, rfl⟩ : ∃ p, o = p + 1 := ⟨o - 1, by have := Nat.ne_of_beq_eq_false h0; omega⟩
    obtain ⟨a, b, l, e⟩ := ih (y := y) ho.2 h1 hi
    have hs : mH (.c u :: r) (p + 1) (xs.set i y) = .c u :: mH r p (xs.set i y) := rfl
    simp only [Nat.add_sub_cancel] at a b l e
    rw [hs]
    refine ⟨⟨ho.1, a⟩, ?_, ?_, by simp [qG, e]⟩
    ·show u.v m :: vals m (mH r p (xs.set i y)) = (u.v m :: vals m r).set (p + 1 + i) (.int k y)
     rw [b, show p + 1 + i = (p + i) + 1 by omega, List.set_cons_succ]
    ·show p + 1 + i < (u.v m :: vals m r).length
     rw [List.length_cons]; omega
  |a k' xs' n' =>
   have hl : xs'.length = n' := ho.1
   unfold vM at h
   rcases sG h with ⟨h0, h1⟩ | ⟨h0, h1⟩
   ·cases h1
    obtain rfl := Nat.eq_of_beq_eq_true h0
    have hs : mH (.a k xs n :: r) 0 (xs.set i y) = .a k (xs.set i y) n :: r := rfl
    rw [hs]
    refine ⟨⟨by show (xs.set i y).length = n; rw [List.length_set]; exact hl, ho.2⟩, ?_, ?_, rfl⟩
    ·show (xs.set i y).map (Value.int k) ++ vals m r = (xs.map (Value.int k) ++ vals m r).set (0 + i) (.int k y)
     rw [Nat.zero_add, List.set_append_left _ _ (by rw [List.length_map]; omega), List.map_set]
    ·show 0 + i < (xs.map (Value.int k) ++ vals m r).length
     rw [List.length_append, List.length_map]; omega
   ·obtain ⟨h2, h3⟩ := gF h1
    have h2 := Nat.le_of_ble_eq_true h2
    obtain ⟨a, b, l, e⟩ := ih (y := y) ho.2 h3 hi
    have hs : mH (.a k' xs' n' :: r) o (xs.set i y) = .a k' xs' n' :: mH r (o - n') (xs.set i y) := by simp [mH, h0]
    rw [hs]
    refine ⟨⟨ho.1, a⟩, ?_, ?_, by simp [qG, e]⟩
    ·show xs'.map (Value.int k') ++ vals m (mH r (o - n') (xs.set i y)) = (xs'.map (Value.int k') ++ vals m r).set (o + i) (.int k y)
     rw [List.set_append_right _ _ (by rw [List.length_map]; omega), List.length_map, b, hl, show o + i - n' = o - n' + i by omega]
    ·show o + i < (xs'.map (Value.int k') ++ vals m r).length
     rw [List.length_append, List.length_map]; omega
theorem zM (a b : List S) : qG (a ++ b) = qG a + qG b := by
 induction a with
 |nil => simp [qG]
 |cons s r ih => simp [qG, ih, Nat.add_assoc]
theorem aAU (m : Nat → Nat) {N : Nat} {ss new ss' : List S} {o : Nat} (ho : oks N ss) (hn : oks N new) (h : aAz ss o new = some ss') :
  oks N ss' ∧ vals m ss' = (vals m ss).take o ++ (vals m new ++ (vals m ss).drop (o + qG new)) ∧ o + qG new ≤ (vals m ss).length ∧ qG ss' = qG ss := by
 unfold aAz at h
 split at h
 ·next a r h1 =>
  split at h
  ·next q b h2 =>
   cases h
   obtain ⟨e1, l1⟩ := qI h1
   obtain ⟨e2, l2⟩ := qI h2
   subst e2
   subst e1
   rw [kJ, kJ] at ho
   obtain ⟨o1, o2, o3⟩ := ho
   have v1 := dK m a o1
   have v2 := dK m q o2
   refine ⟨by rw [kJ, kJ]; exact ⟨o1, hn, o3⟩, ?_, ?_, by simp only [zM]; omega⟩
   ·have t1 : (vals m a ++ (vals m q ++ vals m b)).take o = vals m a := List.take_left' (by omega)
    have t2 : (vals m a ++ (vals m q ++ vals m b)).drop (o + qG new) = vals m b := by
     rw [← List.append_assoc]; exact List.drop_left' (by rw [List.length_append]; omega)
    rw [fF, fF, fF, fF, t1, t2]
   ·rw [fF, fF]; simp only [List.length_append]; omega
  ·cases h
 ·cases h
theorem isLit_go {k : IntKind} : ∀ {xs : List Int} {n : Nat} {vs q : List Value}, isLit.go k xs n vs = some q → vs = xs.map (Value.int k) ++ q ∧ xs.length = n := by
 intro xs
 induction xs with
 |nil =>
  intro n vs q h
  cases n with
  |zero => cases h; exact ⟨rfl, rfl⟩
  |succ n => cases h
 |cons x xs ih =>
  intro n vs q h
  cases n with
  |zero => cases h
  |succ n =>
   cases vs with
   |nil => cases h
   |cons v vs =>
    cases v with
    |int k' y =>
     unfold isLit.go at h
     obtain ⟨h0, h1⟩ := gF h
     rw [Bool.and_eq_true] at h0
     obtain rfl := of_decide_eq_true h0.1
     obtain rfl := eq_of_beq h0.2
     obtain ⟨e, l⟩ := ih h1
     exact ⟨by rw [e]; rfl, by simp [l]⟩
    |_ => cases h
theorem isLit_v (m : Nat → Nat) (N : Nat) {s : S} {vs q : List Value} (h : isLit s vs = some q) : vs = s.v m ++ q ∧ s.ok N := by
 unfold isLit at h
 split at h
 ·obtain ⟨h0, h1⟩ := gF h
  cases h1
  rw [Bool.and_eq_true] at h0
  obtain rfl := of_decide_eq_true h0.1
  obtain rfl := eq_of_beq h0.2
  exact ⟨rfl, trivial⟩
 ·cases h; exact ⟨rfl, trivial⟩
 ·exact isLit_go h
 ·cases h
theorem aAP (m : Nat → Nat) (N : Nat) {ss : List S} : ∀ {vs : List Value}, aAF ss vs = true → vals m ss = vs ∧ oks N ss := by
 induction ss with
 |nil =>
  intro vs h
  cases vs with
  |nil => exact ⟨rfl, trivial⟩
  |cons v vs => cases h
 |cons s r ih =>
  intro vs h
  unfold aAF at h
  split at h
  ·next q h1 =>
   obtain ⟨e, o⟩ := isLit_v m N h1
   obtain ⟨e', o'⟩ := ih h
   exact ⟨by rw [e, ← e']; rfl, o, o'⟩
  ·cases h
section
variable {P : Program}
theorem zeroS_v (m : Nat → Nat) (N : Nat) {t : Nat} {ss : List S} (h : oN P t = some ss) : oks N ss ∧ ∃ v, v.cells.toList = vals m ss ∧ ∀ w, (zeroValue t).run P w = .ok v w := by
 unfold oN at h
 split at h
 ·next i h1 =>
  split at h
  ·next v h2 =>
   split at h
   ·next ss' _ =>
    obtain ⟨h3, h4⟩ := gF h
    cases h4
    obtain ⟨e, o⟩ := aAP m N h3
    exact ⟨o, v, e.symm, fun w => by simp [zeroValue, typeInfo, h1, h2]⟩
   ·cases h
  ·cases h
 ·cases h
theorem gX {t n : Nat} (h : jH P t = some n) (w : World) : (sizeOf t).run P w = .ok n w := by
 unfold jH at h
 split at h
 ·next i h1 => cases h; simp [sizeOf, typeInfo, h1]
 ·cases h
theorem mW {t n : Nat} (h : jH P t = some n) : (P.info? t).map (·.size) = some n := by
 unfold jH at h
 split at h
 ·next i h1 => cases h; rw [h1]; rfl
 ·cases h
theorem jE {t : Nat} {b : Bool} (h : jV P t = some b) (w : World) : (isAgg t).run P w = .ok b w := by
 unfold jV at h
 cases hu : P.underlying t with
 |none => rw [hu] at h; cases h
 |some d =>
  rw [hu] at h
  cases d <;> cases h <;> simp [isAgg, underlying, hu]
theorem xE (m : Nat → Nat) {N : Nat} {t o : Nat} {ss : List S} {v : PV} (ho : oks N ss) (h : sH P t ss o = some v) : v.ok N ∧ ∀ w, (part t (vals m ss).toArray o).run P w = .ok (v.v m) w := by
 unfold sH at h
 split at h
 ·next n h1 h2 =>
  split at h
  ·next r h3 =>
   cases h
   obtain ⟨a, b, c, d⟩ := sub_v m ho h3
   refine ⟨a, fun w => ?_⟩
   have h1 := jE h1
   have h2 := gX h2
   simp [part, h1, h2, PV.v]
   exact c.symm
  ·cases h
 ·next n h1 h2 =>
  split at h
  ·next c h3 =>
   cases h
   obtain ⟨a, b⟩ := aAT m ho h3
   have h1 := jE h1
   exact ⟨a, fun w => by simp [part, h1, b, PV.v]⟩
  ·cases h
 ·cases h
end
section
variable {P : Program}
theorem lD {t o : Nat} {vs : List Value} {v : Value} (ha : jV P t = some false) (h : vs[o]? = some v) (w : World) : (part t vs.toArray o).run P w = .ok v w := by
 have ha := jE ha
 simp [part, ha, h]
theorem eqF_v (m : Nat → Nat) {d : Nat} {fs : List Field} : ∀ {i : Nat} {a b : List S} {e : Bool} (pa pb : List Value), pa.length = i → pb.length = i → eqF P fs i a b = some e →
  ∀ w, (Op.eqFields (d + 1) (pa ++ vals m a).toArray (pb ++ vals m b).toArray fs).run P w = .ok e w := by
 induction fs with
 |nil =>
  intro i a b e pa pb _ _ h w
  unfold eqF at h
  split at h
  ·cases h
   have : pa ++ vals m [] = pa := by simp [vals]
   exact eqf_nil
  ·cases h
 |cons f fs ih =>
  intro i a b e pa pb la lb h w
  unfold eqF at h
  split at h
  ·next k x r k' y q =>
   split at h
   ·next kk hu =>
    split at h
    ·next t ht =>
     obtain ⟨h4, h5⟩ := gF h
     cases h5
     simp only [Bool.and_eq_true] at h4
     obtain ⟨⟨h6, h7⟩, h8⟩ := h4
     obtain rfl := of_decide_eq_true h8
     have h7 := Nat.eq_of_beq_eq_true h7
     have hag : jV P f.type = some false := by simp [jV, hu]
     have e1 : ∀ (p : List Value) (z : IE) (s : List S), p ++ vals m (.c (.i k z) :: s) = (p ++ [Value.int k z.d]) ++ vals m s := fun p z s => by simp [vals, S.v, C.v]
     refine eqf_cons (by simpa using h6) (lD hag (v := .int k x.d) ?_ w) (lD hag (v := .int k y.d) ?_ w) (run_equalIn_int w _ _ _ _ _ _ hu) ?_
     ·rw [h7, e1, List.getElem?_append_left (by simp; omega), List.getElem?_append_right (by omega), la, Nat.sub_self]; rfl
     ·rw [h7, e1, List.getElem?_append_left (by simp; omega), List.getElem?_append_right (by omega), lb, Nat.sub_self]; rfl
     ·rw [e1, e1]
      exact ih (pa ++ [Value.int k x.d]) (pb ++ [Value.int k y.d]) (by simp [la]) (by simp [lb]) ht w
    ·cases h
   ·cases h
  ·next x r y q =>
   split at h
   ·next hu =>
    split at h
    ·next t ht =>
     obtain ⟨h4, h5⟩ := gF h
     cases h5
     simp only [Bool.and_eq_true] at h4
     obtain ⟨h6, h7⟩ := h4
     have h7 := Nat.eq_of_beq_eq_true h7
     have hag : jV P f.type = some false := by simp [jV, hu]
     have e1 : ∀ (p : List Value) (z : BE) (s : List S), p ++ vals m (.c (.b z) :: s) = (p ++ [Value.bool z.d]) ++ vals m s := fun p z s => by simp [vals, S.v, C.v]
     refine eqf_cons (by simpa using h6) (lD hag (v := .bool x.d) ?_ w) (lD hag (v := .bool y.d) ?_ w) (run_equalIn_bool' w _ _ _ _ hu) ?_
     ·rw [h7, e1, List.getElem?_append_left (by simp; omega), List.getElem?_append_right (by omega), la, Nat.sub_self]; rfl
     ·rw [h7, e1, List.getElem?_append_left (by simp; omega), List.getElem?_append_right (by omega), lb, Nat.sub_self]; rfl
     ·rw [e1, e1]
      exact ih (pa ++ [Value.bool x.d]) (pb ++ [Value.bool y.d]) (by simp [la]) (by simp [lb]) ht w
    ·cases h
   ·cases h
  ·cases h
theorem uQ (m : Nat → Nat) {k : IntKind} {ss : List S} : ∀ {xs : List Int}, wN k ss = some xs → vals m ss = xs.map (Value.int k) := by
 induction ss with
 |nil => intro xs h; cases h; rfl
 |cons s r ih =>
  intro xs h
  cases s with
  |c u =>
   cases u with
   |i k' x =>
    unfold wN at h
    split at h
    ·next ys hy =>
     obtain ⟨h1, h2⟩ := gF h
     cases h2
     obtain rfl := of_decide_eq_true h1
     simp [vals, S.v, C.v, ih hy]
    ·cases h
   |_ => cases h
  |a k' zs n =>
   unfold wN at h
   split at h
   ·next ys hy =>
    obtain ⟨h1, h2⟩ := gF h
    cases h2
    obtain rfl := of_decide_eq_true h1
    simp [vals, S.v, ih hy]
   ·cases h
theorem aC4 {e : Nat} {k k0 : IntKind} (hu : P.underlying e = some (.int k0)) (xs ys : List Int) {d : Nat} (w : World) : ∀ (n i : Nat), i + n = xs.length → i + n = ys.length →
  (Op.eqItems (d + 1) e 1 (xs.map (Value.int k)).toArray (ys.map (Value.int k)).toArray (List.range' i n)).run P w = .ok (xs.drop i == ys.drop i) w := by
 have hag : jV P e = some false := by simp [jV, hu]
 intro n
 induction n with
 |zero =>
  intro i hx hy
  rw [List.drop_eq_nil_of_le (by omega), List.drop_eq_nil_of_le (by omega)]
  simp [Op.eqItems]
 |succ n ih =>
  intro i hx hy
  have hi : i < xs.length := by omega
  have hj : i < ys.length := by omega
  have p1 : (part e (xs.map (Value.int k)).toArray i).run P w = .ok (.int k xs[i]) w := lD hag (by rw [List.getElem?_map, List.getElem?_eq_getElem hi]; rfl) w
  have p2 : (part e (ys.map (Value.int k)).toArray i).run P w = .ok (.int k ys[i]) w := lD hag (by rw [List.getElem?_map, List.getElem?_eq_getElem hj]; rfl) w
  have p3 := run_equalIn_int (P := P) w d e k k0 xs[i] ys[i] hu
  have hr := ih (i + 1) (by omega) (by omega)
  rw [List.range'_succ, List.drop_eq_getElem_cons hi, List.drop_eq_getElem_cons hj]
  simp only [Op.eqItems, Nat.mul_one, Sem.run_bind, p1, p2, p3, Result.andThen_ok]
  generalize xs[i] = x
  generalize ys[i] = y
  generalize xs.drop (i + 1) = A at *
  generalize ys.drop (i + 1) = B at *
  rw [List.cons_beq_cons]
  by_cases c : x = y
  ·simp only [c, beq_self_eq_true, Bool.not_true, Bool.false_eq_true, if_false, Bool.true_and]; exact hr
  ·have : (x == y) = false := by simpa using c
   simp only [this, Bool.not_false, if_true, Bool.false_and]; rfl
theorem eqT_v (m : Nat → Nat) {N t : Nat} {a b : List S} {e : Bool} (oa : oks N a) (ob : oks N b) (h : eqT P t a b = some e) : P.eqGuardType P.depth t = false ∧ ∀ w, (Op.equalIn 10000 t (.agg (vals m a).toArray) (.agg (vals m b).toArray)).run P w = .ok e w := by
 unfold eqT at h
 split at h
 ·next fs hu =>
  obtain ⟨h1, h2⟩ := gF h
  simp only [Bool.and_eq_true, Bool.not_eq_true'] at h1
  refine ⟨h1.2, fun w => eqA_of (d := 9999) hu h1.1 ?_⟩
  exact eqF_v m (d := 9998) [] [] rfl rfl h2 w
 ·next n e' hu =>
  split at h
  ·next k hk hs =>
   obtain ⟨h1, h2⟩ := gF h
   simp only [Bool.not_eq_true'] at h1
   split at h2
   ·next xs ys hx hy =>
    obtain ⟨h3, h4⟩ := gF h2
    cases h4
    rw [Bool.and_eq_true] at h3
    have l1 : xs.length = n := by
     have h5 := dK m a oa
     rw [uQ m hx, List.length_map] at h5
     exact h5.trans (Nat.eq_of_beq_eq_true h3.1)
    have l2 : ys.length = n := by
     have h5 := dK m b ob
     rw [uQ m hy, List.length_map] at h5
     exact h5.trans (Nat.eq_of_beq_eq_true h3.2)
    refine ⟨h1, fun w => ?_⟩
    rw [uQ m hx, uQ m hy]
    have hc : P.cellsOf e' = 1 := by
     have := mW hs
     unfold Program.cellsOf
     cases hq : P.info? e' with
     |none => rw [hq] at this; cases this
     |some i => rw [hq] at this; simpa using this
    have hsome : ∃ i, P.info? e' = some i := by
     have := mW hs
     cases hq : P.info? e' with
     |none => rw [hq] at this; cases this
     |some i => exact ⟨i, rfl⟩
    obtain ⟨i, hi⟩ := hsome
    rw [run_equalIn_array w 9999 _ _ hu hi, hc, List.range_eq_range']
    have := aC4 (k := k) hk xs ys (d := 9998) w n 0 (by omega) (by omega)
    simpa using this
   ·cases h2
  ·cases h
 ·cases h
end
theorem wF (off : Nat) : ∀ (new : List Value) (k : Nat) (cells : Array Value), off + k + new.length ≤ cells.size →
  (new.zipIdx k).foldl (fun cs (x : Value × Nat) => cs.setIfInBounds (off + x.2) x.1) cells = (cells.toList.take (off + k) ++ (new ++ cells.toList.drop (off + k + new.length))).toArray := by
 intro new
 induction new with
 |nil => intro k cells h; simp
 |cons v new ih =>
  intro k cells h
  rw [List.length_cons] at h
  rw [List.zipIdx_cons, List.foldl_cons, ih (k + 1) _ (by rw [Array.size_setIfInBounds]; omega)]
  apply congrArg
  rw [Array.toList_setIfInBounds]
  have hl : off + k < cells.toList.length := by rw [Array.length_toList]; omega
  rw [List.drop_set_of_lt (by omega), show off + (k + 1) = off + k + 1 by omega, List.take_add_one, List.getElem?_set_self hl, List.take_set_of_le (Nat.le_refl _)]
  simp [Nat.add_assoc, Nat.add_comm 1]
theorem nX {place : Nat → Option (Nat × Nat)} {cells : Array Value} {i off size : Nat} {v : Value} {rest : List (Nat × Value)} (hp : place i = some (off, size)) (h1 : v.cells.size = size) (h2 : off + v.cells.size ≤ cells.size) :
  Instr.fill place cells ((i, v) :: rest) = Instr.fill place ((v.cells.toList.zipIdx 0).foldl (fun cs (x : Value × Nat) => cs.setIfInBounds (off + x.2) x.1) cells) rest := by
 have h3 : ¬ (v.cells.size ≠ size || off + v.cells.size > cells.size) = true := by
  simp only [Bool.or_eq_true, decide_eq_true_eq, not_or, Decidable.not_not]
  exact ⟨h1, by omega⟩
 rw [Instr.fill, hp]
 dsimp only
 rw [if_neg h3, ← Array.foldl_toList]
 simp
section
variable {P : Program}
theorem iO (m : Nat → Nat) (N : Nat) {t : Nat} {ss : List S} (h : oN P t = some ss) : oks N ss ∧ ∃ i v, P.info? t = some i ∧ i.zero = some v ∧ v.cells = (vals m ss).toArray := by
 unfold oN at h
 split at h
 ·next i h1 =>
  split at h
  ·next v h2 =>
   split at h
   ·next ss' _ =>
    obtain ⟨h3, h4⟩ := gF h
    cases h4
    obtain ⟨e, o⟩ := aAP m N h3
    exact ⟨o, i, v, h1, h2, by rw [e]⟩
   ·cases h
  ·cases h
 ·cases h
theorem rH {m : Nat → Nat} {N : Nat} {env : List (Nat × SV)} {a : Act} (hk : Knows m N env a) {places : List (Nat × Nat)} {pl : Nat → Option (Nat × Nat)} (hpl : ∀ j x, places[j]? = some x → pl j = some x) {ps : List (Nat × Operand)} : ∀ {ss ss' : List S}, oks N ss → pM env places ss ps = some ss' →
  oks N ss' ∧ Instr.fill pl (vals m ss).toArray (ps.map fun x => (x.1, a.eval x.2)) = some (vals m ss').toArray := by
 induction ps with
 |nil => intro ss ss' ho h; cases h; exact ⟨ho, rfl⟩
 |cons p r ih =>
  obtain ⟨j, x⟩ := p
  intro ss ss' ho h
  unfold pM at h
  split at h
  ·next o c h1 h2 =>
   split at h
   ·next s1 h3 =>
    obtain ⟨ok, e⟩ := jB hk h2
    obtain ⟨o1, v1, l1, _⟩ := aDd m ho ok h3
    obtain ⟨o2, f2⟩ := ih o1 h
    refine ⟨o2, ?_⟩
    have hp : pl j = some (o, 1) := hpl _ _ h1
    have e' : a.eval x = c.v m := e
    rw [List.map_cons, nX (v := a.eval x) hp (by rw [e', C.cells]; rfl) (by rw [e', C.cells]; simp; omega), e', C.cells, ← f2, v1]
    show Instr.fill _ ((vals m ss).toArray.setIfInBounds (o + 0) (c.v m)) _ = _
    rw [Nat.add_zero, List.setIfInBounds_toArray]
   ·cases h
  ·next _ o n new h1 h2 =>
   obtain ⟨h3, h4⟩ := gF h
   have h3 := Nat.eq_of_beq_eq_true h3
   split at h4
   ·next s1 h5 =>
    obtain ⟨ok, e⟩ := jB hk h2
    obtain ⟨o1, v1, l1, _⟩ := aAU m ho ok h5
    obtain ⟨o2, f2⟩ := ih o1 h4
    refine ⟨o2, ?_⟩
    have hp : pl j = some (o, n) := hpl _ _ h1
    have e' : a.eval x = .agg (vals m new).toArray := e
    have hl := dK m new ok
    have h6 : (Value.agg (vals m new).toArray).cells.toList = vals m new := rfl
    have h7 : (Value.agg (vals m new).toArray).cells.size = n := by show (vals m new).toArray.size = n; rw [List.size_toArray]; omega
    rw [List.map_cons, nX (v := a.eval x) hp (by rw [e']; exact h7) (by rw [e', h7, List.size_toArray]; omega), e', h6, ← f2, v1]
    have := wF o (vals m new) 0 (vals m ss).toArray (by simp; omega)
    simp only [Nat.add_zero] at this
    rw [this, hl]
   ·cases h4
  ·cases h
theorem jX {s : Sem Value} {x : Value} {w w' : World} (h : s.run P w = .ok x w') : (do let y ← s; pure (Next.value y) : Sem Next).run P w = .ok (.value x) w' := by
 simp [h]
theorem tQ {R : Type} {o : Oper} {env : List (Nat × SV)} {K : SV → Option R} {r : R} {m : Nat → Nat} {N : Nat} {a : Act} (hk : Knows m N env a) (h : sJ P o.op env K = some r) :
  ∃ v, K v = some r ∧ v.ok N ∧ ∀ w, (execOp a.eval o).run P w = .ok (.value (v.v m)) w := by
 obtain ⟨dst, op, ty, pos, after, guard⟩ := o
 simp only at h
 unfold sJ at h
 split at h
 ·next x =>
  split at h
  ·next v hv =>
   obtain ⟨ok, e⟩ := jB hk hv
   exact ⟨v, h, ok, fun w => by simp [execOp, e]⟩
  ·cases h
 ·next x =>
  split at h
  ·next v hv =>
   obtain ⟨ok, e⟩ := jB hk hv
   exact ⟨v, h, ok, fun w => by simp [execOp, e]⟩
  ·cases h
 ·next c x y =>
  split at h
  ·next b hb =>
   obtain ⟨_, eb⟩ := jB hk hb
   have eb' : a.eval c = .bool b.d := eb
   rw [BE.aCn] at h
   split at h
   ·next hd =>
    split at h
    ·next v hv =>
     obtain ⟨ok, e⟩ := jB hk hv
     exact ⟨v, h, ok, fun w => by simp [execOp, eb', asBool, hd, e]⟩
    ·cases h
   ·next hd =>
    split at h
    ·next v hv =>
     obtain ⟨ok, e⟩ := jB hk hv
     exact ⟨v, h, ok, fun w => by simp [execOp, eb', asBool, hd, e]⟩
    ·cases h
  ·cases h
 ·next bo t x y yt =>
  split at h
  ·next k x1 k' y1 hx hy =>
   obtain ⟨_, ex⟩ := jB hk hx
   obtain ⟨_, ey⟩ := jB hk hy
   have ex' : a.eval x = .int k x1.d := ex
   have ey' : a.eval y = .int k' y1.d := ey
   obtain ⟨c, h1, h2, h3⟩ := aC9 P t m N h
   exact ⟨_, h1, h2, fun w => jX (by simp [ex', ey', eqGuard_at_int, h3, SV.v, PV.v])⟩
  ·next x1 y1 hx hy =>
   obtain ⟨_, ex⟩ := jB hk hx
   obtain ⟨_, ey⟩ := jB hk hy
   have ex' : a.eval x = .bool x1.d := ex
   have ey' : a.eval y = .bool y1.d := ey
   split at h
   ·next hu =>
    have hb : ∀ w, (Op.equal t (.bool x1.d) (.bool y1.d)).run P w = .ok (x1.d == y1.d) w := fun w => run_equalIn_bool' w 9999 t _ _ hu
    split at h
    ·exact ⟨_, h, trivial, fun w => jX (by simp [ex', ey', eqGuard_at_bool, binOp, hb, SV.v, PV.v, C.v, eqB_d])⟩
    ·exact ⟨_, h, trivial, fun w => jX (by simp [ex', ey', eqGuard_at_bool, binOp, hb, SV.v, PV.v, C.v, eqB_d, BE.vL])⟩
    ·cases h
   ·cases h
  ·next x1 y1 hx hy =>
   obtain ⟨ox, ex⟩ := jB hk hx
   obtain ⟨oy, ey⟩ := jB hk hy
   have ex' : a.eval x = .agg (vals m x1).toArray := ex
   have ey' : a.eval y = .agg (vals m y1).toArray := ey
   split at h
   ·next e he =>
    obtain ⟨g, hq⟩ := eqT_v m (ox : oks _ x1) (oy : oks _ y1) he
    split at h
    ·exact ⟨_, h, trivial, fun w => jX (by simp only [ex', ey', Sem.run_bind, run_eqGuard_agg w _ t x y _ _ g, Result.andThen_ok, run_eql_struct, hq]; rfl)⟩
    ·exact ⟨_, h, trivial, fun w => jX (by simp only [ex', ey', Sem.run_bind, run_eqGuard_agg w _ t x y _ _ g, Result.andThen_ok, run_neq_struct, hq]; rfl)⟩
    ·cases h
   ·cases h
  ·cases h
 ·next uo ut x =>
  split at h
  ·next k x1 hx =>
   obtain ⟨_, ex⟩ := jB hk hx
   have ex' : a.eval x = .int k x1.d := ex
   exact ⟨_, h, trivial, fun w => jX (by simp [ex', Op.unary, Op.intArith, SV.v, PV.v, C.v, IE.vC, fZ])⟩
  ·next k x1 hx =>
   obtain ⟨_, ex⟩ := jB hk hx
   have ex' : a.eval x = .int k x1.d := ex
   exact ⟨_, h, trivial, fun w => jX (by simp [ex', Op.unary, Op.intBits, Go.bits, SV.v, PV.v, C.v, IE.vC])⟩
  ·next x1 hx =>
   obtain ⟨_, ex⟩ := jB hk hx
   have ex' : a.eval x = .bool x1.d := ex
   exact ⟨_, h, trivial, fun w => jX (by simp [ex', Op.unary, SV.v, PV.v, C.v, BE.vL])⟩
  ·cases h
 ·next src dst' x =>
  split at h
  ·next d1 k k1 x1 hs hd hx =>
   obtain ⟨_, ex⟩ := jB hk hx
   have ex' : a.eval x = .int k1 x1.d := ex
   exact ⟨_, h, trivial, fun w => jX (by simp [ex', convert, underlying, hs, hd, Conv.intToInt, SV.v, PV.v, C.v, IE.vC, fZ])⟩
  ·cases h
 ·next t x f =>
  split at h
  ·next fs g o hu hx =>
   obtain ⟨ok, ex⟩ := jB hk hx
   have ex' : a.eval x = .pointer (some ⟨m g, o, none⟩) := ex
   split at h
   ·next fd hf =>
    split at h
    ·next z hz =>
     have hz' := gX hz
     refine ⟨_, h, ok, fun w => jX ?_⟩
     have : (⟨m g, o, none⟩ : Addr).add fd.offset = ⟨m g, o + fd.offset, none⟩ := by unfold Addr.add; split <;> simp_all
     simp [ex', Instr.fieldAt, Instr.sureAddr, fieldPlace, underlying, hu, hf, hz', SV.v, PV.v, C.v, this]
    ·cases h
   ·cases h
  ·cases h
 ·next t x f =>
  split at h
  ·next fs ss hu hx =>
   obtain ⟨ok, ex⟩ := jB hk hx
   have ex' : a.eval x = .agg (vals m ss).toArray := ex
   split at h
   ·next fd hf =>
    split at h
    ·next v hv =>
     obtain ⟨o1, e1⟩ := xE m ok hv
     exact ⟨_, h, o1, fun w => jX (by simp [ex', Instr.field, asAgg, underlying, hu, hf, e1, SV.v])⟩
    ·cases h
   ·cases h
  ·cases h
 ·next t x i =>
  split at h
  ·next n e g o k j hu hx hi =>
   obtain ⟨ok, ex⟩ := jB hk hx
   obtain ⟨_, ei⟩ := jB hk hi
   have ex' : a.eval x = .pointer (some ⟨m g, o, none⟩) := ex
   have ei' : a.eval i = .int k j := ei
   split at h
   ·next z hz =>
    obtain ⟨h1, h2⟩ := gF h
    rw [Bool.and_eq_true] at h1
    have g1 := of_decide_eq_true h1.1
    have g2 := of_decide_eq_true h1.2
    have hz' := gX hz
    have : (⟨m g, o, none⟩ : Addr).add (j.toNat * z) = ⟨m g, o + j.toNat * z, none⟩ := by unfold Addr.add; split <;> simp_all
    exact ⟨_, h2, ok, fun w => jX (by simp [ex', ei', Instr.indexAt, Instr.sureAddr, asIntOf, underlying, hu, hz', g1, g2, this, SV.v, PV.v, C.v])⟩
   ·cases h
  ·next n e g o k j hu hx hi =>
   obtain ⟨ok, ex⟩ := jB hk hx
   obtain ⟨_, ei⟩ := jB hk hi
   have ex' : a.eval x = .pointer (some ⟨m g, o, none⟩) := ex
   have ei' : a.eval i = .int k j := ei
   split at h
   ·next hz =>
    split at h
    ·next g1 =>
     split at h
     ·next g2 =>
      have hz' := gX hz
      have : (⟨m g, o, none⟩ : Addr).add j.toNat = ⟨m g, o + j.toNat, none⟩ := by unfold Addr.add; split <;> simp_all
      exact ⟨_, h, ⟨ok, g1, g2⟩, fun w => jX (by simp [ex', ei', Instr.indexAt, Instr.sureAddr, asIntOf, underlying, hu, hz', g1, g2, this, SV.v, PV.v, C.v])⟩
     ·cases h
    ·cases h
   ·cases h
  ·next e g o n c k j hu hx hi =>
   obtain ⟨ok, ex⟩ := jB hk hx
   obtain ⟨_, ei⟩ := jB hk hi
   have ex' : a.eval x = .slice (some ⟨m g, o, none⟩) n c := ex
   have ei' : a.eval i = .int k j.d := ei
   split at h
   ·next hz =>
    split at h
    ·next g1 =>
     split at h
     ·next g2 =>
      have hz' := gX hz
      have : (⟨m g, o, none⟩ : Addr).add j.d.toNat = ⟨m g, o + j.d.toNat, none⟩ := by unfold Addr.add; split <;> simp_all
      exact ⟨_, h, ⟨ok, g1, g2⟩, fun w => jX (by simp [ex', ei', Instr.indexAt, Instr.sureAddr, asIntOf, underlying, hu, hz', g1, g2, this, SV.v, PV.v, C.v])⟩
     ·cases h
    ·cases h
   ·cases h
  ·cases h
 ·next t x i =>
  split at h
  ·next n e ss k j hu hx hi =>
   obtain ⟨ok, ex⟩ := jB hk hx
   obtain ⟨_, ei⟩ := jB hk hi
   have ex' : a.eval x = .agg (vals m ss).toArray := ex
   have ei' : a.eval i = .int k j.d := ei
   split at h
   ·next k1 xs n1 ha =>
    obtain ⟨h0, h1⟩ := gF h
    have h0 := Nat.eq_of_beq_eq_true h0
    split at h1
    ·next hz =>
     split at h1
     ·next g1 =>
      split at h1
      ·next g2 =>
       have hl : xs.length = n1 := ok.1
       have hz' := gX hz
       have hp := lD (P := P) (vs := vals m [.a k1 xs n1]) (v := .int k1 (rd xs j.d)) (o := j.d.toNat) ha (by
        have : j.d.toNat < xs.length := by omega
        show (xs.map (Value.int k1) ++ [])[j.d.toNat]? = some (.int k1 (xs.getD j.d.toNat 0))
        rw [List.append_nil, List.getElem?_map, List.getD_eq_getElem?_getD, List.getElem?_eq_getElem this]; rfl)
       have dx : ∀ n : Int, IE.d (.x n) = n := fun _ => rfl
       exact ⟨_, h1, trivial, fun w => jX (by simp [ex', ei', Instr.index, asIntOf, underlying, hu, hz', g1, g2, hp, SV.v, PV.v, C.v, dx])⟩
      ·cases h1
     ·cases h1
    ·cases h1
   ·cases h
  ·cases h
 ·next x i =>
  split at h
  ·next vs hx =>
   obtain ⟨ok, ex⟩ := jB hk hx
   have ex' : a.eval x = .tuple (vs.map (PV.v m)).toArray := ex
   split at h
   ·next v hv =>
    refine ⟨_, h, ok v (List.mem_of_getElem? hv), fun w => jX ?_⟩
    simp [ex', Instr.extract, hv, SV.v]
   ·cases h
  ·cases h
 ·next x =>
  split at h
  ·next g o hx =>
   obtain ⟨ok, ex⟩ := jB hk hx
   have ex' : a.eval x = .pointer (some ⟨m g, o, none⟩) := ex
   exact ⟨_, h, ok, fun w => by simp [execOp, ex', SV.v, PV.v, C.v]⟩
  ·cases h
 ·next t ps =>
  split at h
  ·next fs ss hu hz =>
   split at h
   ·next places hp =>
    split at h
    ·next ss' hf =>
     obtain ⟨o0, i0, v0, hi, hz0, hc⟩ := iO m N hz
     obtain ⟨o1, f1⟩ := rH hk (pl := (places.toArray[·]?)) (fun j x hx => by simpa using hx) o0 hf
     refine ⟨_, h, o1, fun w => jX (run_build w t _ _ ?_)⟩
     unfold Program.built
     simp only [hi, hu, hz0, hp]
     rw [hc, ← f1]
     congr 1
     simp
    ·cases h
   ·cases h
  ·next n e ss hu hz =>
   split at h
   ·next ie hie =>
    split at h
    ·next ss' hf =>
     obtain ⟨o0, i0, v0, hi, hz0, hc⟩ := iO m N hz
     obtain ⟨o1, f1⟩ := rH hk (pl := fun i => some (i * ie.size, ie.size)) (fun j x hx => by
      rw [List.getElem?_map] at hx
      obtain ⟨y, hy, rfl⟩ := Option.map_eq_some_iff.mp hx
      have hj : y = j := by
       obtain ⟨hlt, he⟩ := List.getElem?_eq_some_iff.1 hy
       rw [List.getElem_range] at he; exact he.symm
      subst hj
      rfl) o0 hf
     refine ⟨_, h, o1, fun w => jX (run_build w t _ _ ?_)⟩
     unfold Program.built
     simp only [hi, hu, hz0, hie]
     rw [hc, ← f1]
     congr 1
     simp
    ·cases h
   ·cases h
  ·cases h
 ·next args argTypes =>
  split at h
  ·next t x h1 h2 =>
   split at h
   ·next e g o n c hu hx =>
    obtain ⟨ok, ex⟩ := jB hk hx
    have ex' : a.eval x = .slice (some ⟨m g, o, none⟩) n c := ex
    exact ⟨_, h, trivial, fun w => by simp [execOp, resolve, invoke, builtin, Builtin.len_, h1, h2, ex', underlying, hu, goInt, SV.v, PV.v, C.v, IE.d]⟩
   ·cases h
  ·cases h
 ·next args at' =>
  split at h
  ·next k x1 k' y1 hx =>
   obtain ⟨h1, h2⟩ := gF h
   obtain rfl := of_decide_eq_true h1
   obtain ⟨_, ex⟩ := vE hk hx
   refine ⟨_, h2, trivial, fun w => ?_⟩
   have e2 : args.map a.eval = #[.int k x1.d, .int k y1.d] := by
    apply Array.ext'
    rw [Array.toList_map, ex]; rfl
   simp [execOp, resolve, invoke, builtin, Builtin.min_, Builtin.min2, e2, SV.v, PV.v, C.v, IE.vC, mn]
  ·cases h
 ·next args at' =>
  split at h
  ·next k x1 k' y1 hx =>
   obtain ⟨h1, h2⟩ := gF h
   obtain rfl := of_decide_eq_true h1
   obtain ⟨_, ex⟩ := vE hk hx
   refine ⟨_, h2, trivial, fun w => ?_⟩
   have e2 : args.map a.eval = #[.int k x1.d, .int k y1.d] := by
    apply Array.ext'
    rw [Array.toList_map, ex]; rfl
   simp [execOp, resolve, invoke, builtin, Builtin.max_, Builtin.max2, e2, SV.v, PV.v, C.v, IE.vC, mx]
  ·cases h
 ·cases h
end
theorem C.gG {N N' : Nat} (h : N ≤ N') {c : C} (k : c.ok N) : c.ok N' := by
 cases c <;> first | exact Nat.lt_of_lt_of_le k h | exact ⟨Nat.lt_of_lt_of_le k.1 h, k.2⟩ | exact k
theorem S.gG {N N' : Nat} (h : N ≤ N') {s : S} (k : s.ok N) : s.ok N' := by
 cases s with
 |c u => exact C.gG h k
 |a => exact k
theorem jL {N N' : Nat} (h : N ≤ N') {ss : List S} (k : oks N ss) : oks N' ss := by
 induction ss with
 |nil => trivial
 |cons s r ih => exact ⟨S.gG h k.1, ih k.2⟩
theorem PV.gG {N N' : Nat} (h : N ≤ N') {v : PV} (k : v.ok N) : v.ok N' := by
 cases v with
 |one c => exact C.gG h k
 |agg ss => exact jL h k
theorem SV.gG {N N' : Nat} (h : N ≤ N') {v : SV} (k : v.ok N) : v.ok N' := by
 cases v with
 |pv u => exact PV.gG h k
 |tup vs => exact fun u hu => PV.gG h (k u hu)
 |und => trivial
section
variable {m m' : Nat → Nat} {N : Nat}
theorem C.iB (h : ∀ g, g < N → m' g = m g) {c : C} (k : c.ok N) : c.v m' = c.v m := by
 cases c with
 |p g o => show Value.pointer (some ⟨m' g, o, none⟩) = _; rw [h g k]; rfl
 |pd g o j n => show Value.pointer (some ⟨m' g, o + j.toNat, none⟩) = _; rw [h g k.1]; rfl
 |sl g o n c => show Value.slice (some ⟨m' g, o, none⟩) n c = _; rw [h g k]; rfl
 |_ => rfl
theorem iN (h : ∀ g, g < N → m' g = m g) {ss : List S} (k : oks N ss) : vals m' ss = vals m ss := by
 induction ss with
 |nil => rfl
 |cons s r ih =>
  have e : s.v m' = s.v m := by
   cases s with
   |c u => show [u.v m'] = [u.v m]; rw [C.iB h k.1]
   |a => rfl
  show s.v m' ++ vals m' r = s.v m ++ vals m r
  rw [e, ih k.2]
theorem PV.iB (h : ∀ g, g < N → m' g = m g) {v : PV} (k : v.ok N) : v.v m' = v.v m := by
 cases v with
 |one c => exact C.iB h k
 |agg ss => show Value.agg _ = Value.agg _; rw [iN h k]
theorem SV.iB (h : ∀ g, g < N → m' g = m g) {v : SV} (k : v.ok N) : v.v m' = v.v m := by
 cases v with
 |pv u => exact PV.iB h k
 |tup vs =>
  show Value.tuple _ = Value.tuple _
  congr 2
  exact List.map_congr_left fun u hu => PV.iB h (k u hu)
 |und => rfl
end
structure Rel (w0 : World) (nt : Nat) (m : Nat → Nat) (s : St) (a : Act) (w : World) : Prop where
 size : a.tmps.size = nt
 dfr : a.defers = []
 env : Knows m s.next s.env a
 heap : ∀ g e ss, look s.heap g = some (e, ss) → g < s.next ∧ oks s.next ss ∧ w.heap[m g]? = some (.cells (vals m ss).toArray e (0, 0)) ∧ w0.heap.size ≤ m g
 inj : ∀ g g', (look s.heap g).isSome = true → (look s.heap g').isSome = true → m g = m g' → g = g'
 bel : Below w0.heap.size w0 w
theorem nbeq {a b : Nat} (h : ¬ a = b) : Nat.beq a b = false := by
 cases hh : Nat.beq a b
 ·rfl
 ·exact absurd (Nat.eq_of_beq_eq_true hh) h
theorem fQ {α : Type _} (k t : Nat) (v : α) (r : List (Nat × α)) : look ((k, v) :: r) t = if k = t then some v else look r t := by
 by_cases h : k = t
 ·subst h; simp [look]
 ·have : Nat.beq k t = false := nbeq h
  simp [look, this, h]
theorem kV {m : Nat → Nat} {N : Nat} {env : List (Nat × SV)} {a : Act} (hk : Knows m N env a) {d : Nat} (hd : d < a.tmps.size) {v : SV} (hv : v.ok N) : Knows m N ((d, v) :: env) (a.put (some d) (v.v m)) := by
 intro t u h
 rw [fQ] at h
 show u.ok N ∧ (a.tmps.setIfInBounds d (v.v m)).getD t undef = u.v m
 by_cases c : d = t
 ·rw [if_pos c] at h
  cases h
  subst c
  exact ⟨hv, by simp [hd]⟩
 ·rw [if_neg c] at h
  obtain ⟨o, e⟩ := hk t u h
  refine ⟨o, ?_⟩
  rw [← e]
  simp [Array.getD_eq_getD_getElem?, Array.getElem?_setIfInBounds_ne c]
theorem okD_lt {nt d : Nat} (h : okD nt (some d) = true) : d < nt := Nat.le_of_ble_eq_true h
theorem Rel.put {w0 : World} {nt : Nat} {m : Nat → Nat} {s : St} {a : Act} {w : World} (h : Rel w0 nt m s a w) {d : Option Nat} (hd : okD nt d = true) {v : SV} (hv : v.ok s.next) : Rel w0 nt m (s.put d v) (a.put d (v.v m)) w := by
 cases d with
 |none => exact h
 |some d =>
  have hl := okD_lt hd
  exact ⟨by show (a.tmps.setIfInBounds d _).size = nt; rw [Array.size_setIfInBounds]; exact h.size, h.dfr, kV h.env (by rw [h.size]; exact hl) hv, h.heap, h.inj, h.bel⟩
theorem Rel.grow {w0 : World} {nt : Nat} {m : Nat → Nat} {s : St} {a : Act} {w w' : World} (h : Rel w0 nt m s a w) (hb : Below w.heap.size w w') : Rel w0 nt m s a w' :=
 ⟨h.size, h.dfr, h.env, fun g e ss hg => by
  obtain ⟨a1, a2, a3, a4⟩ := h.heap g e ss hg
  exact ⟨a1, a2, (hb.block _ (blk_lt a3)).trans a3, a4⟩, h.inj, below_then h.bel h.bel.size hb⟩
theorem Rel.new {w0 : World} {nt : Nat} {m : Nat → Nat} {s : St} {a : Act} {w : World} (h : Rel w0 nt m s a w) {d : Option Nat} (hd : okD nt d = true) {e : Nat} {ss : List S} (ho : oks s.next ss) {v : C}
  (hv : v.ok (s.next + 1)) :
  Rel w0 nt (fun g => if g = s.next then w.heap.size else m g) ⟨match d with
   |some d => (d, .pv (.one v)) :: s.env
   |none => s.env, (s.next, e, ss) :: s.heap, s.next + 1⟩ (a.put d (v.v (fun g => if g = s.next then w.heap.size else m g))) (w.alloc (.cells (vals m ss).toArray e (0, 0))) := by
 have hm : ∀ g, g < s.next → (fun g => if g = s.next then w.heap.size else m g) g = m g := fun g hg => if_neg (Nat.ne_of_lt hg)
 have hk : Knows (fun g => if g = s.next then w.heap.size else m g) (s.next + 1) s.env a := fun t u hu => by
  obtain ⟨o, e⟩ := h.env t u hu
  exact ⟨SV.gG (Nat.le_succ _) o, by rw [e, SV.iB hm o]⟩
 have hlt : ∀ g, (look s.heap g).isSome = true → g < s.next ∧ m g < w.heap.size := fun g hg => by
  obtain ⟨⟨e, ss⟩, he⟩ := Option.isSome_iff_exists.mp hg
  obtain ⟨a1, a2, a3, a4⟩ := h.heap g e ss he
  exact ⟨a1, blk_lt a3⟩
 refine ⟨?_, ?_, ?_, ?_, ?_, below_then h.bel h.bel.size (below_alloc (Below.refl _ _) _)⟩
 ·cases d with
  |none => exact h.size
  |some d => show (a.tmps.setIfInBounds d _).size = nt; rw [Array.size_setIfInBounds]; exact h.size
 ·cases d with
  |none => exact h.dfr
  |some d => exact h.dfr
 ·cases d with
  |none => exact hk
  |some d => exact kV (v := .pv (.one v)) hk (by rw [h.size]; exact okD_lt hd) hv
 ·intro g e' ss' hg
  rw [fQ] at hg
  by_cases c : s.next = g
  ·rw [if_pos c] at hg
   cases hg
   subst c
   refine ⟨Nat.lt_succ_self _, jL (Nat.le_succ _) ho, ?_, ?_⟩
   ·rw [iN hm ho]
    simp only [if_true]
    exact blk_new w _
   ·simp only [if_true]
    exact h.bel.size
  ·rw [if_neg c] at hg
   obtain ⟨a1, a2, a3, a4⟩ := h.heap g e' ss' hg
   refine ⟨Nat.lt_succ_of_lt a1, jL (Nat.le_succ _) a2, ?_, ?_⟩
   ·rw [iN hm a2]
    simp only [if_neg (Ne.symm c)]
    exact blk_alloc a3 _
   ·simp only [if_neg (Ne.symm c)]
    exact a4
 ·intro g g' h1 h2 h3
  simp only [fQ] at h1 h2
  by_cases c : s.next = g
  ·by_cases c' : s.next = g'
   ·omega
   ·rw [if_neg c'] at h2
    have := hlt g' h2
    simp only [if_pos c.symm, if_neg (Ne.symm c')] at h3
    omega
  ·rw [if_neg c] at h1
   by_cases c' : s.next = g'
   ·have := hlt g h1
    simp only [if_neg (Ne.symm c), if_pos c'.symm] at h3
    omega
   ·rw [if_neg c'] at h2
    simp only [if_neg (Ne.symm c), if_neg (Ne.symm c')] at h3
    exact h.inj g g' h1 h2 h3
theorem aAG {α : Type _} {l : List (Nat × α)} {g : Nat} {u : α} : ∀ t, look (upd l g u) t = if t = g ∧ (look l g).isSome = true then some u else look l t := by
 induction l with
 |nil => intro t; simp [upd, look]
 |cons p r ih =>
  obtain ⟨k, v⟩ := p
  intro t
  by_cases c : k = g
  ·subst c
   have e : upd ((k, v) :: r) k u = (k, u) :: r := by simp [upd]
   rw [e, fQ, fQ, fQ]
   by_cases c' : k = t
   ·simp [c']
   ·simp [c', Ne.symm c']
  ·have hb : Nat.beq k g = false := nbeq c
   have e : upd ((k, v) :: r) g u = (k, v) :: upd r g u := by simp [upd, hb]
   rw [e, fQ, fQ, fQ, ih t]
   by_cases c' : k = t
   ·subst c'; simp [c]
   ·simp [c', c]
theorem Rel.write {w0 : World} {nt : Nat} {m : Nat → Nat} {s : St} {a : Act} {w w' : World} (h : Rel w0 nt m s a w) {g e : Nat} {ss ss' : List S} (hg : look s.heap g = some (e, ss)) (ho : oks s.next ss')
  (h1 : w'.heap[m g]? = some (.cells (vals m ss').toArray e (0, 0))) (h2 : ∀ k, k ≠ m g → w'.heap[k]? = w.heap[k]?) (h3 : w'.heap.size = w.heap.size) (h4 : w'.os = w.os ∧ w'.tape = w.tape ∧ w'.output = w.output) :
  Rel w0 nt m ⟨s.env, upd s.heap g (e, ss'), s.next⟩ a w' := by
 have hs : ∀ k, (look (upd s.heap g (e, ss')) k).isSome = true → (look s.heap k).isSome = true := fun k hk => by
  rw [aAG] at hk
  by_cases c : k = g ∧ (look s.heap g).isSome = true
  ·rw [c.1]; exact c.2
  ·rw [if_neg c] at hk; exact hk
 refine ⟨h.size, h.dfr, h.env, ?_, fun k k' hk hk' he => h.inj k k' (hs k hk) (hs k' hk') he, ?_⟩
 ·intro k e' q hk
  have hk : look (upd s.heap g (e, ss')) k = some (e', q) := hk
  rw [aAG] at hk
  obtain ⟨a1, a2, a3, a4⟩ := h.heap g e ss hg
  by_cases c : k = g
  ·subst c
   rw [if_pos ⟨rfl, by rw [hg]; rfl⟩] at hk
   cases hk
   exact ⟨a1, ho, h1, a4⟩
  ·rw [if_neg (fun x => c x.1)] at hk
   obtain ⟨b1, b2, b3, b4⟩ := h.heap k e' q hk
   refine ⟨b1, b2, (h2 _ (fun hh => c ?_)).trans b3, b4⟩
   exact h.inj k g (by rw [hk]; rfl) (by rw [hg]; rfl) hh
 ·obtain ⟨_, _, _, a4⟩ := h.heap g e ss hg
  exact ⟨h4.1.trans h.bel.os, h4.2.1.trans h.bel.tape, h4.2.2.trans h.bel.output, by rw [h3]; exact h.bel.size, fun k hk => (h2 k (by omega)).trans (h.bel.block k hk)⟩
theorem add0 (g o n : Nat) : (⟨g, o, none⟩ : Addr).add n = ⟨g, o + n, none⟩ := by unfold Addr.add; split <;> simp_all
section
variable {P : Program}
theorem pI {m : Nat → Nat} {N t : Nat} {heap : List (Nat × Nat × List S)} {c : C} {v : PV} {w : World} (hc : c.ok N)
  (hh : ∀ g e ss, look heap g = some (e, ss) → oks N ss ∧ w.heap[m g]? = some (.cells (vals m ss).toArray e (0, 0))) (h : sF P t heap c = some v) :
  v.ok N ∧ (Instr.loadAt t (c.v m)).run P w = .ok (v.v m) w := by
 unfold sF at h
 split at h
 ·next g o =>
  split at h
  ·next e ss hg =>
   obtain ⟨ho, hw⟩ := hh g e ss hg
   unfold sH at h
   split at h
   ·next n h1 h2 =>
    split at h
    ·next r h3 =>
     cases h
     obtain ⟨a, b, cc, d⟩ := sub_v m ho h3
     refine ⟨a, ?_⟩
     have h1 := jE h1 w
     have h2 := gX h2 w
     have hl : (vals m r).length = n := by rw [dK m r a]; exact b
     have hload := run_loadCells_list (P := P) (w := w) ⟨m g, o, none⟩ (vals m r) (fun j u hj => by
      rw [add0, cell_of_row w _ _ _ _ _ hw]
      rw [cc] at hj
      rw [List.getElem?_take] at hj
      split at hj
      ·rw [List.getElem?_drop] at hj
       simpa using hj
      ·cases hj)
     rw [hl] at hload
     have e1 : (loadVar t ⟨m g, o, none⟩).run P w = .ok (.agg (vals m r).toArray) w := by
      simp [loadVar, h1, h2, hload]
     simp [Instr.loadAt, Instr.sureAddr, C.v, e1, PV.v]
    ·cases h
   ·next n h1 h2 =>
    split at h
    ·next u h3 =>
     cases h
     obtain ⟨a, b⟩ := aAT m ho h3
     refine ⟨a, ?_⟩
     have h1 := jE h1 w
     have hcell : w.cell? ⟨m g, o, none⟩ = some (u.v m) := by
      rw [cell_of_row w _ _ _ _ _ hw]; simpa using b
     simp [Instr.loadAt, Instr.sureAddr, C.v, loadVar, h1, hcell, PV.v]
    ·cases h
   ·cases h
  ·cases h
 ·next g o j n =>
  split at h
  ·next e ss h1 hg =>
   obtain ⟨ho, hw⟩ := hh g e ss hg
   split at h
   ·next k xs n' h3 =>
    obtain ⟨h4, h5⟩ := gF h
    cases h5
    have h4 := Nat.eq_of_beq_eq_true h4
    obtain ⟨hl, p, q, hv, lp⟩ := runAt_v m ho h3
    refine ⟨trivial, ?_⟩
    obtain ⟨_, j0, j1⟩ := hc
    have hj : j.toNat < xs.length := by omega
    have h1 := jE h1 w
    have hcell : w.cell? ⟨m g, o + j.toNat, none⟩ = some (.int k (rd xs j)) := by
     rw [cell_of_row w _ _ _ _ _ hw, hv]
     show (p ++ (xs.map (Value.int k) ++ q)).toArray[o + j.toNat]? = some (.int k (xs.getD j.toNat 0))
     rw [List.getElem?_toArray, List.getElem?_append_right (by omega), lp, show o + j.toNat - o = j.toNat by omega, List.getElem?_append_left (by rw [List.length_map]; exact hj), List.getElem?_map, List.getD_eq_getElem?_getD, List.getElem?_eq_getElem hj]
     rfl
    simp [Instr.loadAt, Instr.sureAddr, C.v, loadVar, h1, hcell, PV.v, IE.d]
   ·cases h
  ·cases h
 ·cases h
theorem kU {g e o : Nat} : ∀ (vs : List Value) (i : Nat) (old : List Value) (w : World), w.heap[g]? = some (.cells old.toArray e (0, 0)) → o + i + vs.length ≤ old.length → (∀ v ∈ vs, v.oneCell' = true) →
  ∃ w', (storeCells ⟨g, o, none⟩ vs i).run P w = .ok () w' ∧ w'.heap[g]? = some (.cells (old.take (o + i) ++ (vs ++ old.drop (o + i + vs.length))).toArray e (0, 0)) ∧ (∀ k, k ≠ g → w'.heap[k]? = w.heap[k]?) ∧ w'.heap.size = w.heap.size ∧ w'.os = w.os ∧ w'.tape = w.tape ∧ w'.output = w.output := by
 intro vs
 induction vs with
 |nil =>
  intro i old w hw _ _
  exact ⟨w, by simp [storeCells], by simpa using hw, fun _ _ => rfl, rfl, rfl, rfl, rfl⟩
 |cons v vs ih =>
  intro i old w hw hl h1
  rw [List.length_cons] at hl
  have hi : o + i < old.length := by omega
  have hcell : w.cell? ⟨g, o + i, none⟩ = some old[o + i] := by
   rw [cell_of_row w _ _ _ _ _ hw]; simp [hi]
  have hfz : w.frozen? ⟨g, o + i, none⟩ = false := blk_frozen hw _
  have hset := blk_set hw (o + i) v
  have hset' : (w.setCell ⟨g, o + i, none⟩ v).heap[g]? = some (.cells (old.set (o + i) v).toArray e (0, 0)) := by rw [hset]; simp
  obtain ⟨w', r1, r2, r3, r4, r5⟩ := ih (i + 1) (old.set (o + i) v) _ hset' (by rw [List.length_set]; omega) (fun u hu => h1 u (List.mem_cons_of_mem _ hu))
  refine ⟨w', ?_, ?_, fun k hk => (r3 k hk).trans (Below.heap_setCell w _ v k (by simpa using hk)), ?_, r5⟩
  ·have hrun := run_store P w ⟨g, o + i, none⟩ v .plain (h1 v (List.mem_cons_self ..))
   rw [hcell] at hrun
   simp only [hfz, Bool.false_eq_true, if_false] at hrun
   simp [storeCells, add0, hrun, r1]
  ·rw [r2]
   congr 3
   rw [show o + (i + 1) = o + i + 1 by omega, List.drop_set_of_lt (by omega), List.take_add_one, List.getElem?_set_self hi, List.take_set_of_le (Nat.le_refl _)]
   simp [Nat.add_assoc, Nat.add_comm 1]
  ·rw [r4]
   simp [World.setCell]
theorem storeS_v {w0 : World} {nt : Nat} {m : Nat → Nat} {s : St} {a : Act} {w : World} {t : Nat} {c : C} {v : PV} {heap' : List (Nat × Nat × List S)} (hr : Rel w0 nt m s a w) (hc : c.ok s.next) (hv : v.ok s.next)
  (h : aDb P t s.heap v c = some heap') : ∃ w', (Instr.storeAt t (c.v m) (v.v m)).run P w = .ok () w' ∧ Rel w0 nt m ⟨s.env, heap', s.next⟩ a w' := by
 unfold aDb at h
 split at h
 ·next g o =>
  split at h
  ·next e ss u hg hz =>
   split at h
   ·next ss' hs =>
    cases h
    obtain ⟨a1, a2, a3, a4⟩ := hr.heap g e ss hg
    obtain ⟨b1, b2, b3, b4⟩ := aDd m a2 hv hs
    have hz' := gX hz w
    obtain ⟨w', r1, r2, r3, r4, r5⟩ := kU (P := P) (o := o) [u.v m] 0 (vals m ss) w a3 (by simp; omega) (by simp [C.one])
    refine ⟨w', ?_, hr.write hg b1 (by
     rw [r2, b2]
     congr 3
     rw [Nat.add_zero, List.set_eq_take_append_cons_drop, if_pos b3]; rfl) r3 r4 r5⟩
    show (Instr.storeAt t (.pointer (some ⟨m g, o, none⟩)) (u.v m)).run P w = _
    simp [Instr.storeAt, Instr.sureAddr, storeVar, C.cells, hz', r1]
   ·cases h
  ·next _ e ss n new hg hz =>
   obtain ⟨h1, h2⟩ := gF h
   have h1 := Nat.eq_of_beq_eq_true h1
   split at h2
   ·next ss' hs =>
    cases h2
    obtain ⟨a1, a2, a3, a4⟩ := hr.heap g e ss hg
    have hv' : oks s.next new := hv
    obtain ⟨b1, b2, b3, b4⟩ := aAU m a2 hv' hs
    have hz' := gX hz w
    have hl := dK m new hv'
    obtain ⟨w', r1, r2, r3, r4, r5⟩ := kU (P := P) (o := o) (vals m new) 0 (vals m ss) w a3 (by omega) (sS m new)
    refine ⟨w', ?_, hr.write hg b1 (by rw [r2, b2, Nat.add_zero, hl]) r3 r4 r5⟩
    have hn : (vals m new).length = n := by omega
    simp [Instr.storeAt, Instr.sureAddr, C.v, PV.v, storeVar, Value.cells, hz', hn, r1]
   ·cases h2
  ·cases h
 ·next g o j n =>
  split at h
  ·next e ss k x hg hz =>
   split at h
   ·next k' xs n' h3 =>
    obtain ⟨h4, h5⟩ := gF h
    cases h5
    rw [Bool.and_eq_true] at h4
    have h6 := Nat.eq_of_beq_eq_true h4.1
    obtain rfl := of_decide_eq_true h4.2
    obtain ⟨a1, a2, a3, a4⟩ := hr.heap g e ss hg
    obtain ⟨_, j0, j1⟩ := hc
    have hj : j.toNat < n' := by omega
    obtain ⟨b1, b2, b3, b4⟩ := setRun_v m (y := x.d) a2 h3 hj
    have hz' := gX hz w
    obtain ⟨w', r1, r2, r3, r4, r5⟩ := kU (P := P) (o := o + j.toNat) [Value.int k x.d] 0 (vals m ss) w a3 (by simp; omega) (by simp [Value.oneCell'])
    refine ⟨w', ?_, hr.write hg b1 (by
     rw [r2, b2]
     congr 3
     rw [Nat.add_zero, List.set_eq_take_append_cons_drop, if_pos b3]; rfl) r3 r4 r5⟩
    simp [Instr.storeAt, Instr.sureAddr, C.v, PV.v, storeVar, Value.cells, hz', r1]
   ·cases h
  ·cases h
 ·cases h
theorem ints_v (m : Nat → Nat) {k : IntKind} {vs : List PV} : ∀ {xs : List Int}, ints k vs = some xs → vs.map (PV.v m) = xs.map (Value.int k) := by
 induction vs with
 |nil => intro xs h; cases h; rfl
 |cons v r ih =>
  intro xs h
  cases v with
  |one u =>
   cases u with
   |i k' x =>
    unfold ints at h
    split at h
    ·next ys hy =>
     obtain ⟨h1, h2⟩ := gF h
     cases h2
     obtain rfl := of_decide_eq_true h1
     simp [PV.v, C.v, ih hy]
    ·cases h
   |_ => cases h
  |agg ss => cases h
theorem fill_all : ∀ (vs : List Value) (i : Nat) (cells : List Value), (∀ v ∈ vs, v.cells = #[v]) → cells.length = i + vs.length →
  Instr.fill (fun j => some (j * 1, 1)) cells.toArray ((List.range' i vs.length).zip vs) = some (cells.take i ++ vs).toArray := by
 intro vs
 induction vs with
 |nil => intro i cells _ h; simp [Instr.fill]; rw [List.take_of_length_le (by simp at h; omega)]
 |cons v vs ih =>
  intro i cells h1 hl
  rw [List.length_cons] at hl
  have hc := h1 v (List.mem_cons_self ..)
  have hi : i < cells.length := by omega
  rw [List.length_cons, List.range'_succ, List.zip_cons_cons, nX (off := i * 1) (size := 1) rfl (by rw [hc]; rfl) (by rw [hc, List.size_toArray, Nat.mul_one]; exact hi), hc]
  show Instr.fill _ (cells.toArray.setIfInBounds (i * 1 + 0) v) _ = _
  rw [Nat.mul_one, Nat.add_zero, List.setIfInBounds_toArray, ih (i + 1) (cells.set i v) (fun u hu => h1 u (List.mem_cons_of_mem _ hu)) (by rw [List.length_set]; omega)]
  congr 2
  rw [List.take_add_one, List.getElem?_set_self hi, List.take_set_of_le (Nat.le_refl _)]
  simp
def aCR (m : Nat → Nat) (h : List (Nat × Nat × List S)) (w : World) : Prop := ∃ N, ∀ g e ss, look h g = some (e, ss) → oks N ss ∧ w.heap[m g]? = some (.cells (vals m ss).toArray e (0, 0))
structure gW (P : Program) (f : FuncId) (c : Fc) : Prop where
 fn : ∃ fn, P.funcs[f]? = some fn ∧ fn.body.isSome = true ∧ (fn.name == "runtime.NumGoroutine") = false
 run : ∀ (R : Type) (n N : Nat) (h : List (Nat × Nat × List S)) (vs : List PV) (K : SV → Option R) (r : R), (∀ v ∈ vs, v.ok N) → c.run R n h vs K = some r → ∃ v, K v = some r ∧ v.ok 0 ∧ ∀ (m : Nat → Nat) (w : World), aCR m h w → Calls P f (vs.map (PV.v m)).toArray w fun e w' => e = .returned (v.v m) ∧ Below w.heap.size w w'
def bR (P : Program) (cl : Cls) : Prop := ∀ f c, look cl f = some c → gW P f c
theorem yP {cl : Cls} (hcl : bR P cl) {R : Type} {w0 : World} {nt n : Nat} {o : Oper} {s : St} {K : St → Option R} {r : R} {m : Nat → Nat} {a : Act} {w : World} (hr : Rel w0 nt m s a w) (h : aCY P nt cl n o s K = some r) :
  ∃ s', K s' = some r ∧ ∀ (next : Act → World → Prop) (Q : Exit → Act → World → Prop), (∀ m' a' w', Rel w0 nt m' s' a' w' → (∀ g, g < s.next → m' g = m g) → s.next ≤ s'.next → (iV o.op = false → Below w.heap.size w w') → next a' w') → o.wp P a w next Q := by
 unfold aCY at h
 have hb := gF h
 clear h
 obtain ⟨hd, h⟩ := hb
 obtain ⟨dst, op, ty, pos, after, guard⟩ := o
 simp only at h hd
 have hm : ∀ g, g < s.next → (fun g => if g = s.next then w.heap.size else m g) g = m g := fun g hg => if_neg (Nat.ne_of_lt hg)
 split at h
 ·next t =>
  split at h
  ·next ss hz =>
   obtain ⟨ho, v, hv, hrun⟩ := zeroS_v m s.next hz
   refine ⟨_, h, fun next Q hn => ?_⟩
   have hrel := hr.new (d := dst) (v := .p s.next 0) hd (e := t) ho (Nat.lt_succ_self _)
   have hex : (execOp a.eval ⟨dst, .alloc t, ty, pos, after, guard⟩).run P w = .ok (.value (.pointer (some ⟨w.heap.size, 0, none⟩))) (w.alloc (.cells (vals m ss).toArray t (0, 0))) := by
    have e : v.cells = (vals m ss).toArray := by rw [← hv]
    simp [execOp, Instr.alloc, hrun, newVar, newRow, e]
   unfold Oper.wp
   rw [hex]
   refine hn _ _ _ ?_ hm (Nat.le_succ _) (fun _ => below_alloc (Below.refl _ _) _)
   have e3 : (C.p s.next 0).v (fun g => if g = s.next then w.heap.size else m g) = .pointer (some ⟨w.heap.size, 0, none⟩) := by simp [C.v]
   rw [e3] at hrel
   exact hrel
  ·cases h
 ·next t x =>
  split at h
  ·next v hx =>
   obtain ⟨ok, ex⟩ := jB hr.env hx
   refine ⟨_, h, fun next Q hn => ?_⟩
   have ho : oks s.next v.segs := by
    cases v with
    |one c => exact ⟨ok, trivial⟩
    |agg ss => exact ok
   have hrel := hr.new (d := dst) (v := .p s.next 0) hd (e := t) ho (Nat.lt_succ_self _)
   have hc : (a.eval x).cells = (vals m v.segs).toArray := by
    rw [ex]
    cases v with
    |one c => show (c.v m).cells = (c.v m :: []).toArray; rw [C.cells]
    |agg ss => rfl
   have hex : (execOp a.eval ⟨dst, .box t x, ty, pos, after, guard⟩).run P w = .ok (.value (.pointer (some ⟨w.heap.size, 0, none⟩))) (w.alloc (.cells (vals m v.segs).toArray t (0, 0))) := by
    simp [execOp, Instr.box, newVar, newRow, hc]
   unfold Oper.wp
   rw [hex]
   refine hn _ _ _ ?_ hm (Nat.le_succ _) (fun _ => below_alloc (Below.refl _ _) _)
   have e3 : (C.p s.next 0).v (fun g => if g = s.next then w.heap.size else m g) = .pointer (some ⟨w.heap.size, 0, none⟩) := by simp [C.v]
   rw [e3] at hrel
   exact hrel
  ·cases h
 ·next t x =>
  split at h
  ·next c hx =>
   obtain ⟨ok, ex⟩ := jB hr.env hx
   split at h
   ·next v hv =>
    obtain ⟨vo, vr⟩ := pI (w := w) ok (fun g e ss hg => ⟨(hr.heap g e ss hg).2.1, (hr.heap g e ss hg).2.2.1⟩) hv
    refine ⟨_, h, fun next Q hn => ?_⟩
    have ex' : a.eval x = c.v m := ex
    have hex : (execOp a.eval ⟨dst, .load t x, ty, pos, after, guard⟩).run P w = .ok (.value (v.v m)) w := jX (by rw [ex']; exact vr)
    unfold Oper.wp
    rw [hex]
    exact hn _ _ _ (hr.put (v := .pv v) hd vo) (fun _ _ => rfl) (by cases dst <;> exact Nat.le_refl _) (fun _ => Below.refl _ _)
   ·cases h
  ·cases h
 ·next t x y =>
  split at h
  ·next c v hx hy =>
   obtain ⟨ok, ex⟩ := jB hr.env hx
   obtain ⟨oky, ey⟩ := jB hr.env hy
   split at h
   ·next hp hs =>
    obtain ⟨w', r1, r2⟩ := storeS_v hr ok oky hs
    refine ⟨_, h, fun next Q hn => ?_⟩
    have ex' : a.eval x = c.v m := ex
    have ey' : a.eval y = v.v m := ey
    have hex : (execOp a.eval ⟨dst, .store t x y, ty, pos, after, guard⟩).run P w = .ok .skip w' := by
     simp [execOp, ex', ey', r1]
    unfold Oper.wp
    rw [hex]
    exact hn _ _ _ (r2.put (v := .und) hd trivial) (fun _ _ => rfl) (by cases dst <;> exact Nat.le_refl _) (fun hf => by cases hf)
   ·cases h
  ·cases h
 ·next t len ps =>
  split at h
  ·next e vs hu hx =>
   split at h
   ·next k k' hk hz =>
    split at h
    ·next xs hi =>
     obtain ⟨h1, h2⟩ := gF h
     simp only [Bool.and_eq_true] at h1
     obtain ⟨⟨⟨⟨g1, g2⟩, g3⟩, g4⟩, g5⟩ := h1
     obtain rfl := of_decide_eq_true g1
     have g2 := eq_of_beq g2
     have g3 := Nat.le_of_ble_eq_true g3
     have g4 : 0 < len := Nat.le_of_ble_eq_true g4
     have hz1 : jH P e = some 1 := by
      revert g5
      cases hs : jH P e with
      |none => simp
      |some z => match z with
       |0 => simp
       |1 => simp
       |z + 2 => simp
     obtain ⟨_, ex⟩ := vE hr.env hx
     rw [ints_v m hi] at ex
     have hlx : xs.length = len := by
      have := congrArg List.length ex
      simp only [List.length_map] at this
      have h6 := congrArg List.length g2
      simp only [List.length_map, List.length_range] at h6
      omega
     obtain ⟨z0, zi, zv, zi1, zi2, zi3⟩ := iO m s.next hz
     have hrel := hr.new (d := dst) (v := .sl s.next 0 len len) hd (e := e) (ss := [.a k xs len]) ⟨hlx, trivial⟩ (Nat.lt_succ_self _)
     have hv0 : vals m [.a k xs len] = xs.map (Value.int k) := by simp [vals, S.v]
     have hps : ps.toList.map (fun x => (x.1, a.eval x.2)) = (List.range' 0 (xs.map (Value.int k)).length).zip (xs.map (Value.int k)) := by
      rw [← ex, List.length_map, ← List.range_eq_range']
      have h7 : (List.map (·.2) ps.toList).length = len := by
       have h6 := congrArg List.length g2
       simp only [List.length_map, List.length_range] at h6 ⊢
       omega
      rw [h7, ← g2]
      generalize ps.toList = l
      induction l with
      |nil => rfl
      |cons p l ih => simp [ih]
     refine ⟨_, h2, fun next Q hn => ?_⟩
     have hz' := gX hz1 w
     have hzero : (zeroValue e).run P w = .ok zv w := by simp [zeroValue, typeInfo, zi1, zi2]
     have hf := fill_all (xs.map (Value.int k)) 0 (((Array.range len).map (zv.cells[· % zv.cells.size]!)).toList) (by simp [Value.cells]) (by simp [hlx])
     have hex : (execOp a.eval ⟨dst, .buildSlice t len ps, ty, pos, after, guard⟩).run P w = .ok (.value (.slice (some ⟨w.heap.size, 0, none⟩) len len)) (w.alloc (.cells (vals m [.a k xs len]).toArray e (0, 0))) := by
      show (do let y ← Instr.buildSlice t len (ps.map fun x => (x.1, a.eval x.2)); pure (Next.value y) : Sem Next).run P w = _
      refine jX ?_
      have hps' : (ps.map fun x => (x.1, a.eval x.2)).toList = ps.toList.map (fun x => (x.1, a.eval x.2)) := by simp
      simp only [Array.toArray_toList, List.take_zero, List.nil_append] at hf
      have hne : ¬ len * 1 = 0 := by omega
      have hbig : ¬ len * 1 > 2 ^ 24 := by omega
      simp only [Instr.buildSlice, Sem.run_bind, underlying, run_program, Result.andThen_ok, hu, Sem.run_pure, hz', Sem.run_ite, if_neg hbig, if_neg hne, hzero, Nat.mul_one]
      rw [hps', hps, hv0]
      simp only [Nat.mul_one] at hf
      rw [hf]
      simp [newRow, show ¬ 16777216 < len by omega, show ¬ len = 0 by omega]
     unfold Oper.wp
     rw [hex]
     refine hn _ _ _ ?_ hm (Nat.le_succ _) (fun _ => below_alloc (Below.refl _ _) _)
     have e3 : (C.sl s.next 0 len len).v (fun g => if g = s.next then w.heap.size else m g) = .slice (some ⟨w.heap.size, 0, none⟩) len len := by simp [C.v]
     rw [e3] at hrel
     exact hrel
    ·cases h
   ·cases h
  ·cases h
 ·next f args argTypes =>
  split at h
  ·next c vs hc hv =>
   obtain ⟨⟨fn, f1, f2, f3⟩, hrun⟩ := hcl f c hc
   obtain ⟨hvo, ex⟩ := vE hr.env hv
   obtain ⟨v, hK, vo, hcalls⟩ := hrun _ _ _ _ _ _ _ hvo h
   refine ⟨_, hK, fun next Q hn => ?_⟩
   have hex : (execOp a.eval ⟨dst, .call { callee := .value (.func f), args := args, argTypes := argTypes }, ty, pos, after, guard⟩).run P w = .ok (.enter f (vs.map (PV.v m)).toArray) w := by
    have e2 : args.map a.eval = (vs.map (PV.v m)).toArray := by
     apply Array.ext'
     rw [Array.toList_map, ex]
    have f2' : ¬ fn.body = none := by intro hb; rw [hb] at f2; cases f2
    have f3' : ¬ fn.name = "runtime.NumGoroutine" := by intro hb; rw [hb] at f3; simp at f3
    simp [execOp, resolve, Act.eval, Deferred.ofValue, invoke, callFunc, f1, f3', f2', e2]
   unfold Oper.wp
   rw [hex]
   refine (hcalls m w ⟨_, fun g e ss hg => ⟨(hr.heap g e ss hg).2.1, (hr.heap g e ss hg).2.2.1⟩⟩).mono fun e w' he => ?_
   obtain ⟨rfl, hb⟩ := he
   exact hn _ _ _ ((hr.grow hb).put hd (SV.gG (Nat.zero_le _) vo)) (fun _ _ => rfl) (by cases dst <;> exact Nat.le_refl _) (fun _ => hb)
  ·cases h
 ·obtain ⟨v, h1, h2, h3⟩ := tQ (o := ⟨dst, op, ty, pos, after, guard⟩) hr.env h
  refine ⟨_, h1, fun next Q hn => ?_⟩
  unfold Oper.wp
  rw [h3 w]
  exact hn _ _ _ (hr.put hd h2) (fun _ _ => rfl) (by cases dst <;> exact Nat.le_refl _) (fun _ => Below.refl _ _)
end
section
variable {P : Program}
theorem getD_some {a : Array Value} {t : Nat} {v : Value} (h : a.getD t undef = v) (hv : v ≠ undef) : a[t]? = some v := by
 rw [Array.getD_eq_getD_getElem?] at h
 cases hq : a[t]? with
 |none => rw [hq] at h; exact absurd h.symm hv
 |some u => rw [hq] at h; exact congrArg some h
theorem jU {R : Type} {w0 : World} {nt : Nat} {ops : Array Oper} {o : Oper} {s : St} {yes no : St → Option R} {r : R} {m : Nat → Nat} {a : Act} {w : World} (hr : Rel w0 nt m s a w) (h : guarded ops o s yes no = some r) :
  ∃ s', Rel w0 nt m s' a w ∧ s'.next = s.next ∧ s'.heap = s.heap ∧ ((Region.wanted o (yielded ops a.tmps) = true ∧ yes s' = some r) ∨ (Region.wanted o (yielded ops a.tmps) = false ∧ no s' = some r)) := by
 unfold guarded at h
 split at h
 ·next hg => exact ⟨s, hr, rfl, rfl, .inl ⟨by simp [Region.wanted, hg], h⟩⟩
 ·next j want hg =>
  split at h
  ·cases h
  ·next t ht =>
   have hw : Region.wanted o (yielded ops a.tmps) = ((match a.tmps[t]? with
     |some (.bool b) => some b
     |_ => none) == some want) := by
    have ht' : (ops[j]?).bind (fun x => x.dst) = some t := ht
    simp only [Region.wanted, hg, yielded, ht', Option.bind_some]
    cases a.tmps[t]? with
    |none => rfl
    |some v => cases v <;> rfl
   split at h
   ·next hl =>
    obtain ⟨_, e⟩ := hr.env t _ hl
    refine ⟨s, hr, rfl, rfl, .inr ⟨?_, h⟩⟩
    rw [hw]
    have e' : a.tmps.getD t undef = undef := e
    rw [Array.getD_eq_getD_getElem?] at e'
    cases hq : a.tmps[t]? with
    |none => rfl
    |some u => rw [hq] at e'; have e2 : u = undef := e'; subst e2; rfl
   ·next e hl =>
    obtain ⟨_, eb⟩ := hr.env t _ hl
    have eb' : a.tmps.getD t undef = .bool e.d := eb
    have hq := getD_some eb' (by intro hh; cases hh)
    rw [hq] at hw
    have hw' : Region.wanted o (yielded ops a.tmps) = (e.d == want) := by rw [hw]; rfl
    rw [BE.aCn] at h
    have rel : ∀ b : BE, b.d = e.d → Rel w0 nt m ⟨(t, .pv (.one (.b b))) :: s.env, s.heap, s.next⟩ a w := fun b hb =>
     ⟨hr.size, hr.dfr, fun t' v hv => by
      rw [fQ] at hv
      by_cases c : t = t'
      ·subst c
       rw [if_pos rfl] at hv
       cases hv
       exact ⟨trivial, by rw [eb']; show Value.bool e.d = Value.bool b.d; rw [hb]⟩
      ·rw [if_neg c] at hv
       exact hr.env t' v hv, hr.heap, hr.inj, hr.bel⟩
    split at h
    ·next hd =>
     refine ⟨_, rel .tt hd.symm, rfl, rfl, ?_⟩
     rw [hw', hd]
     cases want
     ·exact .inr ⟨rfl, h⟩
     ·exact .inl ⟨rfl, h⟩
    ·next hd =>
     have hd' : e.d = false := by simpa using hd
     refine ⟨_, rel .ff hd'.symm, rfl, rfl, ?_⟩
     rw [hw', hd']
     cases want
     ·exact .inl ⟨rfl, h⟩
     ·exact .inr ⟨rfl, h⟩
   ·cases h
theorem lG {R : Type} {w0 : World} {nt : Nat} {o : Oper} {s : St} {K : St → Option R} {r : R} {m : Nat → Nat} {a : Act} {w : World} (hr : Rel w0 nt m s a w) (h : jS nt o s K = some r) :
  K (s.put o.dst .und) = some r ∧ Rel w0 nt m (s.put o.dst .und) (a.put o.dst undef) w := by
 unfold jS at h
 obtain ⟨hd, h1⟩ := gF h
 exact ⟨h1, hr.put (v := .und) hd trivial⟩
variable {cl : Cls} (hcl : bR P cl)
 include hcl
theorem zZ {R : Type} {w0 : World} {nt n : Nat} {ops : Array Oper} {r : R} {Q : Exit → Act → World → Prop} : ∀ {l : List Oper} {s : St} {K : St → Option R} {m : Nat → Nat} {a : Act} {w : World}, Rel w0 nt m s a w → uC P nt cl n ops l s K = some r →
  (∀ s' m' a' w', K s' = some r → Rel w0 nt m' s' a' w' → Q .normal a' w') → wpList P ops Q l a w := by
 intro l
 induction l with
 |nil =>
  intro s K m a w hr h hK
  exact hK _ _ _ _ h hr
 |cons o l ih =>
  intro s K m a w hr h hK
  unfold uC at h
  obtain ⟨s', hr', _, _, hc⟩ := jU hr h
  unfold wpList
  rcases hc with ⟨hw, hy⟩ | ⟨hw, hn⟩
  ·rw [if_pos hw]
   obtain ⟨s2, h2, h3⟩ := yP hcl hr' hy
   exact .inl (h3 _ Q fun m' a' w' hr2 _ _ _ => ih hr2 h2 hK)
  ·rw [if_neg (by rw [hw]; decide)]
   obtain ⟨h2, hr2⟩ := lG hr' hn
   exact ih hr2 h2 hK
omit hcl in
theorem nM {op : Op} (h : o9 op = true) : iV op = false := by
 cases op <;> first | rfl | cases h
set_option maxHeartbeats 1000000 in
theorem zL {R : Type} {w0 : World} {nt n : Nat} {ops : Array Oper} {r : R} {Q : Exit → Act → World → Prop} {B : List Nat} (hT : waitsOk (rtab .any ops).2 B = true) {heap0 : List (Nat × Nat × List S)} {next0 : Nat} {m0 : Nat → Nat}
  (ho0 : ∀ g e ss, look heap0 g = some (e, ss) → g < next0 ∧ oks next0 ss) (hQ : ∀ c a w, ¬ Q (.panic c) a w) :
  ∀ {f : Nat} {l : Array Bool} {s : St} {K : St → Option R} {m : Nat → Nat} {a : Act} {w : World}, Rel w0 nt m s a w → next0 ≤ s.next → (∀ g, g < next0 → m g = m0 g) →
  jN P nt cl n ops (rtab .any ops) B (dN ops) heap0 f l.toList s K = some r →
  ((∀ d ∈ dN ops, l.getD d true = false) → ∀ g e ss, look heap0 g = some (e, ss) → w.heap[m0 g]? = some (.cells (vals m0 ss).toArray e (0, 0))) →
  (∀ s' m' a' w', K s' = some r → Rel w0 nt m' s' a' w' → Q .normal a' w') →
  wpAnyLast P .any ops Q (fun w => ∀ g e ss, look heap0 g = some (e, ss) → w.heap[m0 g]? = some (.cells (vals m0 ss).toArray e (0, 0))) (dN ops) f l a w := by
 intro f
 induction f with
 |zero =>
  intro l s K m a w hr hn0 hm0 h hS hK
  unfold jN at h
  split at h
  ·next hrd => exact ⟨by rw [ready_eq]; exact hrd, hK _ _ _ _ h hr⟩
  ·cases h
 |succ f ih =>
  intro l s K m a w hr hn0 hm0 h hS hK
  unfold jN at h
  split at h
  ·next hrd => exact wpAnyLast_done (by rw [ready_eq]; exact hrd) (hK _ _ _ _ h hr) _
  ·next hne =>
   split at h
   ·next i hi =>
    have hi' := List.find?_some hi
    simp only [Bool.and_eq_true] at hi'
    obtain ⟨hp, ha⟩ := hi'
    split at h
    ·next o ho =>
     have hany : anyB .any ops l (l.setIfInBounds i true) i = true := any_of rfl (by simpa using ha)
     have hlist : (l.setIfInBounds i true).toList = l.toList.set i true := by simp
     obtain ⟨s', hr', hnx, _, hc⟩ := jU hr h
     have hstore : ∀ d ∈ dN ops, d ≠ i := by
      intro d hd hdi
      subst hdi
      unfold dN at hd
      have h5 := (List.mem_filter.1 hd).2
      rw [ho] at h5
      have h6 : o9 o.op = true := by unfold pE at hp; rw [ho] at hp; exact hp
      have h5' : iV o.op = true := h5
      rw [nM h6] at h5'
      cases h5'
     have hS' : ∀ (w : World), ((∀ d ∈ dN ops, l.getD d true = false) → ∀ g e ss, look heap0 g = some (e, ss) → w.heap[m0 g]? = some (.cells (vals m0 ss).toArray e (0, 0))) →
       (∀ d ∈ dN ops, (l.setIfInBounds i true).getD d true = false) → ∀ g e ss, look heap0 g = some (e, ss) → w.heap[m0 g]? = some (.cells (vals m0 ss).toArray e (0, 0)) := by
      intro w hw hd
      refine hw fun d hdm => ?_
      rw [← hd d hdm, getD_set_ne true (Ne.symm (hstore d hdm))]
     rcases hc with ⟨hw, hy⟩ | ⟨hw, hno⟩
     ·obtain ⟨hd, hy⟩ := gF hy
      obtain ⟨v, h1, h2, h3⟩ := tQ hr'.env hy
      refine pure_ (l.setIfInBounds i true) ho rfl hany (fun c a w hq => absurd hq (hQ c _ w)) (.inl ⟨hw, h3⟩) rfl ?_
      exact ih (hr'.put hd h2) (by cases o.dst <;> (show next0 ≤ s'.next; omega)) hm0 (by rw [hlist]; exact h1) (hS' w hS) hK
     ·obtain ⟨h2, hr2⟩ := lG hr' hno
      refine pure_ (l.setIfInBounds i true) ho rfl hany (fun c a w hq => absurd hq (hQ c _ w)) (.inr ⟨hw, rfl⟩) rfl ?_
      exact ih hr2 (by cases o.dst <;> (show next0 ≤ s'.next; omega)) hm0 (by rw [hlist]; exact h2) (hS' w hS) hK
    ·cases h
   ·next =>
    split at h
    ·next i hi =>
     have hi' := List.find?_some hi
     simp only [Bool.and_eq_true] at hi'
     obtain ⟨⟨hp, ha⟩, hds⟩ := hi'
     have hds' : ∀ d ∈ dN ops, l.getD d true = false := by
      intro d hd
      have := List.all_eq_true.1 hds d hd
      have e : l.toList.getD d true = l.getD d true := (gd l d true).symm
      rw [e] at this
      simpa using this
     have hSw := hS hds'
     split at h
     ·next o ho =>
      have htake : takeB .any ops (dN ops) l (l.setIfInBounds i true) i = true := take_ofW rfl hT (by simpa using ha)
      have hlist : (l.setIfInBounds i true).toList = l.toList.set i true := by simp
      obtain ⟨s', hr', hnx, _, hc⟩ := jU hr h
      rcases hc with ⟨hw, hy⟩ | ⟨hw, hno⟩
      ·obtain ⟨hd, hy⟩ := gF hy
       split at hy
       ·next t x hop =>
        split at hy
        ·next c hx =>
         split at hy
         ·next v hv =>
          obtain ⟨ok, ex⟩ := jB hr'.env hx
          have ex' : a.eval x = c.v m := ex
          have hval : ∀ w : World, (∀ g e ss, look heap0 g = some (e, ss) → w.heap[m0 g]? = some (.cells (vals m0 ss).toArray e (0, 0))) → v.ok s'.next ∧ (execOp a.eval o).run P w = .ok (.value (v.v m)) w := by
           intro w hw
           obtain ⟨q1, q2⟩ := pI (m := m) (w := w) (heap := heap0) ok (fun g e ss hg => by
            obtain ⟨b1, b2⟩ := ho0 g e ss hg
            refine ⟨jL (by rw [hnx]; exact hn0) b2, ?_⟩
            rw [hm0 g b1, iN hm0 b2]
            exact hw g e ss hg) hv
           refine ⟨q1, ?_⟩
           obtain ⟨dst, op, ty, pos, after, guard⟩ := o
           simp only at hop
           subst hop
           exact jX (by rw [ex']; exact q2)
          refine take_ (v := v.v m) (l.setIfInBounds i true) ho rfl htake (fun c a w hq => absurd hq (hQ c _ w)) (.inl ⟨hw, fun w hw => (hval w hw).2⟩) hSw rfl ?_
          refine ih (hr'.put (v := .pv v) hd (hval w hSw).1) (by cases o.dst <;> (show next0 ≤ s'.next; omega)) hm0 (by rw [hlist]; exact hy) (fun _ => hSw) hK
         ·cases hy
        ·cases hy
       ·cases hy
      ·obtain ⟨h2, hr2⟩ := lG hr' hno
       refine take_ (l.setIfInBounds i true) ho rfl htake (fun c a w hq => absurd hq (hQ c _ w)) (.inr ⟨hw, rfl⟩) hSw rfl ?_
       exact ih hr2 (by cases o.dst <;> (show next0 ≤ s'.next; omega)) hm0 (by rw [hlist]; exact h2) (fun _ => hSw) hK
     ·cases h
    ·split at h
     ·next i hrd =>
      split at h
      ·next o ho =>
       have hlist : (l.setIfInBounds i true).toList = l.toList.set i true := by simp
       have hready : Region.ready .any ops l = [i] := by rw [ready_eq]; exact hrd
       have hun : l.getD i true = false := (mem_ready.1 (by rw [hready]; exact List.mem_cons_self ..)).1
       refine wpAnyLast_all hready (by simp) fun j hj => ?_
       obtain rfl : j = i := by simpa using hj
       have hmem : j ∈ dN ops ↔ iV o.op = true := by
        unfold dN
        rw [List.mem_filter, List.mem_range, ho]
        exact ⟨fun hh => hh.2, fun hh => ⟨(Array.getElem?_eq_some_iff.1 ho).1, hh⟩⟩
       have hSn : ∀ w' : World, (j ∉ dN ops → Below w.heap.size w w') → (∀ d ∈ dN ops, (l.setIfInBounds j true).getD d true = false) → ∀ g e ss, look heap0 g = some (e, ss) → w'.heap[m0 g]? = some (.cells (vals m0 ss).toArray e (0, 0)) := by
        intro w' hb hd g e ss hg
        have hnot : j ∉ dN ops := fun hh => by
         have := hd j hh
         have hlt : j < l.size := by
          rcases Nat.lt_or_ge j l.size with h' | h'
          ·exact h'
          ·rw [Array.getD_eq_getD_getElem?, Array.getElem?_eq_none h'] at hun; cases hun
         simp [hlt] at this
        have h0 := hS (fun d hdm => by
         have hne : j ≠ d := fun hh => hnot (by rw [hh]; exact hdm)
         rw [← hd d hdm, getD_set_ne true hne]) g e ss hg
        exact (hb hnot).block _ (blk_lt h0) |>.trans h0
       obtain ⟨s', hr', hnx, _, hc⟩ := jU hr h
       unfold wpOp
       rw [ho]
       show if Region.wanted o (yielded ops a.tmps) = true then _ else _
       rcases hc with ⟨hw, hy⟩ | ⟨hw, hno⟩
       ·rw [if_pos hw]
        obtain ⟨s2, h2, h3⟩ := yP hcl hr' hy
        refine .inl (h3 _ Q fun m' a' w' hr2 hmm hnn hb => ?_)
        have hb' : j ∉ dN ops → Below w.heap.size w w' := fun hh => hb (by
         cases hst : iV o.op
         ·rfl
         ·exact absurd (hmem.2 hst) hh)
        exact ⟨fun hnot hSw g e ss hg => ((hb' hnot).block _ (blk_lt (hSw g e ss hg))).trans (hSw g e ss hg), ih hr2 (by omega) (fun g hg => (hmm g (by omega)).trans (hm0 g hg)) (by rw [hlist]; exact h2) (hSn w' hb') hK⟩
       ·rw [if_neg (by rw [hw]; decide)]
        obtain ⟨h2, hr2⟩ := lG hr' hno
        exact ⟨fun _ hSw => hSw, ih hr2 (by cases o.dst <;> (show next0 ≤ s'.next; omega)) hm0 (by rw [hlist]; exact h2) (hSn w (fun _ => Below.refl _ _)) hK⟩
      ·cases h
     ·cases h
theorem aAg {R : Type} {w0 : World} {nt n id : Nat} {ops : Array Oper} {draw : Bool} {s : St} {K : St → Option R} {r : R} {m : Nat → Nat} {a : Act} {w : World} {Q : Exit → Act → World → Prop} (hr : Rel w0 nt m s a w) (hQ : ∀ c a w, ¬ Q (.panic c) a w)
  (h : z8 P nt cl n ops draw s K = some r) (hK : ∀ s' m' a' w', K s' = some r → Rel w0 nt m' s' a' w' → Q .normal a' w') : (Code.region id ops draw).wp P Q a w := by
 unfold z8 at h
 cases draw with
 |false => exact wp_region_list (zZ hcl hr h hK)
 |true =>
  obtain ⟨h1, h2⟩ := gF h
  rw [Bool.and_eq_true] at h1
  have hw : Below w.heap.size w w.drew := below_drew (Below.refl _ _)
  refine wp_region_last (S := fun w => ∀ g e ss, look s.heap g = some (e, ss) → w.heap[m g]? = some (.cells (vals m ss).toArray e (0, 0))) (ds := dN ops) h1.1 ?_
  refine zL hcl h1.2 (next0 := s.next) (fun g e ss hg => ⟨(hr.heap g e ss hg).1, (hr.heap g e ss hg).2.1⟩) hQ (hr.grow hw) (Nat.le_refl _) (fun _ _ => rfl) (by rw [Array.toList_replicate]; exact h2) (fun _ g e ss hg => (hr.heap g e ss hg).2.2.1) hK
end
section
variable (m : Nat → Nat)
theorem C.wR (c : C) : c.gen.v m = c.v m := by cases c <;> rfl
theorem S.wR (s : S) : s.gen.v m = s.v m := by
 cases s with
 |c u => show [u.gen.v m] = [u.v m]; rw [C.wR]
 |a => rfl
theorem aAO (ss : List S) : vals m (ss.map S.gen) = vals m ss := by
 induction ss with
 |nil => rfl
 |cons s r ih => show s.gen.v m ++ vals m (r.map S.gen) = _; rw [S.wR, ih]; rfl
theorem PV.wR (v : PV) : v.gen.v m = v.v m := by
 cases v with
 |one c => exact C.wR m c
 |agg ss => show Value.agg _ = Value.agg _; rw [aAO]
theorem SV.wR (v : SV) : v.gen.v m = v.v m := by
 cases v with
 |pv u => exact PV.wR m u
 |tup vs =>
  show Value.tuple _ = Value.tuple _
  rw [List.map_map]
  congr 2
  exact List.map_congr_left fun u _ => PV.wR m u
 |und => rfl
end
section
variable {N : Nat}
theorem C.qR {c : C} (h : c.ok N) : c.gen.ok N := by cases c <;> exact h
theorem S.qR {s : S} (h : s.ok N) : s.gen.ok N := by
 cases s with
 |c u => exact C.qR h
 |a => exact h
theorem aBW {ss : List S} (h : oks N ss) : oks N (ss.map S.gen) := by
 induction ss with
 |nil => trivial
 |cons s r ih => exact ⟨S.qR h.1, ih h.2⟩
theorem PV.qR {v : PV} (h : v.ok N) : v.gen.ok N := by
 cases v with
 |one c => exact C.qR h
 |agg ss => exact aBW h
theorem SV.qR {v : SV} (h : v.ok N) : v.gen.ok N := by
 cases v with
 |pv u => exact PV.qR h
 |tup vs =>
  intro u hu
  obtain ⟨x, hx, rfl⟩ := List.mem_map.1 hu
  exact PV.qR (h x hx)
 |und => trivial
end
theorem zI {env : List (Nat × SV)} {mk : Nat} : ∀ {n t : Nat} {v : SV}, look (vR env mk n) t = some v → ∃ u, look env t = some u ∧ v = u.gen := by
 intro n
 induction n with
 |zero => intro t v h; cases h
 |succ n ih =>
  intro t v h
  unfold vR at h
  cases hb : Nat.beq (Nat.land (Nat.shiftRight mk n) 1) 1
  ·rw [hb] at h; exact ih h
  ·rw [hb] at h
   simp only [cnd] at h
   split at h
   ·next u hu =>
    rw [fQ] at h
    by_cases c : n = t
    ·rw [if_pos c] at h; cases h; subst c; exact ⟨u, hu, rfl⟩
    ·rw [if_neg c] at h; exact ih h
   ·exact ih h
theorem aAo {mk : Nat} {heap : List (Nat × Nat × List S)} : ∀ {g e : Nat} {ss : List S}, look (rU mk heap) g = some (e, ss) → ∃ q, look heap g = some (e, q) ∧ ss = q.map S.gen := by
 induction heap with
 |nil => intro g e ss h; cases h
 |cons p r ih =>
  obtain ⟨k, t, q⟩ := p
  intro g e ss h
  have keep : ∀ {g e ss}, k ≠ g → look (rU mk r) g = some (e, ss) → ∃ q', look ((k, t, q) :: r) g = some (e, q') ∧ ss = q'.map S.gen := by
   intro g e ss hk h
   obtain ⟨q', h1, h2⟩ := ih h
   exact ⟨q', by rw [fQ, if_neg hk]; exact h1, h2⟩
  unfold rU at h
  cases hb : Nat.beq (Nat.land (Nat.shiftRight mk k) 1) 1
  ·rw [hb] at h
   simp only [cnd] at h
   by_cases c : k = g
   ·exfalso
    subst c
    have : ∀ (l : List (Nat × Nat × List S)), look (rU mk l) k = none := by
     intro l
     induction l with
     |nil => rfl
     |cons p l ihl =>
      obtain ⟨k', t', q'⟩ := p
      unfold rU
      cases hb' : Nat.beq (Nat.land (Nat.shiftRight mk k') 1) 1
      ·exact ihl
      ·simp only [cnd]
       rw [fQ, if_neg (fun hh => by rw [hh, hb] at hb'; cases hb')]
       exact ihl
    rw [this] at h; cases h
   ·exact keep c h
  ·rw [hb] at h
   simp only [cnd] at h
   rw [fQ] at h
   by_cases c : k = g
   ·rw [if_pos c] at h
    cases h
    exact ⟨q, by rw [fQ, if_pos c], rfl⟩
   ·rw [if_neg c] at h; exact keep c h
theorem uE (a b : Nat) : a ≤ aCL a b := by
 unfold aCL
 cases h : Nat.ble a b
 ·exact Nat.le_refl _
 ·exact Nat.le_of_ble_eq_true h
theorem rX (a b : Nat) : b ≤ aCL a b := by
 unfold aCL
 cases h : Nat.ble a b
 ·have : ¬ a ≤ b := fun hh => by rw [Nat.ble_eq_true_of_le hh] at h; cases h
  show b ≤ a; omega
 ·exact Nat.le_refl _
section
variable {N : Nat}
theorem C.uB {c : C} (h : c.ok N) : c.ok c.top := by
 cases c with
 |pd g o j n => exact ⟨Nat.lt_succ_self _, h.2⟩
 |p g o => exact Nat.lt_succ_self _
 |sl g o n c => exact Nat.lt_succ_self _
 |_ => trivial
theorem aDk {ss : List S} (h : oks N ss) : oks (tops ss) ss := by
 induction ss with
 |nil => trivial
 |cons s r ih =>
  cases s with
  |c u => exact ⟨C.gG (uE _ _) (C.uB h.1), jL (rX _ _) (ih h.2)⟩
  |a k xs n => exact ⟨h.1, ih h.2⟩
theorem PV.uB {v : PV} (h : v.ok N) : v.ok (tops v.segs) := by
 cases v with
 |one c => exact C.gG (uE _ _) (C.uB h)
 |agg ss => exact aDk h
theorem SV.uB {v : SV} (h : v.ok N) : v.ok v.top := by
 cases v with
 |pv u => exact PV.uB h
 |tup vs =>
  show ∀ v ∈ vs, v.ok (topsV vs)
  have h' : ∀ v ∈ vs, v.ok N := h
  clear h
  induction vs with
  |nil => intro v hv; cases hv
  |cons u r ih =>
   intro v hv
   rcases List.mem_cons.1 hv with rfl | hv
   ·exact PV.gG (uE _ _) (PV.uB (h' v (List.mem_cons_self ..)))
   ·exact PV.gG (rX _ _) (ih (fun w hw => h' w (List.mem_cons_of_mem _ hw)) v hv)
 |und => trivial
end
theorem topE_le {env : List (Nat × SV)} {t : Nat} {v : SV} (h : look env t = some v) : v.top ≤ topE env := by
 induction env with
 |nil => cases h
 |cons p r ih =>
  obtain ⟨k, u⟩ := p
  rw [fQ] at h
  by_cases c : k = t
  ·rw [if_pos c] at h; cases h; exact uE _ _
  ·rw [if_neg c] at h; exact Nat.le_trans (ih h) (rX _ _)
theorem topH_le {heap : List (Nat × Nat × List S)} {g e : Nat} {ss : List S} (h : look heap g = some (e, ss)) : g < topH heap ∧ tops ss ≤ topH heap := by
 induction heap with
 |nil => cases h
 |cons p r ih =>
  obtain ⟨k, t, q⟩ := p
  rw [fQ] at h
  by_cases c : k = g
  ·rw [if_pos c] at h
   cases h
   subst c
   exact ⟨uE _ _, Nat.le_trans (uE _ _) (rX _ _)⟩
  ·rw [if_neg c] at h
   obtain ⟨h1, h2⟩ := ih h
   have := Nat.le_trans (rX (tops q) (topH r)) (rX (k + 1) (aCL (tops q) (topH r)))
   exact ⟨Nat.lt_of_lt_of_le h1 this, Nat.le_trans h2 this⟩
theorem yT {w0 : World} {nt mk : Nat} {m : Nat → Nat} {s : St} {a : Act} {w : World} (h : Rel w0 nt m s a w) : Rel w0 nt m (clean nt mk s) a w := by
 have k : ∀ {g e ss}, look (clean nt mk s).heap g = some (e, ss) → ∃ q, look s.heap g = some (e, q) ∧ ss = q.map S.gen := fun h => aAo h
 refine ⟨h.size, h.dfr, ?_, ?_, ?_, h.bel⟩
 ·intro t v hv
  obtain ⟨u, hu, rfl⟩ := zI hv
  obtain ⟨o, e⟩ := h.env t u hu
  refine ⟨SV.gG (Nat.le_trans (topE_le hv) (uE _ _)) (SV.uB (SV.qR o)), by rw [SV.wR]; exact e⟩
 ·intro g e ss hg
  obtain ⟨q, h1, rfl⟩ := k hg
  obtain ⟨a1, a2, a3, a4⟩ := h.heap g e q h1
  obtain ⟨c1, c2⟩ := topH_le hg
  exact ⟨Nat.lt_of_lt_of_le c1 (rX _ _), jL (Nat.le_trans c2 (rX _ _)) (aDk (aBW a2)), by rw [aAO]; exact a3, a4⟩
 ·intro g g' h1 h2 h3
  have k' : ∀ g, (look (clean nt mk s).heap g).isSome = true → (look s.heap g).isSome = true := fun g hg => by
   obtain ⟨⟨e, ss⟩, he⟩ := Option.isSome_iff_exists.mp hg
   obtain ⟨q, h1, _⟩ := k he
   rw [h1]; rfl
  exact h.inj g g' (k' g h1) (k' g' h2) h3
def Out.exit : Out → Exit
 |.nor => .normal
 |.ret => .ret
 |.ex id => .exit id
section
variable {P : Program} {cl : Cls} (hcl : bR P cl) {R : Type} {w0 : World} {nt rm : Nat} {cuts : List Nat} {r : R}
def Does (P : Program) (w0 : World) (nt : Nat) (r : R) (c : Code) (f : St → (Out → St → Option R) → Option R) : Prop :=
 ∀ (s : St) (K : Out → St → Option R) (m : Nat → Nat) (a : Act) (w : World) (Q : Exit → Act → World → Prop), Rel w0 nt m s a w → (∀ c a w, ¬ Q (.panic c) a w) → f s K = some r →
  (∀ o s' m' a' w', K o s' = some r → Rel w0 nt m' s' a' w' → Q o.exit a' w') → c.wp P Q a w
theorem aBG {c : Code} {f : Nat → St → (Out → St → Option R) → Option R} {mk : Nat} (hf : ∀ n, Does P w0 nt r c (f n)) : ∀ (n : Nat) (s : St) (K : Out → St → Option R) (m : Nat → Nat) (a : Act) (w : World) (Q : Exit → Act → World → Prop), Rel w0 nt m s a w →
  (∀ c a w, ¬ Q (.panic c) a w) → vJ nt f mk n s K = some r → (∀ o s' m' a' w', K o s' = some r → Rel w0 nt m' s' a' w' → Q o.exit a' w') → Code.rounds P c Q n a w := by
 intro n
 induction n with
 |zero => intro s K m a w Q _ _ h _; cases h
 |succ n ih =>
  intro s K m a w Q hr hQ h hK
  unfold vJ at h
  refine hf n s _ m a w _ hr (fun c a w => hQ c a w) h fun o s' m' a' w' ho hr' => ?_
  cases o with
  |nor => exact ih _ _ m' a' w' Q (yT hr') hQ ho hK
  |ret => exact hK .ret _ _ _ _ ho hr'
  |ex id => exact hK (.ex id) _ _ _ _ ho hr'
include hcl in
theorem evC_v : ∀ (c : Code) (lv : Nat) (ex : List (Nat × Nat)) (n : Nat), Does P w0 nt r c (evC P nt cl rm cuts c lv ex n) := by
 intro c
 induction c with
 |skip => intro lv ex n s K m a w Q hr _ h hK; exact wp_skip (hK .nor _ _ _ _ h hr)
 |region id ops draw => intro lv ex n s K m a w Q hr hQ h hK; exact aAg hcl hr hQ h (fun s' m' a' w' h' hr' => hK .nor _ _ _ _ h' hr')
 |seq x y ihx ihy =>
  intro lv ex n s K m a w Q hr hQ h hK
  refine wp_seq (ihx _ _ _ s _ m a w _ hr (fun c a w => hQ c a w) h fun o s' m' a' w' ho hr' => ?_)
  cases o with
  |nor =>
   have ho : (cnd (cutAt cuts y) (evJ (fun s => evC P nt cl rm cuts y lv ex n s K) (clean nt (lvC rm y lv ex) s')) <| evC P nt cl rm cuts y lv ex n s' K) = some r := ho
   show y.wp P Q a' w'
   rcases sG ho with ⟨_, h1⟩ | ⟨_, h1⟩
   ·exact ihy _ _ _ _ K m' a' w' Q (yT hr') hQ h1 hK
   ·exact ihy _ _ _ _ K m' a' w' Q hr' hQ h1 hK
  |ret => exact hK .ret _ _ _ _ ho hr'
  |ex id => exact hK (.ex id) _ _ _ _ ho hr'
 |cond x y z ihy ihz =>
  intro lv ex n s K m a w Q hr hQ h hK
  unfold evC at h
  split at h
  ·next e he =>
   obtain ⟨_, eb⟩ := jB hr.env he
   have eb' : a.eval x = .bool e.d := eb
   rw [BE.aCn] at h
   refine wp_cond_split eb' (fun hd => ?_) (fun hd => ?_)
   ·rw [if_pos hd] at h; exact ihy _ _ _ _ K m a w Q hr hQ h hK
   ·rw [if_neg (by rw [hd]; decide)] at h; exact ihz _ _ _ _ K m a w Q hr hQ h hK
  ·cases h
 |block id x ih =>
  intro lv ex n s K m a w Q hr hQ h hK
  refine wp_block (ih _ _ _ s _ m a w _ hr (fun c a w => hQ c a w) h fun o s' m' a' w' ho hr' => ?_)
  cases o with
  |nor => exact hK .nor _ _ _ _ ho hr'
  |ret => exact hK .ret _ _ _ _ ho hr'
  |ex j =>
   show if j = id then Q .normal a' w' else Q (.exit j) a' w'
   have ho : (cnd (Nat.beq j id) (K .nor s') <| K (.ex j) s') = some r := ho
   rcases sG ho with ⟨h0, h1⟩ | ⟨h0, h1⟩
   ·rw [if_pos (Nat.eq_of_beq_eq_true h0)]; exact hK .nor _ _ _ _ h1 hr'
   ·rw [if_neg (Nat.ne_of_beq_eq_false h0)]; exact hK (.ex j) _ _ _ _ h1 hr'
 |loop x ih =>
  intro lv ex n s K m a w Q hr hQ h hK
  exact wp_loop_rounds n (aBG (fun n => ih _ _ n) n _ K m a w Q (yT hr) hQ h hK)
 |exit id => intro lv ex n s K m a w Q hr _ h hK; exact wp_exit (hK (.ex id) _ _ _ _ h hr)
 |ret => intro lv ex n s K m a w Q hr _ h hK; exact wp_ret (hK .ret _ _ _ _ h hr)
 |_ => intro lv ex n s K m a w Q hr _ h hK; cases h
def oL (tmps : Array Value) : ResultVar → Sem Value
 |.tmp t => pure (tmps.getD t undef)
 |.cell b t => do loadVar t (← asAddr (tmps.getD b undef))
theorem rD (fn : Func) (tmps : Array Value) : results fn tmps = (do
  let vs ← fn.results.mapM (oL tmps)
  pure (if h : vs.size = 1 then vs[0] else .tuple vs)) := by
 unfold results
 have : (fun x => match x with
   |ResultVar.tmp t => pure (tmps.getD t undef)
   |ResultVar.cell a t => do loadVar t (← asAddr (tmps.getD a undef))) = oL tmps := by funext x; cases x <;> rfl
 exact congrArg (fun f => (do
  let vs ← fn.results.mapM f
  pure (if h : vs.size = 1 then vs[0] else .tuple vs) : Sem Value)) this
theorem zR {m : Nat → Nat} {s : St} {a : Act} {w : World} (hr : Rel w0 nt m s a w) {x : ResultVar} {v : PV} (h : aDo P s x = some v) :
  v.ok s.next ∧ (oL a.tmps x).run P w = .ok (v.v m) w := by
 cases x with
 |tmp t =>
  have h : (match look s.env t with
   |some (.pv v) => some v
   |_ => none) = some v := h
  split at h
  ·next u hu =>
   cases h
   obtain ⟨o, e⟩ := hr.env t _ hu
   exact ⟨o, by show (pure (a.tmps.getD t undef) : Sem Value).run P w = _; rw [Sem.run_pure, e]; rfl⟩
  ·cases h
 |cell b t =>
  have h : (match look s.env b with
   |some (.pv (.one c)) => sF P t s.heap c
   |_ => none) = some v := h
  split at h
  ·next c hc =>
   obtain ⟨o, e⟩ := hr.env b _ hc
   obtain ⟨o1, e1⟩ := pI (w := w) o (fun g e ss hg => ⟨(hr.heap g e ss hg).2.1, (hr.heap g e ss hg).2.2.1⟩) h
   refine ⟨o1, ?_⟩
   have e' : a.tmps.getD b undef = c.v m := e
   have hp : ∃ ad, c.v m = .pointer (some ad) := by
    cases c with
    |p g o => exact ⟨_, rfl⟩
    |pd g o j n => exact ⟨_, rfl⟩
    |_ => cases h
   obtain ⟨ad, had⟩ := hp
   rw [had] at e1 e'
   have e1 : (loadVar t ad).run P w = .ok (v.v m) w := e1
   show (do loadVar t (← asAddr (a.tmps.getD b undef)) : Sem Value).run P w = _
   rw [e']
   exact e1
  ·cases h
theorem wM {m : Nat → Nat} {s : St} {a : Act} {w : World} (hr : Rel w0 nt m s a w) {xs : List ResultVar} : ∀ {vs : List PV}, oK P s xs = some vs → (∀ v ∈ vs, v.ok s.next) ∧ (xs.mapM (oL a.tmps)).run P w = .ok (vs.map (PV.v m)) w := by
 induction xs with
 |nil => intro vs h; cases h; exact ⟨by simp, by simp⟩
 |cons x r ih =>
  intro vs h
  unfold oK at h
  split at h
  ·next v ws h1 h2 =>
   cases h
   obtain ⟨o, e⟩ := zR hr h1
   obtain ⟨o', e'⟩ := ih h2
   refine ⟨fun u hu => ?_, ?_⟩
   ·rcases List.mem_cons.1 hu with rfl | hu
    ·exact o
    ·exact o' u hu
   ·rw [List.mapM_cons, Sem.run_bind, e]
    simp only [Result.andThen_ok, Sem.run_bind, e', Sem.run_pure, List.map_cons]
  ·cases h
theorem aAd {m : Nat → Nat} {s : St} {a : Act} {w : World} (hr : Rel w0 nt m s a w) {fn : Func} {v : SV} (h : tO P fn s = some v) : v.ok s.next ∧ (results fn a.tmps).run P w = .ok (v.v m) w := by
 unfold tO at h
 have hrun : ∀ vs, oK P s fn.results.toList = some vs → (∀ v ∈ vs, v.ok s.next) ∧ (results fn a.tmps).run P w = .ok (if h : (vs.map (PV.v m)).toArray.size = 1 then (vs.map (PV.v m)).toArray[0] else .tuple (vs.map (PV.v m)).toArray) w := by
  intro vs hvs
  obtain ⟨o, e⟩ := wM hr hvs
  refine ⟨o, ?_⟩
  have e2 : (fn.results.mapM (oL a.tmps)).run P w = .ok (vs.map (PV.v m)).toArray w := by
   rw [Array.mapM_eq_mapM_toList]
   simp [e]
  rw [rD, Sem.run_bind, e2]
  rfl
 split at h
 ·next u hu =>
  cases h
  obtain ⟨o, e⟩ := hrun _ hu
  exact ⟨o u (List.mem_cons_self ..), by rw [e]; rfl⟩
 ·next vs hne hu =>
  cases h
  obtain ⟨o, e⟩ := hrun _ hu
  refine ⟨o, ?_⟩
  rw [e, dif_neg]
  ·rfl
  ·intro hl
   match vs, hl, hne with
   |[u], _, hne => exact hne u rfl
 ·cases h
theorem aCP {vs : List PV} : ∀ {i t : Nat} {v : SV}, look (argE vs i) t = some v → ∃ u, i ≤ t ∧ vs[t - i]? = some u ∧ v = .pv u := by
 induction vs with
 |nil => intro i t v h; cases h
 |cons u r ih =>
  intro i t v h
  unfold argE at h
  rw [fQ] at h
  by_cases c : i = t
  ·rw [if_pos c] at h; cases h; subst c; exact ⟨u, Nat.le_refl _, by simp, rfl⟩
  ·rw [if_neg c] at h
   obtain ⟨x, h1, h2, h3⟩ := ih h
   refine ⟨x, by omega, ?_, h3⟩
   rw [show t - i = (t - (i + 1)) + 1 by omega, List.getElem?_cons_succ]; exact h2
include hcl in
theorem evF_v {f n : Nat} {fn : Func} {vs : List PV} {K : SV → Option R} (hf : P.funcs[f]? = some fn) (ho : ∀ v ∈ vs, v.ok 0) (h : evF P cl fn cuts n vs K = some r) :
  ∀ (m : Nat → Nat) (w : World), Calls P f (vs.map (PV.v m)).toArray w fun e w' => ∃ v m', K v = some r ∧ e = .returned (v.v m') ∧ (∃ N, v.ok N) ∧ Below w.heap.size w w' := by
 intro m w
 unfold evF at h
 split at h
 ·next c hb =>
  obtain ⟨h0, h1⟩ := gF h
  rw [Bool.and_eq_true] at h0
  have h2 := Nat.eq_of_beq_eq_true h0.1
  have h3 := Nat.le_of_ble_eq_true h0.2
  have hrel : Rel w fn.ntmps m ⟨argE vs 0, [], 0⟩ { tmps := (vs.map (PV.v m)).toArray ++ Array.replicate (fn.ntmps - (vs.map (PV.v m)).toArray.size) undef, defers := [] } w := by
   refine ⟨by simp; omega, rfl, ?_, (fun g e ss hg => nomatch hg), (fun g g' hg => nomatch hg), Below.refl _ _⟩
   intro t v hv
   obtain ⟨u, _, hu, rfl⟩ := aCP hv
   rw [Nat.sub_zero] at hu
   refine ⟨ho u (List.mem_of_getElem? hu), ?_⟩
   have hlt : t < vs.length := (List.getElem?_eq_some_iff.1 hu).1
   rw [Array.getD_eq_getD_getElem?, Array.getElem?_append_left (by simpa using hlt)]
   simp [hu]
   rfl
  refine calls_of_wp hf hb ?_
  refine wp_mono (Q := fun e a' w' => (∃ v m', K v = some r ∧ (∃ N, v.ok N) ∧ a'.defers = [] ∧ (results fn a'.tmps).run P w' = .ok (v.v m') w' ∧ Below w.heap.size w w') ∧ (e = .normal ∨ e = .ret)) (evC_v hcl c _ _ n _ _ m _ w _ hrel ?_ h1 ?_) ?_
  ·rintro c a w ⟨_, h | h⟩ <;> cases h
  ·intro o s' m' a' w' hk hr'
   have fin : (match tO P fn s' with
     |some v => K v
     |none => none) = some r → ∃ v m', K v = some r ∧ (∃ N, v.ok N) ∧ a'.defers = [] ∧ (results fn a'.tmps).run P w' = .ok (v.v m') w' ∧ Below w.heap.size w w' := by
    intro hk
    split at hk
    ·next v hv =>
     obtain ⟨o1, e1⟩ := aAd hr' hv
     exact ⟨v, m', hk, ⟨_, o1⟩, hr'.dfr, e1, hr'.bel⟩
    ·cases hk
   cases o with
   |nor => exact ⟨fin hk, .inl rfl⟩
   |ret => exact ⟨fin hk, .inr rfl⟩
   |ex id => cases hk
  ·rintro e a' w' ⟨⟨v, m', g1, g2, g3, g4, g5⟩, he⟩
   rcases he with rfl | rfl
   ·exact ⟨g3, _, g4, v, m', g1, rfl, g2, g5⟩
   ·exact ⟨g3, _, g4, v, m', g1, rfl, g2, g5⟩
 ·cases h
end
inductive Lf where
 |i (k : IntKind)
 |b
 |a (k : IntKind) (n : Nat)
def Lf.T : Lf → Type
 |.i _ => Int
 |.b => Bool
 |.a _ _ => List Int
def Tq : List Lf → Type
 |[] => Unit
 |l :: r => l.T × Tq r
def vS : (l : Lf) → l.T → S
 |.i k, x => .c (.i k (.x x))
 |.b, x => .c (.b (.q x))
 |.a k n, xs => .a k xs n
def vV : (ls : List Lf) → Tq ls → List S
 |[], _ => []
 |l :: r, x => vS l x.1 :: vV r x.2
def takeLf : (l : Lf) → List S → Option (l.T × List S)
 |.i k, .c (.i k' x) :: r => cnd (decide (k' = k)) (some (x.d, r)) <| none
 |.b, .c (.b x) :: r => some (x.d, r)
 |.a k n, .a k' xs n' :: r => cnd (decide (k' = k) && Nat.beq n' n) (some (xs, r)) <| none
 |.a k n, ss => match pW ss n with
  |some (q, r) => match wN k q with
   |some xs => some (xs, r)
   |none => none
  |none => none
 |_, _ => none
def xX : (ls : List Lf) → List S → Option (Tq ls)
 |[], [] => some ()
 |[], _ :: _ => none
 |l :: r, ss => match takeLf l ss with
  |some (x, q) => match xX r q with
   |some y => some (x, y)
   |none => none
  |none => none
inductive Sh where
 |one (l : Lf)
 |agg (ls : List Lf)
def Sh.lfs : Sh → List Lf
 |.one l => [l]
 |.agg ls => ls
def aCb (h : Sh) (v : PV) : Option (Tq h.lfs) := match h, v with
 |.one l, .one c => xX [l] [.c c]
 |.agg ls, .agg ss => xX ls ss
 |_, _ => none
def vP : (h : Sh) → Tq h.lfs → PV
 |.one l, x => match vS l x.1 with
  |.c c => .one c
  |s => .agg [s]
 |.agg ls, x => .agg (vV ls x)
def Ts : List Sh → Type
 |[] => Unit
 |h :: r => Tq h.lfs × Ts r
def takes : (hs : List Sh) → List PV → Option (Ts hs)
 |[], [] => some ()
 |[], _ :: _ => none
 |_ :: _, [] => none
 |h :: r, v :: q => match aCb h v, takes r q with
  |some x, some y => some (x, y)
  |_, _ => none
def gives : (hs : List Sh) → Ts hs → List PV
 |[], _ => []
 |h :: r, x => vP h x.1 :: gives r x.2
def Sh.plain : Sh → Bool
 |.one (.a _ _) => false
 |_ => true
def iL (hs : List Sh) : SV → Option (Ts hs)
 |.pv v => takes hs [v]
 |.tup vs => cnd (Nat.beq vs.length 1) (none) <| takes hs vs
 |.und => none
def mI (hs : List Sh) (x : Ts hs) : SV := match gives hs x with
 |[v] => .pv v
 |vs => .tup vs
theorem takeLf_v (m : Nat → Nat) {N : Nat} {l : Lf} {ss r : List S} {x : l.T} (ho : oks N ss) (h : takeLf l ss = some (x, r)) : oks N r ∧ (vS l x).ok 0 ∧ vals m ss = (vS l x).v m ++ vals m r := by
 cases l with
 |i k =>
  match ss, h with
  |.c (.i k' y) :: q, h =>
   obtain ⟨h1, h2⟩ := gF h
   cases h2
   obtain rfl := of_decide_eq_true h1
   exact ⟨ho.2, trivial, rfl⟩
 |b =>
  match ss, h with
  |.c (.b y) :: q, h => cases h; exact ⟨ho.2, trivial, rfl⟩
 |a k n =>
  have gen : (match pW ss n with
    |some (q, r) => match wN k q with
     |some xs => some (xs, r)
     |none => none
    |none => none) = some (x, r) → oks N r ∧ (vS (.a k n) x).ok 0 ∧ vals m ss = (vS (.a k n) x).v m ++ vals m r := by
   intro h
   split at h
   ·next q r' hs =>
    split at h
    ·next xs hi =>
     cases h
     obtain ⟨e, hl⟩ := qI hs
     subst e
     rw [kJ] at ho
     have hv := uQ m hi
     have hlen := dK m q ho.1
     refine ⟨ho.2, ?_, ?_⟩
     ·have h1 : (vals m q).length = (show List Int from x).length := by rw [hv]; exact List.length_map ..
      show (show List Int from x).length = n
      omega
     ·rw [fF, hv]; rfl
    ·cases h
   ·cases h
  match ss, h with
  |.a k' xs n' :: q, h =>
   obtain ⟨h1, h2⟩ := gF h
   cases h2
   rw [Bool.and_eq_true] at h1
   obtain rfl := of_decide_eq_true h1.1
   obtain rfl := Nat.eq_of_beq_eq_true h1.2
   exact ⟨ho.2, ho.1, rfl⟩
  |[], h => exact gen h
  |.c u :: q, h => exact gen h
theorem aAI (m : Nat → Nat) {N : Nat} : ∀ {ls : List Lf} {ss : List S} {x : Tq ls}, oks N ss → xX ls ss = some x → oks 0 (vV ls x) ∧ vals m ss = vals m (vV ls x) := by
 intro ls
 induction ls with
 |nil =>
  intro ss x _ h
  cases ss with
  |nil => exact ⟨trivial, rfl⟩
  |cons s r => cases h
 |cons l ls ih =>
  intro ss x ho h
  unfold xX at h
  split at h
  ·next y q hy =>
   split at h
   ·next z hz =>
    cases h
    obtain ⟨o1, o2, e⟩ := takeLf_v m ho hy
    obtain ⟨o3, e2⟩ := ih o1 hz
    exact ⟨⟨o2, o3⟩, by rw [e, e2]; rfl⟩
   ·cases h
  ·cases h
theorem wK (m : Nat → Nat) {N : Nat} {h : Sh} {v : PV} {x : Tq h.lfs} (hp : h.plain = true) (ho : v.ok N) (ht : aCb h v = some x) : (vP h x).ok 0 ∧ v.v m = (vP h x).v m := by
 cases h with
 |one l =>
  cases v with
  |agg ss => cases ht
  |one c =>
   obtain ⟨o1, e⟩ := aAI m (ls := [l]) (ss := [.c c]) (N := N) ⟨ho, trivial⟩ ht
   have e : [c.v m] = vals m (vV [l] x) := e
   cases l with
   |a k n => cases hp
   |i k =>
    refine ⟨trivial, ?_⟩
    have : [c.v m] = [Value.int k x.1] := e
    exact (List.cons.inj this).1
   |b =>
    refine ⟨trivial, ?_⟩
    have : [c.v m] = [Value.bool x.1] := e
    exact (List.cons.inj this).1
 |agg ls =>
  cases v with
  |one c => cases ht
  |agg ss =>
   obtain ⟨o1, e⟩ := aAI m ho ht
   exact ⟨o1, by show Value.agg _ = Value.agg _; rw [e]⟩
theorem zF {N : Nat} : ∀ {hs : List Sh} {vs : List PV} {x : Ts hs}, hs.all Sh.plain = true → (∀ v ∈ vs, v.ok N) → takes hs vs = some x → (∀ v ∈ gives hs x, v.ok 0) ∧ ∀ m, vs.map (PV.v m) = (gives hs x).map (PV.v m) := by
 intro hs
 induction hs with
 |nil =>
  intro vs x _ _ h
  cases vs with
  |nil => exact ⟨(fun v hv => nomatch hv), fun _ => rfl⟩
  |cons v r => cases h
 |cons h hs ih =>
  intro vs x hp ho ht
  cases vs with
  |nil => cases ht
  |cons v r =>
   rw [List.all_cons, Bool.and_eq_true] at hp
   unfold takes at ht
   split at ht
   ·next y z hy hz =>
    cases ht
    obtain ⟨o2, e2⟩ := ih hp.2 (fun u hu => ho u (List.mem_cons_of_mem _ hu)) hz
    have hv := ho v (List.mem_cons_self ..)
    refine ⟨fun u hu => ?_, fun m => ?_⟩
    ·have hu : u ∈ vP h y :: gives hs z := hu
     rcases List.mem_cons.1 hu with rfl | hu
     ·exact (wK id hp.1 hv hy).1
     ·exact o2 u hu
    ·show v.v m :: r.map (PV.v m) = (vP h y).v m :: (gives hs z).map (PV.v m)
     rw [(wK m hp.1 hv hy).2, e2 m]
   ·cases ht
theorem takeR_v {N : Nat} {hs : List Sh} {v : SV} {x : Ts hs} (hp : hs.all Sh.plain = true) (ho : v.ok N) (h : iL hs v = some x) : (mI hs x).ok 0 ∧ ∀ m m', v.v m' = (mI hs x).v m := by
 have cong : ∀ (vs : List PV), (∀ v ∈ vs, v.ok 0) → ∀ m m' : Nat → Nat, vs.map (PV.v m') = vs.map (PV.v m) := fun vs hv m m' =>
  List.map_congr_left fun u hu => PV.iB (N := 0) (fun g hg => absurd hg (Nat.not_lt_zero _)) (hv u hu)
 have main : ∀ vs : List PV, (∀ v ∈ vs, v.ok N) → takes hs vs = some x → (∀ v ∈ gives hs x, v.ok 0) ∧ ∀ m m', vs.map (PV.v m') = (gives hs x).map (PV.v m) := fun vs hv ht => by
  obtain ⟨o, e⟩ := zF hp hv ht
  exact ⟨o, fun m m' => (e m').trans (cong _ o m m')⟩
 cases v with
 |und => cases h
 |pv u =>
  obtain ⟨o, e⟩ := main [u] (by intro v hv; rcases List.mem_cons.1 hv with rfl | hv; exact ho; cases hv) h
  unfold mI
  have hl : (gives hs x).length = 1 := by
   have := congrArg List.length (e id id); simpa using this.symm
  match hg : gives hs x, hl with
  |[w], _ =>
   rw [hg] at o e
   refine ⟨o w (List.mem_cons_self ..), fun m m' => ?_⟩
   have := e m m'
   exact (List.cons.inj this).1
 |tup vs =>
  have h0 : (cnd (Nat.beq vs.length 1) (none) <| takes hs vs) = some x := h
  have hne : vs.length ≠ 1 := by
   intro hl
   rw [hl] at h0
   cases h0
  have h' : takes hs vs = some x := by
   rcases sG h0 with ⟨_, h1⟩ | ⟨_, h1⟩
   ·cases h1
   ·exact h1
  obtain ⟨o, e⟩ := main vs ho h'
  have hl : (gives hs x).length ≠ 1 := by
   intro hl
   have := congrArg List.length (e id id)
   simp only [List.length_map] at this
   omega
  have hg : mI hs x = .tup (gives hs x) := by
   unfold mI
   split
   ·next u hu => rw [hu] at hl; exact absurd rfl hl
   ·rfl
  rw [hg]
  exact ⟨o, fun m m' => by show Value.tuple _ = Value.tuple _; rw [e m m']⟩
def Lf.na : Lf → Bool
 |.a _ _ => false
 |_ => true
theorem aCN : ∀ {ls : List Lf} (x : Tq ls), ls.all Lf.na = true → oks 0 (vV ls x) := by
 intro ls
 induction ls with
 |nil => intro x _; trivial
 |cons l ls ih =>
  intro x h
  rw [List.all_cons, Bool.and_eq_true] at h
  refine ⟨?_, ih x.2 h.2⟩
  cases l with
  |a k n => cases h.1
  |i k => trivial
  |b => trivial
theorem aAy : ∀ {hs : List Sh} (x : Ts hs), hs.all (fun s => s.lfs.all Lf.na) = true → ∀ v ∈ gives hs x, v.ok 0 := by
 intro hs
 induction hs with
 |nil => intro x _ v hv; cases hv
 |cons h hs ih =>
  intro x hh v hv
  rw [List.all_cons, Bool.and_eq_true] at hh
  rcases List.mem_cons.1 hv with rfl | hv
  ·cases h with
   |agg ls => exact aCN x.1 hh.1
   |one l =>
    cases l with
    |a k n => have := hh.1; cases this
    |i k => trivial
    |b => trivial
  ·exact ih x.2 hh.2 v hv
theorem dW {hs : List Sh} (h : hs.all (fun s => s.lfs.all Lf.na) = true) (x : Ts hs) : (mI hs x).ok 0 := by
 have k := aAy x h
 unfold mI
 split
 ·next v hv => exact k v (by rw [hv]; exact List.mem_cons_self ..)
 ·exact k
def gZ (as_ rs : List Sh) {T : Type} (un : T → Ts rs) (g : Nat → Ts as_ → Option T) : Fc := ⟨fun _ n _ vs K => match takes as_ vs with
 |some x => (g n x).bind fun y => K (mI rs (un y))
 |none => none⟩
theorem bR.nil {P : Program} : bR P [] := fun _ _ h => nomatch h
theorem bR.cons {P : Program} {f : FuncId} {c : Fc} {cl : Cls} (h : gW P f c) (k : bR P cl) : bR P ((f, c) :: cl) := fun f' c' hl => by
 rw [fQ] at hl
 by_cases e : f = f'
 ·rw [if_pos e] at hl; cases hl; subst e; exact h
 ·rw [if_neg e] at hl; exact k f' c' hl
theorem fG {P : Program} {f : FuncId} {fn : Func} {as_ rs : List Sh} {T : Type} {un : T → Ts rs} {g : Nat → Ts as_ → Option T} (hf : P.funcs[f]? = some fn) (hb : fn.body.isSome = true) (hn : (fn.name == "runtime.NumGoroutine") = false)
  (hp : (as_.all Sh.plain && rs.all Sh.plain) = true) (h0 : ∀ y, (mI rs (un y)).ok 0) (hc : ∀ n x y, g n x = some y → ∀ (m : Nat → Nat) (w : World), Calls P f ((gives as_ x).map (PV.v m)).toArray w fun e w' => e = .returned ((mI rs (un y)).v m) ∧ Below w.heap.size w w') : gW P f (gZ as_ rs un g) := by
 rw [Bool.and_eq_true] at hp
 refine ⟨⟨fn, hf, hb, hn⟩, fun R n N _ vs K r ho h => ?_⟩
 have h : (match takes as_ vs with
  |some x => (g n x).bind fun y => K (mI rs (un y))
  |none => none) = some r := h
 split at h
 ·next x hx =>
  obtain ⟨y, hy, hK⟩ := Option.bind_eq_some_iff.mp h
  obtain ⟨o1, e1⟩ := zF hp.1 ho hx
  exact ⟨_, hK, h0 y, fun m w _ => by rw [e1 m]; exact hc n x y hy m w⟩
 ·cases h
theorem nR {P : Program} {cl : Cls} (hcl : bR P cl) {f : FuncId} {fn : Func} {cuts : List Nat} {as_ rs : List Sh} {T : Type} {cv : Ts rs → T} {un : T → Ts rs} {g : Nat → Ts as_ → Option T} (hf : P.funcs[f]? = some fn) (hb : fn.body.isSome = true) (hn : (fn.name == "runtime.NumGoroutine") = false)
  (hp : (as_.all Sh.plain && rs.all Sh.plain) = true) (hu : ∀ z, un (cv z) = z) (hg : ∀ n x, g n x = evF P cl fn cuts n (gives as_ x) (fun v => (iL rs v).map cv)) : gW P f (gZ as_ rs un g) := by
 rw [Bool.and_eq_true] at hp
 refine ⟨⟨fn, hf, hb, hn⟩, fun R n N _ vs K r ho h => ?_⟩
 have h : (match takes as_ vs with
  |some x => (g n x).bind fun y => K (mI rs (un y))
  |none => none) = some r := h
 split at h
 ·next x hx =>
  obtain ⟨y, hy, hK⟩ := Option.bind_eq_some_iff.mp h
  rw [hg] at hy
  obtain ⟨o1, e1⟩ := zF hp.1 ho hx
  refine ⟨_, hK, ?_⟩
  have hc : ∀ m w, Calls P f (vs.map (PV.v m)).toArray w fun e w' => (mI rs (un y)).ok 0 ∧ e = .returned ((mI rs (un y)).v m) ∧ Below w.heap.size w w' := fun m w => by
   rw [e1 m]
   refine (evF_v hcl hf o1 hy m w).mono ?_
   rintro e w' ⟨v, m', h1, rfl, ⟨N, h2⟩, h3⟩
   obtain ⟨z, hz, rfl⟩ := Option.map_eq_some_iff.mp h1
   rw [hu]
   obtain ⟨k1, k2⟩ := takeR_v hp.2 h2 hz
   exact ⟨k1, by rw [k2 m m'], h3⟩
  refine ⟨?_, fun m w _ => (hc m w).mono fun e w' he => he.2⟩
  obtain ⟨e, w', fr, hR, _⟩ := hc id default []
  exact hR.1
 ·cases h
theorem iK {P : Program} {f : FuncId} {as_ rs : List Sh} {T : Type} {un : T → Ts rs} {g : Nat → Ts as_ → Option T} (hok : gW P f (gZ as_ rs un g)) (n : Nat) (x : Ts as_) (y : T) (ht : takes as_ (gives as_ x) = some x) (h : g n x = some y) (w : World) (hp : as_.all (fun s => s.lfs.all Lf.na) = true := by decide) :
  Calls P f ((gives as_ x).map (PV.v id)).toArray w fun e w' => e = .returned ((mI rs (un y)).v id) ∧ Below w.heap.size w w' := by
 have hr : (gZ as_ rs un g).run SV n [] (gives as_ x) some = some (mI rs (un y)) := by
  show (match takes as_ (gives as_ x) with
   |some x => (g n x).bind fun y => some (mI rs (un y))
   |none => none) = _
  rw [ht]
  show (g n x).bind _ = _
  rw [h]; rfl
 obtain ⟨v, hv, _, hc⟩ := hok.run SV n 0 [] (gives as_ x) some _ (aAy x hp) hr
 cases hv
 exact hc id w ⟨0, fun g e ss h => nomatch h⟩
inductive Ar where
 |s (h : Sh)
 |sl (k : IntKind)
def Ta : List Ar → Type
 |[] => Unit
 |.s h :: r => Tq h.lfs × Ta r
 |.sl _ :: r => List Int × Ta r
def yZ (h : List (Nat × Nat × List S)) (k : IntKind) : PV → Option (List Int)
 |.one (.sl g o n c) => match look h g with
  |some (_, [.a k' xs q]) => cnd (Nat.beq o 0 && Nat.beq q n && Nat.ble n c && Nat.ble n 1000 && decide (k' = k)) (some xs) <| none
  |_ => none
 |_ => none
def takeA (h : List (Nat × Nat × List S)) : (as_ : List Ar) → List PV → Option (Ta as_)
 |[], [] => some ()
 |[], _ :: _ => none
 |_ :: _, [] => none
 |.s p :: r, v :: q => match aCb p v, takeA h r q with
  |some x, some y => some (x, y)
  |_, _ => none
 |.sl k :: r, v :: q => match yZ h k v, takeA h r q with
  |some x, some y => some (x, y)
  |_, _ => none
def Are (w : World) : (as_ : List Ar) → Ta as_ → List Value → Prop
 |[], _, vs => vs = []
 |.s p :: r, x, vs => ∃ q, vs = (vP p x.1).v id :: q ∧ Are w r x.2 q
 |.sl k :: r, x, vs => ∃ A c q, vs = .slice A x.1.length c :: q ∧ Kd.C (Kd.int k) w A x.1.length x.1 ∧ x.1.length ≤ c ∧ Are w r x.2 q
def Ar.plain : Ar → Bool
 |.s h => h.plain
 |_ => true
theorem aBI {h : List (Nat × Nat × List S)} {k : IntKind} {v : PV} {xs : List Int} (e : yZ h k v = some xs) {m : Nat → Nat} {w : World} (hw : aCR m h w) : ∃ A c, v.v m = .slice A xs.length c ∧ Kd.C (Kd.int k) w A xs.length xs ∧ xs.length ≤ c := by
 unfold yZ at e
 split at e
 ·next g o n c =>
  split at e
  ·next t k' ys q hl =>
   obtain ⟨h1, h2⟩ := gF e
   cases h2
   simp only [Bool.and_eq_true] at h1
   obtain ⟨⟨⟨⟨h1, h2⟩, h3⟩, h4⟩, h5⟩ := h1
   obtain rfl := Nat.eq_of_beq_eq_true h1
   obtain rfl := Nat.eq_of_beq_eq_true h2
   have h3 := Nat.le_of_ble_eq_true h3
   have h4 := Nat.le_of_ble_eq_true h4
   obtain rfl := of_decide_eq_true h5
   obtain ⟨N, hw⟩ := hw
   obtain ⟨o1, o2⟩ := hw g t _ hl
   have ol : xs.length = q := o1.1
   subst ol
   have o3 : vals m [S.a k' xs xs.length] = xs.map (Value.int k') := by show xs.map _ ++ [] = _; rw [List.append_nil]
   rw [o3] at o2
   refine ⟨some ⟨m g, 0, none⟩, c, rfl, ⟨rfl, by omega, fun _ => ⟨_, rfl, fun j p hj => ⟨[.int k' p], rfl, rfl, fun i u hu => ?_⟩⟩⟩, h3⟩
   have hi : i = 0 := by
    cases i with
    |zero => rfl
    |succ i => cases hu
   subst hi
   cases hu
   unfold World.cell? Addr.add
   have hk : (Kd.int k').sz = 1 := rfl
   by_cases j0 : j = 0
   ·subst j0; simp [hk, o2]; simpa using hj
   ·simp [hk, j0, o2]; simpa using hj
  ·cases e
 ·cases e
theorem takeA_v {h : List (Nat × Nat × List S)} {N : Nat} : ∀ {as_ : List Ar} {vs : List PV} {x : Ta as_}, as_.all Ar.plain = true → (∀ v ∈ vs, v.ok N) → takeA h as_ vs = some x → ∀ (m : Nat → Nat) (w : World), aCR m h w → Are w as_ x (vs.map (PV.v m)) := by
 intro as_
 induction as_ with
 |nil =>
  intro vs x _ _ e m w _
  cases vs with
  |nil => rfl
  |cons v r => cases e
 |cons p as_ ih =>
  intro vs x hp ho e m w hw
  rw [List.all_cons, Bool.and_eq_true] at hp
  cases vs with
  |nil => cases p <;> cases e
  |cons v r =>
   cases p with
   |s q =>
    unfold takeA at e
    split at e
    ·next y z hy hz =>
     cases e
     obtain ⟨o1, e1⟩ := wK m hp.1 (ho v (List.mem_cons_self ..)) hy
     refine ⟨r.map (PV.v m), ?_, ih hp.2 (fun u hu => ho u (List.mem_cons_of_mem _ hu)) hz m w hw⟩
     show v.v m :: _ = _
     rw [e1, PV.iB (N := 0) (m := m) (m' := id) (fun g hg => absurd hg (Nat.not_lt_zero _)) o1]
    ·cases e
   |sl k =>
    unfold takeA at e
    split at e
    ·next y z hy hz =>
     cases e
     obtain ⟨A, c, e1, e2, e3⟩ := aBI hy hw
     refine ⟨A, c, r.map (PV.v m), ?_, e2, e3, ih hp.2 (fun u hu => ho u (List.mem_cons_of_mem _ hu)) hz m w hw⟩
     show v.v m :: _ = _
     rw [e1]
    ·cases e
def mkFcA (as_ : List Ar) (rs : List Sh) {T : Type} (un : T → Ts rs) (g : Nat → Ta as_ → Option T) : Fc := ⟨fun _ n h vs K => match takeA h as_ vs with
 |some x => (g n x).bind fun y => K (mI rs (un y))
 |none => none⟩
theorem zJ {P : Program} {f : FuncId} {fn : Func} {as_ : List Ar} {rs : List Sh} {T : Type} {un : T → Ts rs} {g : Nat → Ta as_ → Option T} (hf : P.funcs[f]? = some fn) (hb : fn.body.isSome = true) (hn : (fn.name == "runtime.NumGoroutine") = false)
  (hp : (as_.all Ar.plain && rs.all Sh.plain) = true) (h0 : ∀ y, (mI rs (un y)).ok 0) (hc : ∀ n x y, g n x = some y → ∀ (m : Nat → Nat) (w : World) (vs : List Value), Are w as_ x vs → Calls P f vs.toArray w fun e w' => e = .returned ((mI rs (un y)).v m) ∧ Below w.heap.size w w') : gW P f (mkFcA as_ rs un g) := by
 rw [Bool.and_eq_true] at hp
 refine ⟨⟨fn, hf, hb, hn⟩, fun R n N hh vs K r ho h => ?_⟩
 have h : (match takeA hh as_ vs with
  |some x => (g n x).bind fun y => K (mI rs (un y))
  |none => none) = some r := h
 split at h
 ·next x hx =>
  obtain ⟨y, hy, hK⟩ := Option.bind_eq_some_iff.mp h
  exact ⟨_, hK, h0 y, fun m w hw => hc n x y hy m w _ (takeA_v hp.1 ho hx m w hw)⟩
 ·cases h
abbrev hI (k : IntKind) : Sh := .one (.i k)
abbrev hB : Sh := .one .b
abbrev vb (b : Bool) : SV := .pv (.one (.b (.q b)))
abbrev ci (k : IntKind) (x : Int) : S := .c (.i k (.x x))
abbrev cb (b : Bool) : S := .c (.b (.q b))
end Ek
namespace P
attribute [local go_sem] max2_int min2_int max_two min_two max_three min_three max_four min_four
def eB.f (k : Nat) (a0 a1 : Int) : Option (Bool) := (aY.f k a0 a1).bind fun t420 => (some (decide (t420 ≥ 4)))
theorem eB.mono : ∀ a0 a1 k, LeO (eB.f k a0 a1) (eB.f (k + 1) a0 a1) := by
 intro a0 a1 k
 unfold eB.f
 repeat' first
   |(with_reducible first|exact aY.mono _ _ _|exact LeO.refl _|exact LeO.none _|refine LeO.ite ?_ ?_|refine LeO.bind ?_ (fun _ => ?_))
   |exact aY.mono _ _ _
   |exact LeO.none _
   |refine LeO.ite ?_ ?_
   |refine LeO.bind ?_ (fun _ => ?_)
theorem eB.calls (k : Nat) (a0 a1 : Int) (r : Bool) (w : World) (h : eB.f k a0 a1 = some r) :
  Calls Tryz.prog 176 #[.int .i64 a0, .int .u32 a1] w fun e w' => e = .returned (.bool r) ∧ Drawn0 w w' := by
 have H : ((aY.f k a0 a1).bind fun t420 => (some (decide (t420 ≥ 4)))) = some r := h
 clear h
 replace H := bq_ H
 obtain ⟨t420, A30, H⟩ := H
 replace H : (some (decide (t420 ≥ 4))) = some r := H
 have A3 := Aside0.mk A30
 clear A30
 obtain rfl := Option.some.inj H
 go_enter Tryz.func176, Tryz.ntmps176
 go_wp2_with (first | ((with_reducible refine gate_callee (f := 147) rfl ?_); refine goesL_ (some 7) rfl rfl Tryz.func147 kr rfl #[.int .i64 a0, .int .u32 a1] rfl gl ?_; (with_reducible refine (aY.calls k a0 a1 t420 _ A3.out).mono ?_); rintro e w' ⟨rfl, ⟨nd, rfl⟩⟩; refine ⟨_, rfl, ?_⟩))
 go_ret
 exact ⟨gr_, gd_⟩
def fB.f (a0 : Int) : Option (Int) := (bJ.f a0).bind fun bt421 => (if 0 ≤ (IntKind.u64.wrap (wrap64 ((wrap64 (bt421.1 + bt421.2)) + 1))) then (some (((shl .u32 1 (IntKind.u64.wrap (wrap64 ((wrap64 (bt421.1 + bt421.2)) + 1)))) - 1) % 4294967296)) else (none))
theorem fB.calls (a0 r : Int) (w : World) (h : fB.f a0 = some r) :
  Calls Tryz.prog 174 #[.int .i64 a0] w fun e w' => e = .returned (.int .u32 r) ∧ Drawn0 w w' := by
 have H : ((bJ.f a0).bind fun bt421 => (if 0 ≤ (IntKind.u64.wrap (wrap64 ((wrap64 (bt421.1 + bt421.2)) + 1))) then (some (((shl .u32 1 (IntKind.u64.wrap (wrap64 ((wrap64 (bt421.1 + bt421.2)) + 1)))) - 1) % 4294967296)) else (none))) = some r := h
 clear h
 replace H := bq_ H
 obtain ⟨⟨t421, t422⟩, A20, H⟩ := H
 replace H : (if 0 ≤ (IntKind.u64.wrap (wrap64 ((wrap64 (t421 + t422)) + 1))) then (some (((shl .u32 1 (IntKind.u64.wrap (wrap64 ((wrap64 (t421 + t422)) + 1)))) - 1) % 4294967296)) else (none)) = some r := H
 have A2 := Aside0.mk A20
 clear A20
 obtain ⟨ji3, hji3⟩ : ∃ j_ : Int, (IntKind.u64.wrap (wrap64 ((wrap64 (t421 + t422)) + 1))) = j_ := ⟨_, rfl⟩
 replace H : (if 0 ≤ (ji3) then (some (((shl .u32 1 (ji3)) - 1) % 4294967296)) else (none)) = some r := by first | (rw [hji3] at H; exact H) | (simp only [hji3] at H ⊢; exact H)
 (try rw [hji3] at A2)
 by_cases c4 : 0 ≤ (ji3)
 ·rw [if_pos c4] at H
  have c4b0 := eq_true c4
  have c4b1 : decide (0 ≤ (ji3)) = true := decide_eq_true c4
  clear c4
  obtain ⟨ji5, hji5⟩ : ∃ j_ : Int, (shl .u32 1 (ji3)) = j_ := ⟨_, rfl⟩
  replace H : (some (((ji5) - 1) % 4294967296)) = some r := by first | (rw [hji5] at H; exact H) | (simp only [hji5] at H ⊢; exact H)
  (try rw [hji5] at A2)
  have hji5_ : (IntKind.u32.wrap (1 * 2 ^ min (ji3).toNat 32)) = ji5 := hji5
  have hji5z : (ji3) ≤ 32 → (IntKind.u32.wrap (1 * 2 ^ (ji3).toNat)) = ji5 := shl_small hji5
  have hji5u : (IntKind.u32.wrap (2 ^ min (ji3).toNat 32)) = ji5 := by have h_ := hji5_; rw [Int.one_mul] at h_; exact h_
  have hji5v : (ji3) ≤ 32 → (IntKind.u32.wrap (2 ^ (ji3).toNat)) = ji5 := fun hle_ => by have h_ := hji5z hle_; rw [Int.one_mul] at h_; exact h_
  obtain ⟨ji6, hji6⟩ : ∃ j_ : Int, (((ji5) - 1) % 4294967296) = j_ := ⟨_, rfl⟩
  replace H : (some ji6) = some r := by first | (rw [hji6] at H; exact H) | (simp only [hji6] at H ⊢; exact H)
  (try rw [hji6] at A2)
  have hji6l : 0 ≤ ji6 := by rw [← hji6]; exact Int.emod_nonneg _ (by decide)
  have hji6h : ji6 ≤ 4294967295 := by have := Int.emod_lt_of_pos (((ji5) - 1)) (show (0 : Int) < 4294967296 by decide); omega
  have hji6w : (IntKind.u32.wrap ((ji5) - 1)) = ji6 := (oG _).trans hji6
  (try (have hji6_ := hji6; simp only [Int.add_emod_emod, Int.emod_add_emod, Int.sub_emod_emod, Int.emod_sub_emod] at hji6_))
  obtain rfl := Option.some.inj H
  go_enter Tryz.func174, Tryz.ntmps174
  go_wp2_with (first | ((with_reducible refine gate_callee (f := 149) rfl ?_); refine goesL_ (some 7) rfl rfl Tryz.func149 kr rfl #[.int .i64 a0] rfl gl ?_; (with_reducible refine (bJ.calls a0 t421 t422 _ A2.out).mono ?_); rintro e w' ⟨rfl, ⟨nd, rfl⟩⟩; refine ⟨_, rfl, ?_⟩))
  go_ret
  exact ⟨by first | rfl | (simp; done) | (simp only [← hji3, ← hji5, ← hji6] <;> (first | rfl | (simp; done))) | (simp [*]; done) | (congr 1; (try unfold wrap64); omega) | (congr 1; rw [IntKind.wrap_u64]; omega), gd_⟩
 ·rw [if_neg c4] at H
  exact absurd H (by simp)
def gQ.f (a0 a1 : Int) : Option (Int) := (bJ.f a0).bind fun bt423 => ((fB.f a0).bind fun t425 => (if 0 ≤ (IntKind.u64.wrap (wrap64 (bt423.1 + bt423.2))) then (some (Go.bits .xor .u32 (Go.bits .and .u32 a1 t425) (shl .u32 1 (IntKind.u64.wrap (wrap64 (bt423.1 + bt423.2)))))) else (none)))
theorem gQ.calls (a0 a1 r : Int) (w : World) (h : gQ.f a0 a1 = some r) :
  Calls Tryz.prog 160 #[.int .i64 a0, .int .u32 a1] w fun e w' => e = .returned (.int .u32 r) ∧ Drawn0 w w' := by
 have H : ((bJ.f a0).bind fun bt423 => ((fB.f a0).bind fun t425 => (if 0 ≤ (IntKind.u64.wrap (wrap64 (bt423.1 + bt423.2))) then (some (Go.bits .xor .u32 (Go.bits .and .u32 a1 t425) (shl .u32 1 (IntKind.u64.wrap (wrap64 (bt423.1 + bt423.2)))))) else (none)))) = some r := h
 clear h
 replace H := bq_ H
 obtain ⟨⟨t423, t424⟩, A30, H⟩ := H
 replace H : ((fB.f a0).bind fun t425 => (if 0 ≤ (IntKind.u64.wrap (wrap64 (t423 + t424))) then (some (Go.bits .xor .u32 (Go.bits .and .u32 a1 t425) (shl .u32 1 (IntKind.u64.wrap (wrap64 (t423 + t424)))))) else (none))) = some r := H
 have A3 := Aside0.mk A30
 clear A30
 replace H := bq_ H
 obtain ⟨t425, A40, H⟩ := H
 replace H : (if 0 ≤ (IntKind.u64.wrap (wrap64 (t423 + t424))) then (some (Go.bits .xor .u32 (Go.bits .and .u32 a1 t425) (shl .u32 1 (IntKind.u64.wrap (wrap64 (t423 + t424)))))) else (none)) = some r := H
 have A4 := Aside0.mk A40
 clear A40
 obtain ⟨ji5, hji5⟩ : ∃ j_ : Int, (IntKind.u64.wrap (wrap64 (t423 + t424))) = j_ := ⟨_, rfl⟩
 replace H : (if 0 ≤ (ji5) then (some (Go.bits .xor .u32 (Go.bits .and .u32 a1 t425) (shl .u32 1 (ji5)))) else (none)) = some r := by first | (rw [hji5] at H; exact H) | (simp only [hji5] at H ⊢; exact H)
 (try rw [hji5] at A3)
 (try rw [hji5] at A4)
 by_cases c6 : 0 ≤ (ji5)
 ·rw [if_pos c6] at H
  have c6b0 := eq_true c6
  have c6b1 : decide (0 ≤ (ji5)) = true := decide_eq_true c6
  clear c6
  obtain ⟨ji7, hji7⟩ : ∃ j_ : Int, (shl .u32 1 (ji5)) = j_ := ⟨_, rfl⟩
  replace H : (some (Go.bits .xor .u32 (Go.bits .and .u32 a1 t425) (ji7))) = some r := by first | (rw [hji7] at H; exact H) | (simp only [hji7] at H ⊢; exact H)
  (try rw [hji7] at A3)
  (try rw [hji7] at A4)
  have hji7_ : (IntKind.u32.wrap (1 * 2 ^ min (ji5).toNat 32)) = ji7 := hji7
  have hji7z : (ji5) ≤ 32 → (IntKind.u32.wrap (1 * 2 ^ (ji5).toNat)) = ji7 := shl_small hji7
  have hji7u : (IntKind.u32.wrap (2 ^ min (ji5).toNat 32)) = ji7 := by have h_ := hji7_; rw [Int.one_mul] at h_; exact h_
  have hji7v : (ji5) ≤ 32 → (IntKind.u32.wrap (2 ^ (ji5).toNat)) = ji7 := fun hle_ => by have h_ := hji7z hle_; rw [Int.one_mul] at h_; exact h_
  obtain rfl := Option.some.inj H
  go_enter Tryz.func160, Tryz.ntmps160
  go_wp2_with (first | ((with_reducible refine gate_callee (f := 149) rfl ?_); refine goesL_ (some 9) rfl rfl Tryz.func149 kr rfl #[.int .i64 a0] rfl gl ?_; (with_reducible refine (bJ.calls a0 t423 t424 _ A3.out).mono ?_); rintro e w' ⟨rfl, ⟨nd, rfl⟩⟩; refine ⟨_, rfl, ?_⟩) | ((with_reducible refine gate_callee (f := 174) rfl ?_); refine goesL_ (some 14) rfl rfl Tryz.func174 kr rfl #[.int .i64 a0] rfl gl ?_; (with_reducible refine (fB.calls a0 t425 _ A4.out).mono ?_); rintro e w' ⟨rfl, ⟨nd, rfl⟩⟩; refine ⟨_, rfl, ?_⟩))
  go_ret
  exact ⟨by first | rfl | (simp; done) | (simp only [← hji5, ← hji7] <;> (first | rfl | (simp; done))) | (simp [*]; done) | (congr 1; (try unfold wrap64); omega) | (congr 1; rw [IntKind.wrap_u64]; omega), gd_⟩
 ·rw [if_neg c6] at H
  exact absurd H (by simp)
def gI.f (a0 a1 : Int) : Option (Int) := (fB.f a0).bind fun t426 => ((dL.f a0 a1).bind fun t427 => (if t427 = true then ((gQ.f a0 a1).bind fun t428 => (some (wrap64 ((-1) - (wrap64 (t428)))))) else (some (wrap64 (Go.bits .and .u32 a1 t426)))))
theorem gI.calls (a0 a1 r : Int) (w : World) (h : gI.f a0 a1 = some r) :
  Calls Tryz.prog 177 #[.int .i64 a0, .int .u32 a1] w fun e w' => e = .returned (.int .i64 r) ∧ Drawn0 w w' := by
 have H : ((fB.f a0).bind fun t426 => ((dL.f a0 a1).bind fun t427 => (if t427 = true then ((gQ.f a0 a1).bind fun t428 => (some (wrap64 ((-1) - (wrap64 (t428)))))) else (some (wrap64 (Go.bits .and .u32 a1 t426)))))) = some r := h
 clear h
 replace H := bq_ H
 obtain ⟨t426, A30, H⟩ := H
 replace H : ((dL.f a0 a1).bind fun t427 => (if t427 = true then ((gQ.f a0 a1).bind fun t428 => (some (wrap64 ((-1) - (wrap64 (t428)))))) else (some (wrap64 (Go.bits .and .u32 a1 t426))))) = some r := H
 have A3 := Aside0.mk A30
 clear A30
 replace H := bq_ H
 obtain ⟨t427, A40, H⟩ := H
 replace H : (if t427 = true then ((gQ.f a0 a1).bind fun t428 => (some (wrap64 ((-1) - (wrap64 (t428)))))) else (some (wrap64 (Go.bits .and .u32 a1 t426)))) = some r := H
 have A4 := Aside0.mk A40
 clear A40
 by_cases c5 : t427 = true
 ·subst c5
  have H1 : ((gQ.f a0 a1).bind fun t428 => (some (wrap64 ((-1) - (wrap64 (t428)))))) = some r := by rw [if_pos rfl] at H; exact H
  clear H
  have H := H1
  clear H1
  replace H := bq_ H
  obtain ⟨t428, A60, H⟩ := H
  replace H : (some (wrap64 ((-1) - (wrap64 (t428))))) = some r := H
  have A6 := Aside0.mk A60
  clear A60
  obtain rfl := Option.some.inj H
  go_enter Tryz.func177, Tryz.ntmps177
  go_wp2_with (first | ((with_reducible refine gate_callee (f := 174) rfl ?_); refine goesL_ (some 8) rfl rfl Tryz.func174 kr rfl #[.int .i64 a0] rfl gl ?_; (with_reducible refine (fB.calls a0 t426 _ A3.out).mono ?_); rintro e w' ⟨rfl, ⟨nd, rfl⟩⟩; refine ⟨_, rfl, ?_⟩) | ((with_reducible refine gate_callee (f := 146) rfl ?_); refine goesL_ (some 13) rfl rfl Tryz.func146 kr rfl #[.int .i64 a0, .int .u32 a1] rfl gl ?_; (with_reducible refine (dL.calls a0 a1 true _ A4.out).mono ?_); rintro e w' ⟨rfl, ⟨nd, rfl⟩⟩; refine ⟨_, rfl, ?_⟩) | ((with_reducible refine gate_callee (f := 160) rfl ?_); refine goesL_ (some 18) rfl rfl Tryz.func160 kr rfl #[.int .i64 a0, .int .u32 a1] rfl gl ?_; (with_reducible refine (gQ.calls a0 a1 t428 _ A6.out).mono ?_); rintro e w' ⟨rfl, ⟨nd, rfl⟩⟩; refine ⟨_, rfl, ?_⟩))
  go_ret
  exact ⟨gr_, gd_⟩
 ·replace c5 := Bool.eq_false_iff.mpr c5
  subst c5
  have H1 : (some (wrap64 (Go.bits .and .u32 a1 t426))) = some r := by rw [if_neg (show ¬ (false = true) by decide)] at H; exact H
  clear H
  have H := H1
  clear H1
  obtain rfl := Option.some.inj H
  go_enter Tryz.func177, Tryz.ntmps177
  go_wp2_with (first | ((with_reducible refine gate_callee (f := 174) rfl ?_); refine goesL_ (some 8) rfl rfl Tryz.func174 kr rfl #[.int .i64 a0] rfl gl ?_; (with_reducible refine (fB.calls a0 t426 _ A3.out).mono ?_); rintro e w' ⟨rfl, ⟨nd, rfl⟩⟩; refine ⟨_, rfl, ?_⟩) | ((with_reducible refine gate_callee (f := 146) rfl ?_); refine goesL_ (some 13) rfl rfl Tryz.func146 kr rfl #[.int .i64 a0, .int .u32 a1] rfl gl ?_; (with_reducible refine (dL.calls a0 a1 false _ A4.out).mono ?_); rintro e w' ⟨rfl, ⟨nd, rfl⟩⟩; refine ⟨_, rfl, ?_⟩))
  go_ret
  exact ⟨gr_, gd_⟩
mutual
def aM.j0 : Nat → Int → Int → Int → Bool → Option (Int × Bool)
 |0, _, _, _, _ => none
 |k + 1, x0, x1, x2, x17 => if x17 = true then (some (0, false)) else ((gI.f x0 x1).bind fun t431 => ((gI.f x0 x2).bind fun t432 => ((bM.f k x0 x1).bind fun t433 => (if t433 = true then ((bM.f k x0 x2).bind fun t434 => (aM.j1 k t431 t432 t434)) else (aM.j1 k t431 t432 false)))))
def aM.j1 : Nat → Int → Int → Bool → Option (Int × Bool)
 |0, _, _, _ => none
 |k + 1, x8, x9, x24 => if x24 = true then (some (0, true)) else (if x8 < x9 then (some ((-1), true)) else (if x8 > x9 then (some (1, true)) else (some (0, true))))
end
def aM.f (k : Nat) (a0 a1 a2 : Int) : Option (Int × Bool) := (eB.f k a0 a1).bind fun t429 => (if t429 = true then (aM.j0 k a0 a1 a2 true) else ((eB.f k a0 a2).bind fun t430 => (aM.j0 k a0 a1 a2 t430)))
def bQ.f (a0 : Int) (a1 a2 : Bool) (a3 a4 : Bool) : Option (Bool) := if a0 = 1 then (some false) else (if a0 = 2 then (if a1 = true then (some false) else (if a3 = true then (some true) else (some a4))) else (if a0 = 3 then (if a1 = true then (if a3 = true then (some true) else (some a4)) else (some false)) else (if a0 = 4 then (some a3) else (if a3 = true then (if a4 = true then (some true) else (some a2)) else (some false)))))
def eD.f (a0 : Int) (a1 : Bool) : Option (Int) := (bZ.f a0 a1).bind fun t601 => (some ((t601 - 1) % 4294967296))
theorem eD.calls (a0 : Int) (a1 : Bool) (r : Int) (w : World) (h : eD.f a0 a1 = some r) :
  Calls Tryz.prog 169 #[.int .i64 a0, .bool a1] w fun e w' => e = .returned (.int .u32 r) ∧ Drawn0 w w' := by
 have H : ((bZ.f a0 a1).bind fun t601 => (some ((t601 - 1) % 4294967296))) = some r := h
 clear h
 replace H := bq_ H
 obtain ⟨t601, A30, H⟩ := H
 replace H : (some ((t601 - 1) % 4294967296)) = some r := H
 have A3 := Aside0.mk A30
 clear A30
 obtain ⟨ji4, hji4⟩ : ∃ j_ : Int, ((t601 - 1) % 4294967296) = j_ := ⟨_, rfl⟩
 replace H : (some ji4) = some r := by first | (rw [hji4] at H; exact H) | (simp only [hji4] at H ⊢; exact H)
 (try rw [hji4] at A3)
 have hji4l : 0 ≤ ji4 := by rw [← hji4]; exact Int.emod_nonneg _ (by decide)
 have hji4h : ji4 ≤ 4294967295 := by have := Int.emod_lt_of_pos ((t601 - 1)) (show (0 : Int) < 4294967296 by decide); omega
 have hji4w : (IntKind.u32.wrap (t601 - 1)) = ji4 := (oG _).trans hji4
 (try (have hji4_ := hji4; simp only [Int.add_emod_emod, Int.emod_add_emod, Int.sub_emod_emod, Int.emod_sub_emod] at hji4_))
 obtain rfl := Option.some.inj H
 go_enter Tryz.func169, Tryz.ntmps169
 go_wp2_with (first | ((with_reducible refine gate_callee (f := 89) rfl ?_); refine goesL_ (some 7) rfl rfl Tryz.func89 kr rfl #[.int .i64 a0, .bool a1] rfl gl ?_; (with_reducible refine (bZ.calls a0 a1 t601 _ A3.out).mono ?_); rintro e w' ⟨rfl, ⟨nd, rfl⟩⟩; refine ⟨_, rfl, ?_⟩))
 go_ret
 exact ⟨by first | rfl | (simp; done) | (simp only [← hji4] <;> (first | rfl | (simp; done))) | (simp [*]; done) | (congr 1; (try unfold wrap64); omega) | (congr 1; rw [IntKind.wrap_u64]; omega), gd_⟩
def aK.j0 : Nat → Int → Bool → Bool → Option (Int)
 |0, _, _, _ => none
 |k + 1, x0, x2, x23 => if x23 = true then ((eD.f x0 x2).bind fun t602 => (some t602)) else ((bZ.f x0 x2).bind fun t603 => (some t603))
def aK.f (k : Nat) (a0 a1 : Int) (a2 : Bool) : Option (Int) := if a1 = 1 then (aK.j0 k a0 a2 true) else (if a1 = 2 then (if a2 = true then (aK.j0 k a0 a2 true) else (if a1 = 3 then (aK.j0 k a0 a2 (!a2)) else (aK.j0 k a0 a2 false))) else (if a1 = 3 then (aK.j0 k a0 a2 (!a2)) else (aK.j0 k a0 a2 false)))
end P
end
end Go.Proofs.YtolpdiifmacdbaaGreat
