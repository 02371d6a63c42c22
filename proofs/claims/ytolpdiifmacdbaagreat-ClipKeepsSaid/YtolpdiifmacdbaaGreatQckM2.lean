import Derived.Test.YtolpdiifmacdbaaGreatQckM1
import Derived.Test.YtolpdiifmacdbaaGreatQckWEqStruct
import Derived.ChangeKeysEq
import Derived.LoopN
set_option linter.unusedVariables false
set_option linter.unusedSimpArgs false
namespace Go.Proofs.YtolpdiifmacdbaaGreat
noncomputable section
open Go.RowKit YtolpdiifmacdbaaGreatW.PrintWords YtolpdiifmacdbaaGreatW.PrintLast YtolpdiifmacdbaaGreatW.PrintMore
namespace Xe
structure M where
 b : Nat → Nat
 cap : Nat → Nat
 u : Nat → { v : Value // v.oneCell' = true }
section
variable [Rho]
def C.v (m : M) : C → Value
 |.i k x => .int k x.d
 |.b x => .bool x.d
 |.p g o => .pointer (some ⟨m.b g, o, none⟩)
 |.sl g o z n => .slice (some ⟨m.b g, o * z, none⟩) n (m.cap g - o)
 |.nil => .slice none 0 0
 |.st s => .string s
 |.u j => (m.u j).1
 |.pu j _ x => match (m.u j).1 with
  |.slice (some a) _ _ => .pointer (some (a.add x.d.toNat))
  |_ => .nilFunc
 |.pd g o _ x => .pointer (some ⟨m.b g, o + x.d.toNat, none⟩)
 |.fn f => .func (.func f) #[] #[]
 |.nf => .nilFunc
def vals (m : M) (cs : List C) : List Value := cs.map (C.v m)
def PV.v (m : M) : PV → Value
 |.one c => c.v m
 |.agg cs => .agg (vals m cs).toArray
def SV.v (m : M) : SV → Value
 |.pv u => u.v m
 |.tup vs => .tuple (vs.map (PV.v m)).toArray
 |.und => undef
def C.ok (A : Nat → Prop) : C → Prop
 |.i k x => k.has x.d
 |.p g _ => A g
 |.sl g _ _ _ => A g
 |.u j => A j
 |.pu j t x => A j ∧ 0 ≤ x.d ∧ x.d < t.u.lst.length
 |.pd g _ n x => A g ∧ 0 ≤ x.d ∧ x.d < n
 |_ => True
def oks (A : Nat → Prop) (cs : List C) : Prop := ∀ c ∈ cs, c.ok A
def PV.ok (A : Nat → Prop) : PV → Prop
 |.one c => c.ok A
 |.agg cs => oks A cs
def SV.ok (A : Nat → Prop) : SV → Prop
 |.pv u => u.ok A
 |.tup vs => ∀ v ∈ vs, v.ok A
 |.und => True
theorem C.one (m : M) (c : C) : (c.v m).oneCell' = true := by
 cases c with
 |u i => exact (m.u i).2
 |pu i t x =>
  show (match (m.u i).1 with
   |.slice (some a) _ _ => Value.pointer (some (a.add x.d.toNat))
   |_ => .nilFunc).oneCell' = true
  split <;> rfl
 |_ => rfl
theorem C.cells (m : M) (c : C) : (c.v m).cells = #[c.v m] := by
 have h := C.one m c
 generalize c.v m = v at h
 cases v <;> first | rfl | cases h
theorem dK (m : M) (cs : List C) : (vals m cs).length = cs.length := by unfold vals; rw [List.length_map]
theorem fF (m : M) (a b : List C) : vals m (a ++ b) = vals m a ++ vals m b := by unfold vals; rw [List.map_append]
theorem sS (m : M) (cs : List C) : ∀ v ∈ vals m cs, v.oneCell' = true := by
 intro v hv
 obtain ⟨c, _, rfl⟩ := List.mem_map.1 hv
 exact C.one m c
omit [Rho] in
theorem takeO_v {l : List C} : ∀ {n : Nat} {q : List C}, takeO l n = some q → q = l.take n ∧ n ≤ l.length := by
 induction l with
 |nil =>
  intro n q h
  cases n with
  |zero => cases h; exact ⟨rfl, Nat.le_refl _⟩
  |succ n => cases h
 |cons c r ih =>
  intro n q h
  cases n with
  |zero => cases h; exact ⟨rfl, Nat.zero_le _⟩
  |succ n =>
   unfold takeO at h
   split at h
   ·next q' hq => cases h; obtain ⟨e, l⟩ := ih hq; exact ⟨by rw [e]; rfl, Nat.succ_le_succ l⟩
   ·cases h
omit [Rho] in
theorem dropO_v {l : List C} : ∀ {n : Nat} {q : List C}, dropO l n = some q → q = l.drop n ∧ n ≤ l.length := by
 induction l with
 |nil =>
  intro n q h
  cases n with
  |zero => cases h; exact ⟨rfl, Nat.le_refl _⟩
  |succ n => cases h
 |cons c r ih =>
  intro n q h
  cases n with
  |zero => cases h; exact ⟨rfl, Nat.zero_le _⟩
  |succ n => obtain ⟨e, l⟩ := ih h; exact ⟨e, Nat.succ_le_succ l⟩
omit [Rho] in
theorem yD {cs q : List C} {o n : Nat} (h : subO cs o n = some q) : q = (cs.drop o).take n ∧ o + n ≤ cs.length ∧ q.length = n := by
 unfold subO at h
 split at h
 ·next r hr =>
  obtain ⟨rfl, l1⟩ := dropO_v hr
  obtain ⟨rfl, l2⟩ := takeO_v h
  rw [List.length_drop] at l2
  refine ⟨rfl, by omega, ?_⟩
  rw [List.length_take, List.length_drop]; omega
 ·cases h
omit [Rho] in
theorem nth_v {l : List C} : ∀ {n : Nat} {c : C}, nth l n = some c → l[n]? = some c := by
 induction l with
 |nil => intro n c h; cases h
 |cons d r ih =>
  intro n c h
  cases n with
  |zero => cases h; rfl
  |succ n => exact ih h
omit [Rho] in
theorem aCa : ∀ {l new : List C} {K : List C → Bool}, xI.go l new K = true → K (new ++ l.drop new.length) = true ∧ new.length ≤ l.length := by
 intro l new
 induction new generalizing l with
 |nil => intro K h; cases l <;> exact ⟨h, Nat.zero_le _⟩
 |cons c q ih =>
  intro K h
  cases l with
  |nil => cases h
  |cons d r =>
   obtain ⟨e, l⟩ := ih (l := r) (K := fun r' => K (c :: r')) h
   exact ⟨e, Nat.succ_le_succ l⟩
omit [Rho] in
theorem over_v {new : List C} : ∀ {l : List C} {o : Nat} {K : List C → Bool}, xI l o new K = true → K (l.take o ++ (new ++ l.drop (o + new.length))) = true ∧ o + new.length ≤ l.length := by
 intro l
 induction l with
 |nil =>
  intro o K h
  cases o with
  |zero =>
   have h : xI.go [] new K = true := by cases new <;> exact h
   obtain ⟨e, l⟩ := aCa (K := K) h
   exact ⟨by simpa using e, by simpa using l⟩
  |succ o => cases h
 |cons c r ih =>
  intro o K h
  cases o with
  |zero =>
   have h : xI.go (c :: r) new K = true := by cases new <;> exact h
   obtain ⟨e, l⟩ := aCa (K := K) h
   exact ⟨by simpa using e, by simpa using l⟩
  |succ o =>
   obtain ⟨e, l⟩ := ih (K := fun r' => K (c :: r')) h
   refine ⟨?_, by simp only [List.length_cons]; omega⟩
   rw [show o + 1 + new.length = (o + new.length) + 1 by omega, List.take_succ_cons, List.drop_succ_cons]
   exact e
omit [Rho] in
theorem cat_v (a b : List C) : ∀ (K : List C → Bool), catK a b K = K (a ++ b) := by
 induction a with
 |nil => intro K; rfl
 |cons c r ih => intro K; exact ih _
omit [Rho] in
theorem rep_v (z : List C) : ∀ (n : Nat) (K : List C → Bool), repK n z K = K (List.replicate n z).flatten := by
 intro n
 induction n with
 |zero => intro K; rfl
 |succ n ih =>
  intro K
  unfold repK
  rw [ih, cat_v, List.replicate_succ, List.flatten_cons]
theorem aAJ {v : Value} {c : C} (m : M) (A : Nat → Prop) (h : uG v = some c) : c.v m = v ∧ c.ok A := by
 unfold uG at h
 split at h
 ·obtain ⟨h1, h2⟩ := gF h
  cases h2
  rw [Bool.and_eq_true, decide_eq_true_eq, decide_eq_true_eq] at h1
  exact ⟨rfl, h1⟩
 ·next b => cases h; exact ⟨by show Value.bool (BE.lit b).d = _; rw [BE.tZ], trivial⟩
 ·cases h; exact ⟨rfl, trivial⟩
 ·cases h; exact ⟨rfl, trivial⟩
 ·cases h; exact ⟨rfl, trivial⟩
 ·cases h
theorem qM {vs : List Value} (m : M) (A : Nat → Prop) : ∀ {cs : List C}, mQ vs = some cs → vals m cs = vs ∧ oks A cs := by
 induction vs with
 |nil => intro cs h; cases h; exact ⟨rfl, fun c hc => nomatch hc⟩
 |cons v r ih =>
  intro cs h
  unfold mQ at h
  split at h
  ·next c q h1 h2 =>
   cases h
   obtain ⟨e1, o1⟩ := aAJ m A h1
   obtain ⟨e2, o2⟩ := ih h2
   refine ⟨by show c.v m :: vals m q = _; rw [e1, e2], fun d hd => ?_⟩
   rcases List.mem_cons.1 hd with rfl | hd
   ·exact o1
   ·exact o2 d hd
  ·cases h
theorem ofV_v {c : Value} {v : SV} (m : M) (A : Nat → Prop) (h : ofV c = some v) : v.v m = c ∧ v.ok A := by
 unfold ofV at h
 split at h
 ·next cs =>
  split at h
  ·next q hq =>
   cases h
   obtain ⟨e, o⟩ := qM m A hq
   exact ⟨by show Value.agg (vals m q).toArray = _; rw [e], o⟩
  ·cases h
 ·split at h
  ·next q hq => cases h; exact aAJ m A hq
  ·cases h
def Knows (A : Nat → Prop) (m : M) (env : Env) (a : Act) : Prop := ∀ t v, look env t = some v → v.ok A ∧ a.tmps.getD t undef = v.v m
theorem jB {m : M} {A : Nat → Prop} {env : Env} {a : Act} (hk : Knows A m env a) {x : Operand} {v : SV} (h : ev env x = some v) : v.ok A ∧ a.eval x = v.v m := by
 cases x with
 |tmp t => exact hk t v h
 |const c => obtain ⟨e, o⟩ := ofV_v m A h; exact ⟨o, e.symm⟩
 |global g => cases h
 |func f => cases h; exact ⟨trivial, rfl⟩
theorem vE {m : M} {A : Nat → Prop} {env : Env} {a : Act} (hk : Knows A m env a) {xs : List Operand} : ∀ {vs : List PV}, evs env xs = some vs → (∀ v ∈ vs, v.ok A) ∧ xs.map a.eval = vs.map (PV.v m) := by
 induction xs with
 |nil => intro vs h; cases h; exact ⟨(fun v hv => nomatch hv), rfl⟩
 |cons x r ih =>
  intro vs h
  unfold evs at h
  split at h
  ·next v ws h1 h2 =>
   cases h
   obtain ⟨o, e⟩ := jB hk h1
   obtain ⟨o', e'⟩ := ih h2
   refine ⟨fun u hu => ?_, by rw [List.map_cons, List.map_cons, e, e']; rfl⟩
   rcases List.mem_cons.1 hu with rfl | hu
   ·exact o
   ·exact o' u hu
  ·cases h
def mR (m : M) (i : Nat) : UI → Prop
 |.clo f caps => (m.u i).1 = .func (.func f) #[] (caps.map (PV.v m)).toArray
 |.ro _ t => ∃ a c, (m.u i).1 = .slice a t.u.lst.length c ∧ t.u.lst.length ≤ aBv ∧ (0 < t.u.lst.length → a.isSome = true)
 |.em full => ∃ a c, (m.u i).1 = .slice (some a) 0 c ∧ (full = true → c = 0)
section
variable {P : Program}
theorem iO (m : M) (A : Nat → Prop) {t : Nat} {cs : List C} (h : oN P t = some cs) : oks A cs ∧ ∃ i v, P.info? t = some i ∧ i.zero = some v ∧ v.cells = (vals m cs).toArray := by
 unfold oN at h
 split at h
 ·next i h1 =>
  split at h
  ·next v h2 =>
   obtain ⟨e, o⟩ := qM m A h
   exact ⟨o, i, v, h1, h2, by rw [e]⟩
  ·cases h
 ·cases h
omit [Rho] in
theorem gX {t n : Nat} (h : jH P t = some n) (w : World) : (sizeOf t).run P w = .ok n w := by
 unfold jH at h
 split at h
 ·next i h1 => cases h; simp [sizeOf, typeInfo, h1]
 ·cases h
omit [Rho] in
theorem mW {t n : Nat} (h : jH P t = some n) : ∃ i, P.info? t = some i ∧ i.size = n := by
 unfold jH at h
 split at h
 ·next i h1 => cases h; exact ⟨i, h1, rfl⟩
 ·cases h
omit [Rho] in
theorem jE {t : Nat} {b : Bool} (h : jV P t = some b) (w : World) : (isAgg t).run P w = .ok b w := by
 unfold jV at h
 cases hu : P.underlying t with
 |none => rw [hu] at h; cases h
 |some d =>
  rw [hu] at h
  cases d <;> cases h <;> simp [isAgg, underlying, hu]
omit [Rho] in
theorem lD {t o : Nat} {vs : List Value} {v : Value} (ha : jV P t = some false) (h : vs[o]? = some v) (w : World) : (part t vs.toArray o).run P w = .ok v w := by
 have ha := jE ha
 simp [part, ha, h]
theorem xE (m : M) {A : Nat → Prop} {t o : Nat} {cs : List C} {v : PV} (ho : oks A cs) (h : sH P t cs o = some v) : v.ok A ∧ ∀ w, (part t (vals m cs).toArray o).run P w = .ok (v.v m) w := by
 unfold sH at h
 split at h
 ·next h1 =>
  split at h
  ·next n h2 =>
   split at h
   ·next r h3 =>
    cases h
    obtain ⟨rfl, l, _⟩ := yD h3
    refine ⟨fun c hc => ho c (List.mem_of_mem_drop (List.mem_of_mem_take hc)), fun w => ?_⟩
    have h1 := jE h1
    have h2 := gX h2
    simp [part, h1, h2, PV.v, vals, List.map_take, List.map_drop]
   ·cases h
  ·cases h
 ·next h1 =>
  split at h
  ·next c h3 =>
   cases h
   have h3 := nth_v h3
   refine ⟨ho c (List.mem_of_getElem? h3), fun w => lD h1 ?_ w⟩
   unfold vals
   rw [List.getElem?_map, h3]; rfl
  ·cases h
 ·cases h
end
end
theorem add0 (g o n : Nat) : (⟨g, o, none⟩ : Addr).add n = ⟨g, o + n, none⟩ := by unfold Addr.add; split <;> simp_all
theorem wF (off : Nat) : ∀ (new : List Value) (k : Nat) (cells : Array Value), off + k + new.length ≤ cells.size →
  (new.zipIdx k).foldl (fun cs (x : Value × Nat) => cs.setIfInBounds (off + x.2) x.1) cells = (cells.toList.take (off + k) ++ (new ++ cells.toList.drop (off + k + new.length))).toArray := by
 intro new
 induction new with
 |nil => intro k cells h; simp
 |cons v new ih =>
  intro k cells h
  rw [List.length_cons] at h
  rw [List.zipIdx_cons, List.foldl_cons, ih (k + 1) _ (by rw [Array.size_setIfInBounds]; omega)]
  apply congrArg
  rw [Array.toList_setIfInBounds]
  have hl : off + k < cells.toList.length := by rw [Array.length_toList]; omega
  rw [List.drop_set_of_lt (by omega), show off + (k + 1) = off + k + 1 by omega, List.take_add_one, List.getElem?_set_self hl, List.take_set_of_le (Nat.le_refl _)]
  simp [Nat.add_assoc, Nat.add_comm 1]
theorem nX {place : Nat → Option (Nat × Nat)} {cells : Array Value} {i off size : Nat} {v : Value} {rest : List (Nat × Value)} (hp : place i = some (off, size)) (h1 : v.cells.size = size) (h2 : off + v.cells.size ≤ cells.size) :
  Instr.fill place cells ((i, v) :: rest) = Instr.fill place ((v.cells.toList.zipIdx 0).foldl (fun cs (x : Value × Nat) => cs.setIfInBounds (off + x.2) x.1) cells) rest := by
 have h3 : ¬ (v.cells.size ≠ size || off + v.cells.size > cells.size) = true := by
  simp only [Bool.or_eq_true, decide_eq_true_eq, not_or, Decidable.not_not]
  exact ⟨h1, by omega⟩
 rw [Instr.fill, hp]
 dsimp only
 rw [if_neg h3, ← Array.foldl_toList]
 simp
theorem jX {P : Program} {s : Sem Value} {x : Value} {w w' : World} (h : s.run P w = .ok x w') : (do let y ← s; pure (Next.value y) : Sem Next).run P w = .ok (.value x) w' := by
 simp [h]
section
variable [Rho] {P : Program} {H : vF}
theorem rH {m : M} {A : Nat → Prop} {env : Env} {a : Act} (hk : Knows A m env a) {places : List (Nat × Nat)} {pl : Nat → Option (Nat × Nat)} (hpl : ∀ j x, places[j]? = some x → pl j = some x) {K : List C → Bool} {ps : List (Nat × Operand)} : ∀ {cs : List C}, oks A cs → pM env places cs ps K = true →
  ∃ cs', K cs' = true ∧ cs'.length = cs.length ∧ oks A cs' ∧ Instr.fill pl (vals m cs).toArray (ps.map fun x => (x.1, a.eval x.2)) = some (vals m cs').toArray := by
 induction ps with
 |nil => intro cs ho h; exact ⟨cs, h, rfl, ho, rfl⟩
 |cons p r ih =>
  obtain ⟨j, x⟩ := p
  intro cs ho h
  have step : ∀ (o n : Nat) (v : PV), places[j]? = some (o, n) → v.ok A → a.eval x = v.v m → n = v.cells.length → xI cs o v.cells (fun cs => pM env places cs r K) = true →
    ∃ cs', K cs' = true ∧ cs'.length = cs.length ∧ oks A cs' ∧ Instr.fill pl (vals m cs).toArray (((j, x) :: r).map fun x => (x.1, a.eval x.2)) = some (vals m cs').toArray := by
   intro o n v h1 ok e hn h2
   obtain ⟨h3, h4⟩ := over_v h2
   have hvo : oks A v.cells := by
    cases v with
    |one c => intro d hd; rw [List.mem_singleton.1 hd]; exact ok
    |agg q => exact ok
   have hvc : (v.v m).cells = (vals m v.cells).toArray := by
    cases v with
    |one c => exact C.cells m c
    |agg q => rfl
   obtain ⟨cs', k1, k2, k3, k4⟩ := ih (cs := cs.take o ++ (v.cells ++ cs.drop (o + v.cells.length))) (by
    intro c hc
    rcases List.mem_append.1 hc with hc | hc
    ·exact ho c (List.mem_of_mem_take hc)
    ·rcases List.mem_append.1 hc with hc | hc
     ·exact hvo c hc
     ·exact ho c (List.mem_of_mem_drop hc)) h3
   refine ⟨cs', k1, ?_, k3, ?_⟩
   ·rw [k2]; simp only [List.length_append, List.length_take, List.length_drop]; omega
   ·have hsz : (v.v m).cells.size = n := by rw [hvc, List.size_toArray, dK, hn]
    rw [List.map_cons, nX (v := a.eval x) (hpl _ _ h1) (by rw [e]; exact hsz) (by rw [e, hsz, List.size_toArray, dK]; omega), e, hvc, ← k4]
    have := wF o (vals m v.cells) 0 (vals m cs).toArray (by rw [List.size_toArray, dK, dK]; omega)
    simp only [Nat.add_zero] at this
    rw [this]
    congr 2
    rw [fF, fF, dK]
    unfold vals
    rw [List.map_take, List.map_drop]
  unfold pM at h
  split at h
  ·next o c h1 h2 =>
   obtain ⟨ok, e⟩ := jB hk h2
   exact step o 1 (.one c) h1 ok e rfl h
  ·next _ o n new h1 h2 =>
   obtain ⟨h3, h4⟩ := btf h
   obtain ⟨ok, e⟩ := jB hk h2
   exact step o n (.agg new) h1 ok e (Nat.eq_of_beq_eq_true h3) h4
  ·cases h
def Gives (P : Program) (m : M) (A : Nat → Prop) (h : Hp) (K : KV) (S : Sem Value) : Prop := ∃ v h', kC h h' ∧ K v h' = true ∧ v.ok A ∧ ∀ w, S.run P w = .ok (v.v m) w
variable {m : M} {A : Nat → Prop} {env : Env} {a : Act} {h : Hp} {K : KV}
theorem wS (hk : Knows A m env a) (hp : nQ h.pc) {x : Operand} (hh : aA5 env h K x = true) : Gives P m A h K (pure (a.eval x)) := by
 unfold aA5 at hh
 split at hh
 ·next v hv => obtain ⟨o, e⟩ := jB hk hv; exact ⟨v, h, .refl hp, hh, o, fun w => by rw [Sem.run_pure, e]⟩
 ·cases hh
theorem vPick_v (hH : H.Ok) (hk : Knows A m env a) (hp : nQ h.pc) {c x y : Operand} (hh : vPick H env h K c x y = true) : Gives P m A h K (do pure (if ← asBool (a.eval c) then a.eval x else a.eval y)) := by
 unfold vPick at hh
 split at hh
 ·next e he =>
  obtain ⟨_, eb⟩ := jB hk he
  have eb' : a.eval c = .bool e.d := eb
  obtain ⟨h', e1, e2⟩ := qE hH hp hh
  rcases e2 with ⟨hd, k⟩ | ⟨hd, k⟩
  ·obtain ⟨v, h2, f1, f2, f3, f4⟩ := wS (P := P) hk e1.pc k
   exact ⟨v, h2, e1.trans f1, f2, f3, fun w => by have := f4 w; rw [Sem.run_pure] at this; simp [eb', asBool, hd, this]⟩
  ·obtain ⟨v, h2, f1, f2, f3, f4⟩ := wS (P := P) hk e1.pc k
   exact ⟨v, h2, e1.trans f1, f2, f3, fun w => by have := f4 w; rw [Sem.run_pure] at this; simp [eb', asBool, hd, this]⟩
 ·cases hh
theorem aC9 (hH : H.Ok) (hp : nQ h.pc) (t : TypeId) {op : BinOp} {k k' : IntKind} {x y : Tm} (hx : k.has x.d) (hy : k'.has y.d) (hh : binI H op k k' x y h K = true) :
  Gives P m A h K (binOp op t (.int k x.d) (.int k' y.d)) := by
 have pw : ∀ n : Nat, (0 : Int) ≤ 2 ^ n := fun n => Int.pow_nonneg (by decide)
 have fin : ∀ (h1 : Hp) (tq : TO) (z : Sem Value), kC h h1 → mkO H tq k x y h1 (fun t h => K (pvi k t) h) = true → (∀ w, z.run P w = .ok (.int k (tq.run k x.d y.d)) w) → Gives P m A h K z := by
  intro h1 tq z he hm hz
  obtain ⟨t, h2, f1, f2, f3⟩ := mkO_v hH he.pc hm
  refine ⟨pvi k t, h2, he.trans f1, f3, ?_, fun w => ?_⟩
  ·show k.has t.d
   rw [f2]; exact pF tq k _ _
  ·rw [hz w]; show _ = Result.ok (Value.int k t.d) w; rw [f2]
 cases op <;> unfold binI at hh <;> simp only [] at hh
 case shl =>
  obtain ⟨h', e1, e2⟩ := qE hH hp hh
  rcases e2 with ⟨hd, q⟩ | ⟨_, q⟩
  ·rw [oD _ _ _ (.inr (.inl rfl))] at hd
   have h0 : 0 ≤ y.d := of_decide_eq_true hd
   exact fin h' .shl _ e1 q fun w => by simp [binOp, Op.shift, Int.not_lt.mpr h0, TO.run, shl]
  ·cases q
 case shr =>
  obtain ⟨h', e1, e2⟩ := qE hH hp hh
  rcases e2 with ⟨hd, q⟩ | ⟨_, q⟩
  ·rw [oD _ _ _ (.inr (.inl rfl))] at hd
   have h0 : 0 ≤ y.d := of_decide_eq_true hd
   refine fin h' .shr _ e1 q fun w => ?_
   have hs : iW k (shr k x.d y.d) = x.d.fdiv (2 ^ min y.d.toNat k.bits) := by
    unfold shr
    rw [fZ, Int.fdiv_eq_ediv_of_nonneg _ (pw _)]
    refine kS ?_
    have hpos : (0 : Int) < 2 ^ min y.d.toNat k.bits := Int.pow_pos (by decide)
    obtain ⟨q1, q2⟩ := hx
    have hm : k.min ≤ 0 ∧ 0 ≤ k.max := by cases k <;> decide
    generalize (2 : Int) ^ min y.d.toNat k.bits = p at hpos
    constructor
    ·rcases Int.lt_or_le x.d 0 with hn | hn
     ·have : x.d ≤ x.d / p := by
       have h5 : 0 ≤ (-x.d) * (p - 1) := Int.mul_nonneg (by omega) (by omega)
       have h6 : (-x.d) * (p - 1) = x.d - x.d * p := by rw [Int.mul_sub, Int.neg_mul]; omega
       exact Int.le_ediv_of_mul_le hpos (by omega)
      omega
     ·have := Int.ediv_nonneg hn (Int.le_of_lt hpos); omega
    ·rcases Int.lt_or_le x.d 0 with hn | hn
     ·have := Int.ediv_neg_of_neg_of_pos hn hpos; omega
     ·have := Int.ediv_le_self p hn; omega
   simp [binOp, Op.shift, Int.not_lt.mpr h0, TO.run, hs]
  ·cases q
 all_goals (have h9 := btf hh; clear hh; obtain ⟨hkk, hh⟩ := h9; have he := jG hkk; clear hkk; subst he)
 case quo =>
  obtain ⟨h', e1, e2⟩ := qE hH hp hh
  rcases e2 with ⟨_, q⟩ | ⟨hd, q⟩
  ·cases q
  ·rw [oD _ _ _ (.inr (.inr rfl))] at hd
   have h0 : y.d ≠ 0 := by
    have : (y.d == (Tm.l 0).d) = false := hd
    rw [Tm.l_d] at this; simpa using this
   exact fin h' .quo _ e1 q fun w => by simp [binOp, Op.intDiv, h0, TO.run, fZ]
 case rem =>
  obtain ⟨h', e1, e2⟩ := qE hH hp hh
  rcases e2 with ⟨_, q⟩ | ⟨hd, q⟩
  ·cases q
  ·rw [oD _ _ _ (.inr (.inr rfl))] at hd
   have h0 : y.d ≠ 0 := by
    have : (y.d == (Tm.l 0).d) = false := hd
    rw [Tm.l_d] at this; simpa using this
   refine fin h' .rem _ e1 q fun w => ?_
   have hr : iW k (x.d.tmod y.d) = x.d.tmod y.d := by
    rw [fZ]
    refine kS ?_
    obtain ⟨q1, q2⟩ := hx
    have hm : k.min ≤ 0 ∧ 0 ≤ k.max := by cases k <;> decide
    have h4 : (x.d.tmod y.d).natAbs ≤ x.d.natAbs := by rw [Int.natAbs_tmod]; exact Nat.mod_le _ _
    rcases Int.lt_or_le x.d 0 with hn | hn
    ·have e : x.d.tmod y.d = -((-x.d).tmod y.d) := by rw [Int.neg_tmod, Int.neg_neg]
     have h3 := Int.tmod_nonneg y.d (show 0 ≤ -x.d by omega)
     show k.min ≤ _ ∧ _ ≤ k.max
     generalize x.d.tmod y.d = q at *
     omega
    ·have h3 := Int.tmod_nonneg y.d hn
     show k.min ≤ _ ∧ _ ≤ k.max
     generalize x.d.tmod y.d = q at *
     omega
   simp [binOp, Op.intDiv, h0, TO.run, hr]
 case add => exact fin h .add _ (.refl hp) hh fun w => by simp [binOp, Op.intArith, TO.run, fZ]
 case sub => exact fin h .sub _ (.refl hp) hh fun w => by simp [binOp, Op.intArith, TO.run, fZ]
 case mul => exact fin h .mul _ (.refl hp) hh fun w => by simp [binOp, Op.intArith, TO.run, fZ]
 case and => exact fin h .and _ (.refl hp) hh fun w => by simp [binOp, Op.intBits, Go.bits, TO.run]
 case or => exact fin h .or _ (.refl hp) hh fun w => by simp [binOp, Op.intBits, Go.bits, TO.run]
 case xor => exact fin h .xor _ (.refl hp) hh fun w => by simp [binOp, Op.intBits, Go.bits, TO.run]
 case andNot => exact fin h .andNot _ (.refl hp) hh fun w => by simp [binOp, Op.intBits, Go.bits, TO.run]
 all_goals first | cases hh | skip
 case eql => exact ⟨_, h, .refl hp, hh, trivial, fun w => by simp [binOp, Op.intCmp, SV.v, PV.v, C.v, oD _ _ _ (.inr (.inr rfl)), BE.d]⟩
 case neq => exact ⟨_, h, .refl hp, hh, trivial, fun w => by simp [binOp, Op.intCmp, SV.v, PV.v, C.v, BE.vL, oD _ _ _ (.inr (.inr rfl)), BE.d, bne]⟩
 case lss => exact ⟨_, h, .refl hp, hh, trivial, fun w => by simp [binOp, Op.intCmp, SV.v, PV.v, C.v, oD _ _ _ (.inl rfl), BE.d]⟩
 case leq => exact ⟨_, h, .refl hp, hh, trivial, fun w => by simp [binOp, Op.intCmp, SV.v, PV.v, C.v, oD _ _ _ (.inr (.inl rfl)), BE.d]⟩
 case gtr => exact ⟨_, h, .refl hp, hh, trivial, fun w => by simp [binOp, Op.intCmp, SV.v, PV.v, C.v, oD _ _ _ (.inl rfl), BE.d, GT.gt]⟩
 case geq => exact ⟨_, h, .refl hp, hh, trivial, fun w => by simp [binOp, Op.intCmp, SV.v, PV.v, C.v, oD _ _ _ (.inr (.inl rfl)), BE.d, GE.ge]⟩
theorem eqB_v (hH : H.Ok) (hp : nQ h.pc) {x y : BE} {K : BE → Hp → Bool} (hh : eqB H x y h K = true) : ∃ z h', kC h h' ∧ z.d = (x.d == y.d) ∧ K z h' = true := by
 unfold eqB at hh
 obtain ⟨h', e1, e2⟩ := qE hH hp hh
 rcases e2 with ⟨hd, q⟩ | ⟨hd, q⟩
 ·exact ⟨y, h', e1, by rw [hd]; cases y.d <;> rfl, q⟩
 ·exact ⟨y.neg, h', e1, by rw [hd, BE.vL]; cases y.d <;> rfl, q⟩
omit [Rho] in
theorem aC0 (d : Nat) (t e : TypeId) (b : Option Addr) (n c : Nat) (w : World) (hu : P.underlying t = some (.slice e)) : (Op.equalIn (d + 1) t (.slice b n c) (.slice none 0 0)).run P w = .ok b.isNone w := by
 cases b <;> simp [Op.equalIn, underlying, hu]
theorem isNil_v (hu : ∀ i info, look h.us i = some info → mR m i info) {c : C} {r : Bool} (hn : isNil h c = some r) : ∃ b n cp, c.v m = .slice b n cp ∧ b.isNone = r := by
 unfold isNil at hn
 split at hn
 ·cases hn; exact ⟨none, 0, 0, rfl, rfl⟩
 ·next g o z n => cases hn; exact ⟨_, _, _, rfl, rfl⟩
 ·next g =>
  split at hn
  ·next f hf =>
   cases hn
   obtain ⟨a, c, e, _⟩ := hu _ _ hf
   exact ⟨_, _, _, e, rfl⟩
  ·cases hn
 ·cases hn
theorem vBin_v (hH : H.Ok) (hk : Knows A m env a) (hp : nQ h.pc) (hu : ∀ i info, look h.us i = some info → mR m i info) {op : BinOp} {t : Nat} {x y : Operand} (hh : vBin H P env h K op t x y = true) :
  Gives P m A h K (do eqGuard op t x y (a.eval x) (a.eval y); binOp op t (a.eval x) (a.eval y)) := by
 unfold vBin at hh
 split at hh
 ·next vx hx =>
  split at hh
  ·next vy hy =>
   obtain ⟨ox, ex⟩ := jB hk hx
   obtain ⟨oy, ey⟩ := jB hk hy
   unfold vBinP at hh
   split at hh
   ·cases hh
   ·next ca =>
    split at hh
    ·cases hh
    ·next cb =>
     split at hh
     ·next k u =>
      split at hh
      ·next k' u' =>
       have ex' : a.eval x = .int k u.d := ex
       have ey' : a.eval y = .int k' u'.d := ey
       obtain ⟨v, h', g1, g2, g3, g4⟩ := aC9 (P := P) (m := m) (A := A) hH hp t ox oy hh
       exact ⟨v, h', g1, g2, g3, fun w => by simp [ex', ey', eqGuard_at_int, g4]⟩
      ·cases hh
     ·next u =>
      split at hh
      ·next u' =>
       have ex' : a.eval x = .bool u.d := ex
       have ey' : a.eval y = .bool u'.d := ey
       split at hh
       ·next hub =>
        have hb : ∀ w, (Op.equal t (.bool u.d) (.bool u'.d)).run P w = .ok (u.d == u'.d) w := fun w => run_equalIn_bool' w 9999 t _ _ hub
        unfold vBinB at hh
        split at hh
        ·obtain ⟨z, h', g1, g2, g3⟩ := eqB_v hH hp hh
         exact ⟨_, h', g1, g3, trivial, fun w => by simp [ex', ey', eqGuard_at_bool, binOp, hb, SV.v, PV.v, C.v, g2]⟩
        ·obtain ⟨z, h', g1, g2, g3⟩ := eqB_v hH hp hh
         exact ⟨_, h', g1, g3, trivial, fun w => by simp [ex', ey', eqGuard_at_bool, binOp, hb, SV.v, PV.v, C.v, g2, BE.vL]⟩
        ·cases hh
       ·cases hh
      ·cases hh
     ·next ca _ _ =>
      split at hh
      ·split at hh
       ·next e hue =>
        split at hh
        ·next r hr =>
         obtain ⟨b, n, cp, e1, e2⟩ := isNil_v hu hr
         have ex' : a.eval x = .slice b n cp := by rw [ex]; exact e1
         have ey' : a.eval y = .slice none 0 0 := ey
         have hb : ∀ w, (Op.equal t (.slice b n cp) (.slice none 0 0)).run P w = .ok b.isNone w := fun w => aC0 9999 t e b n cp w hue
         split at hh
         ·exact ⟨_, h, .refl hp, hh, trivial, fun w => by simp [ex', ey', eqGuard, binOp, hb, SV.v, PV.v, C.v, BE.tZ, e2]⟩
         ·exact ⟨_, h, .refl hp, hh, trivial, fun w => by simp [ex', ey', eqGuard, binOp, hb, SV.v, PV.v, C.v, BE.tZ, e2]⟩
         ·cases hh
        ·cases hh
       ·cases hh
      ·cases hh
  ·cases hh
 ·cases hh
theorem vUn_v (hH : H.Ok) (hk : Knows A m env a) (hp : nQ h.pc) {op : UnOp} {x : Operand} (hh : vUn H env h K op x = true) : Gives P m A h K (Op.unary op (a.eval x)) := by
 unfold vUn at hh
 split at hh
 ·next k u hx =>
  obtain ⟨ox, ex⟩ := jB hk hx
  have ex' : a.eval x = .int k u.d := ex
  split at hh
  ·obtain ⟨t, h', g1, g2, g3⟩ := mkO_v hH hp hh
   exact ⟨_, h', g1, g3, by show k.has t.d; rw [g2]; exact pF _ k _ _, fun w => by simp [ex', Op.unary, Op.intArith, SV.v, PV.v, C.v, g2, TO.run, fZ]⟩
  ·obtain ⟨t, h', g1, g2, g3⟩ := mkO_v hH hp hh
   exact ⟨_, h', g1, g3, by show k.has t.d; rw [g2]; exact pF _ k _ _, fun w => by simp [ex', Op.unary, Op.intBits, Go.bits, SV.v, PV.v, C.v, g2, TO.run]⟩
  ·cases hh
 ·next u hx =>
  obtain ⟨ox, ex⟩ := jB hk hx
  have ex' : a.eval x = .bool u.d := ex
  split at hh
  ·exact ⟨_, h, .refl hp, hh, trivial, fun w => by simp [ex', Op.unary, SV.v, PV.v, C.v, BE.vL]⟩
  ·cases hh
 ·cases hh
theorem vConv_v (hH : H.Ok) (hk : Knows A m env a) (hp : nQ h.pc) {s t : Nat} {x : Operand} (hh : vConv H P env h K s t x = true) : Gives P m A h K (convert s t (a.eval x)) := by
 unfold vConv at hh
 split at hh
 ·next d1 hs =>
  split at hh
  ·next k hd =>
   split at hh
   ·next k1 u hx =>
    obtain ⟨_, ex⟩ := jB hk hx
    have ex' : a.eval x = .int k1 u.d := ex
    obtain ⟨q, g1, g2⟩ := mkConv_v hH hh
    exact ⟨_, h, .refl hp, g2, by show k.has q.d; rw [g1]; exact nI k _, fun w => by simp [ex', convert, underlying, hs, hd, Conv.intToInt, SV.v, PV.v, C.v, g1]⟩
   ·cases hh
  ·cases hh
 ·cases hh
theorem xZ (hk : Knows A m env a) (hp : nQ h.pc) {t f : Nat} {x : Operand} (hh : rF P env h K t x f = true) : Gives P m A h K (Instr.fieldAt t (a.eval x) f) := by
 unfold rF at hh
 split at hh
 ·next fs hu =>
  split at hh
  ·next fd hf =>
   split at hh
   ·next z hz =>
    split at hh
    ·next g o hx =>
     obtain ⟨ok, ex⟩ := jB hk hx
     have ex' : a.eval x = .pointer (some ⟨m.b g, o, none⟩) := ex
     rw [fO] at hh
     have hz' := gX hz
     exact ⟨_, h, .refl hp, hh, ok, fun w => by simp [ex', Instr.fieldAt, Instr.sureAddr, fieldPlace, underlying, hu, hf, hz', SV.v, PV.v, C.v, add0]⟩
    ·cases hh
   ·cases hh
  ·cases hh
 ·cases hh
theorem vField_v (hk : Knows A m env a) (hp : nQ h.pc) {t f : Nat} {x : Operand} (hh : aBQ P env h K t x f = true) : Gives P m A h K (Instr.field t (a.eval x) f) := by
 unfold aBQ at hh
 split at hh
 ·next fs hu =>
  split at hh
  ·next fd hf =>
   split at hh
   ·next cs hx =>
    obtain ⟨ok, ex⟩ := jB hk hx
    have ex' : a.eval x = .agg (vals m cs).toArray := ex
    split at hh
    ·next v hv =>
     obtain ⟨o1, e1⟩ := xE m ok hv
     exact ⟨_, h, .refl hp, hh, o1, fun w => by simp [ex', Instr.field, asAgg, underlying, hu, hf, e1, SV.v]⟩
    ·cases hh
   ·cases hh
  ·cases hh
 ·cases hh
theorem vIx_v (hH : H.Ok) (hp : nQ h.pc) {j : Tm} {n : Nat} {K : Nat → Hp → Bool} (hh : vIx H j n h K = true) : ∃ i h', kC h h' ∧ K i h' = true ∧ j.d = (i : Int) ∧ i < n := by
 unfold vIx at hh
 obtain ⟨h', e1, e2⟩ := pX hH hp hh
 split at e2
 ·next i hi =>
  obtain ⟨h1, h2⟩ := btf e2
  rw [fO] at h2
  exact ⟨i, h', e1, h2, hi, Nat.le_of_ble_eq_true h1⟩
 ·cases e2
theorem vBd_v (hH : H.Ok) (hp : nQ h.pc) {j : Tm} {n : Nat} {K : Hp → Bool} (hh : vBd H j n h K = true) : ∃ h', kC h h' ∧ K h' = true ∧ 0 ≤ j.d ∧ j.d < n := by
 unfold vBd at hh
 obtain ⟨h1, e1, e2⟩ := qE hH hp hh
 rcases e2 with ⟨hd, q⟩ | ⟨_, q⟩
 ·obtain ⟨h2, f1, f2⟩ := qE hH e1.pc q
  rcases f2 with ⟨hd2, q2⟩ | ⟨_, q2⟩
  ·exact ⟨h2, e1.trans f1, q2, of_decide_eq_true hd, of_decide_eq_true hd2⟩
  ·cases q2
 ·cases q
theorem yN (hH : H.Ok) (hk : Knows A m env a) (hp : nQ h.pc) (hu : ∀ i info, look h.us i = some info → mR m i info) {t : Nat} {x i : Operand} (hh : rO H P env h K t x i = true) :
  Gives P m A h K (Instr.indexAt t (a.eval x) (a.eval i)) := by
 unfold rO at hh
 split at hh
 ·next k j hi =>
  obtain ⟨_, ei⟩ := jB hk hi
  have ei' : a.eval i = .int k j.d := ei
  split at hh
  ·next c hx =>
   obtain ⟨ok, ex⟩ := jB hk hx
   split at hh
   ·next n e hue =>
    split at hh
    ·next g o =>
     have ex' : a.eval x = .pointer (some ⟨m.b g, o, none⟩) := ex
     split at hh
     ·next z hz =>
      obtain ⟨q, h', g1, g2, g3, g4⟩ := vIx_v hH hp hh
      rw [fO] at g2
      have hz' := gX hz
      exact ⟨_, h', g1, g2, ok, fun w => by simp [ex', ei', g3, Instr.indexAt, Instr.sureAddr, asIntOf, underlying, hue, hz', g4, add0, SV.v, PV.v, C.v]⟩
     ·cases hh
    ·cases hh
   ·next e hue =>
    split at hh
    ·next g o z n =>
     have ex' : a.eval x = .slice (some ⟨m.b g, o * z, none⟩) n (m.cap g - o) := ex
     split at hh
     ·next z' hz =>
      have h9 := btf hh
      clear hh
      obtain ⟨hzz, hh⟩ := h9
      have hz9 := Nat.eq_of_beq_eq_true hzz
      clear hzz
      subst hz9
      have hz' := gX hz
      have h9 := bt hh
      clear hh
      rcases h9 with ⟨h1, hh⟩ | ⟨_, hh⟩
      ·simp only [Bool.and_eq_true] at h1
       obtain rfl := Nat.eq_of_beq_eq_true h1.1.2
       obtain ⟨h', g1, g2, g3, g4⟩ := vBd_v hH hp hh
       have hjn : j.d.toNat < n := by omega
       exact ⟨_, h', g1, g2, ⟨ok, g3, g4⟩, fun w => by simp [ex', ei', g3, g4, Instr.indexAt, Instr.sureAddr, asIntOf, underlying, hue, hz', add0, SV.v, PV.v, C.v]⟩
      ·obtain ⟨q, h', g1, g2, g3, g4⟩ := vIx_v hH hp hh
       rw [fO] at g2
       refine ⟨_, h', g1, g2, ok, fun w => ?_⟩
       have e5 : o * z + q * z = (o + q) * z := (Nat.add_mul _ _ _).symm
       simp [ex', ei', g3, Instr.indexAt, Instr.sureAddr, asIntOf, underlying, hue, hz', g4, add0, SV.v, PV.v, C.v, e5]
     ·cases hh
    ·next g =>
     split at hh
     ·next hz =>
      split at hh
      ·next k' tl hl =>
       obtain ⟨A0, c0, s1, s2, s3⟩ := hu _ _ hl
       have ex' : a.eval x = .slice A0 tl.u.lst.length c0 := by rw [ex]; exact s1
       obtain ⟨h1, e1, e2⟩ := qE hH hp hh
       rcases e2 with ⟨hd, q⟩ | ⟨_, q⟩
       ·rw [oD _ _ _ (.inr (.inl rfl))] at hd
        have j0 : 0 ≤ j.d := of_decide_eq_true hd
        obtain ⟨h2, f1, f2⟩ := qE hH e1.pc q
        rcases f2 with ⟨hd2, q2⟩ | ⟨_, q2⟩
        ·have j1 : j.d < (min tl.u.lst.length aBv : Nat) := of_decide_eq_true hd2
         have j2 : j.d < tl.u.lst.length := by omega
         have hz' := gX hz
         have hs := s3 (by omega)
         obtain ⟨ad, rfl⟩ := Option.isSome_iff_exists.1 hs
         have ev1 : (C.pu g tl j).v m = .pointer (some (ad.add j.d.toNat)) := by
          show (match (m.u g).1 with
           |.slice (some a) _ _ => Value.pointer (some (a.add j.d.toNat))
           |_ => .nilFunc) = _
          rw [s1]
         refine ⟨_, h2, e1.trans f1, q2, ⟨ok, j0, j2⟩, fun w => ?_⟩
         have : SV.v m (.pv (.one (.pu g tl j))) = .pointer (some (ad.add j.d.toNat)) := ev1
         rw [this]
         simp [ex', ei', Instr.indexAt, Instr.sureAddr, asIntOf, underlying, hue, hz', j0, j2]
        ·cases q2
       ·cases q
      ·cases hh
     ·cases hh
    ·cases hh
   ·cases hh
  ·cases hh
 ·cases hh
theorem vIndex_v (hH : H.Ok) (hk : Knows A m env a) (hp : nQ h.pc) {t : Nat} {x i : Operand} (hh : aCu H P env h K t x i = true) : Gives P m A h K (Instr.index t (a.eval x) (a.eval i)) := by
 unfold aCu at hh
 split at hh
 ·next n e hue =>
  split at hh
  ·next z hz =>
   split at hh
   ·next cs hx =>
    obtain ⟨ok, ex⟩ := jB hk hx
    have ex' : a.eval x = .agg (vals m cs).toArray := ex
    split at hh
    ·next k j hi =>
     obtain ⟨_, ei⟩ := jB hk hi
     have ei' : a.eval i = .int k j.d := ei
     obtain ⟨q, h', g1, g2, g3, g4⟩ := vIx_v hH hp hh
     split at g2
     ·next v hv =>
      obtain ⟨o1, e1⟩ := xE m ok hv
      have hz' := gX hz
      have e1' : ∀ w, (part e (vals m cs).toArray (q * z)).run P w = .ok (v.v m) w := e1
      exact ⟨_, h', g1, g2, o1, fun w => by simp [ex', ei', g3, Instr.index, asIntOf, underlying, hue, hz', g4, e1', SV.v]⟩
     ·cases g2
    ·cases hh
   ·cases hh
  ·cases hh
 ·cases hh
theorem aBq (hk : Knows A m env a) (hp : nQ h.pc) {x : Operand} {i : Nat} (hh : wT env h K x i = true) : Gives P m A h K (Instr.extract (a.eval x) i) := by
 unfold wT at hh
 split at hh
 ·next vs hx =>
  obtain ⟨ok, ex⟩ := jB hk hx
  have ex' : a.eval x = .tuple (vs.map (PV.v m)).toArray := ex
  split at hh
  ·next v hv => exact ⟨_, h, .refl hp, hh, ok v (List.mem_of_getElem? hv), fun w => by simp [ex', Instr.extract, hv, SV.v]⟩
  ·cases hh
 ·cases hh
theorem vBuild_v (hk : Knows A m env a) (hp : nQ h.pc) {t : Nat} {ps : Array (Nat × Operand)} (hh : aCV P env h K t ps = true) : Gives P m A h K (Instr.build t (ps.map fun x => (x.1, a.eval x.2))) := by
 unfold aCV at hh
 split at hh
 ·next fs hu =>
  split at hh
  ·next places hpl =>
   split at hh
   ·next cs hz =>
    obtain ⟨o0, i0, v0, hi, hz0, hc⟩ := iO m A hz
    obtain ⟨cs', g1, g2, g3, g4⟩ := rH hk (pl := (places.toArray[·]?)) (fun j x hx => by simpa using hx) o0 hh
    refine ⟨_, h, .refl hp, g1, g3, fun w => run_build w t _ _ ?_⟩
    unfold Program.built
    simp only [hi, hu, hz0, hpl]
    rw [hc, ← g4]
    congr 1
    simp
   ·cases hh
  ·cases hh
 ·next n e hu =>
  split at hh
  ·next ie hie =>
   split at hh
   ·next cs hz =>
    obtain ⟨o0, i0, v0, hi, hz0, hc⟩ := iO m A hz
    obtain ⟨cs', g1, g2, g3, g4⟩ := rH hk (pl := fun i => some (i * ie.size, ie.size)) (fun j x hx => by
     rw [List.getElem?_map] at hx
     obtain ⟨y, hy, rfl⟩ := Option.map_eq_some_iff.mp hx
     have hj : y = j := by
      obtain ⟨hlt, he⟩ := List.getElem?_eq_some_iff.1 hy
      rw [List.getElem_range] at he; exact he.symm
     subst hj
     rfl) o0 hh
    refine ⟨_, h, .refl hp, g1, g3, fun w => run_build w t _ _ ?_⟩
    unfold Program.built
    simp only [hi, hu, hz0, hie]
    rw [hc, ← g4]
    congr 1
    simp
   ·cases hh
  ·cases hh
 ·cases hh
theorem lenC_v (hp : nQ h.pc) (hu : ∀ i info, look h.us i = some info → mR m i info) {c : C} (hh : lenC h K c = true) : ∃ v h', kC h h' ∧ K v h' = true ∧ v.ok A ∧ ∃ b n cp, c.v m = .slice b n cp ∧ v.v m = .int .i64 n := by
 have small : ∀ n : Nat, n ≤ aBv → IntKind.i64.has (n : Int) := fun n hn => by
  unfold aBv at hn
  show (-(2 ^ (64 - 1)) : Int) ≤ n ∧ (n : Int) ≤ 2 ^ (64 - 1) - 1
  omega
 unfold lenC at hh
 split at hh
 ·next g o z n =>
  obtain ⟨hb, hh⟩ := btf hh
  rw [fO] at hh
  exact ⟨_, h, .refl hp, hh, small n (Nat.le_of_ble_eq_true hb), _, _, _, rfl, rfl⟩
 ·exact ⟨_, h, .refl hp, hh, small 0 (Nat.zero_le _), _, _, _, rfl, rfl⟩
 ·next g =>
  split at hh
  ·next k tl hl =>
   obtain ⟨A0, c0, s1, s2, s3⟩ := hu _ _ hl
   refine ⟨_, h, .refl hp, hh, ?_, _, _, _, s1, ?_⟩
   ·show IntKind.i64.has (Tm.len tl).d
    rw [Tm.len_d]; exact small _ (Nat.min_le_right _ _)
   ·show Value.int .i64 (Tm.len tl).d = _
    rw [Tm.len_d, Nat.min_eq_left s2]
  ·next f hf =>
   obtain ⟨A0, c0, s1, s2⟩ := hu _ _ hf
   exact ⟨_, h, .refl hp, hh, small 0 (Nat.zero_le _), _, _, _, s1, rfl⟩
  ·cases hh
 ·cases hh
theorem vMM_v (hH : H.Ok) (hk : Knows A m env a) (hp : nQ h.pc) {op : TO} {args : List Operand} (hh : vMM H env h K op args = true) : ∃ k x y, args.map a.eval = [.int k x, .int k y] ∧ k.has x ∧ k.has y ∧ ∃ v h', kC h h' ∧ K v h' = true ∧ v.ok A ∧ v.v m = .int k (op.run k x y) := by
 unfold vMM at hh
 split at hh
 ·next k x k' y hx =>
  obtain ⟨h1, h2⟩ := btf hh
  obtain rfl := jG h1
  obtain ⟨o1, ex⟩ := vE hk hx
  obtain ⟨t, h', g1, g2, g3⟩ := mkO_v hH hp h2
  refine ⟨k, x.d, y.d, ex, o1 (.one (.i k x)) (List.mem_cons_self ..), o1 (.one (.i k y)) (List.mem_cons_of_mem _ (List.mem_cons_self ..)), _, h', g1, g3, ?_, ?_⟩
  ·show k.has t.d; rw [g2]; exact pF _ k _ _
  ·show Value.int k t.d = _; rw [g2]
 ·cases hh
theorem aAZ (hH : H.Ok) (hk : Knows A m env a) (hp : nQ h.pc) (hu : ∀ i info, look h.us i = some info → mR m i info) {b : Builtin} {args : Array Operand} {ts : Array Nat} {ty : TypeId} {cn : Array Bool} (hh : sQ H P env h K b args.toList ts.toList = true) :
  ∃ v h', kC h h' ∧ K v h' = true ∧ v.ok A ∧ ∀ w, (builtin b ts ty cn (args.map a.eval)).run P w = .ok (.value (v.v m)) w := by
 unfold sQ at hh
 split at hh
 ·split at hh
  ·next x hx =>
   split at hh
   ·next t ht =>
    unfold vLen at hh
    split at hh
    ·next e hue =>
     split at hh
     ·next c hc =>
      obtain ⟨ok, ec⟩ := jB hk hc
      obtain ⟨v, h', g1, g2, g3, b0, n0, c0, g4, g5⟩ := lenC_v (m := m) (A := A) hp hu hh
      refine ⟨v, h', g1, g2, g3, fun w => ?_⟩
      have ea : args = #[x] := by rw [← Array.toArray_toList (xs := args), hx]
      have et : ts = #[t] := by rw [← Array.toArray_toList (xs := ts), ht]
      have ec' : a.eval x = .slice b0 n0 c0 := ec.trans g4
      rw [g5]
      simp [ea, et, builtin, Builtin.len_, ec', underlying, hue, goInt]
     ·cases hh
    ·cases hh
   ·cases hh
  ·cases hh
 ·obtain ⟨k, x, y, e1, q1, q2, v, h', g1, g2, g3, g4⟩ := vMM_v hH hk hp hh
  refine ⟨v, h', g1, g2, g3, fun w => ?_⟩
  have e2 : args.map a.eval = #[.int k x, .int k y] := by apply Array.ext'; rw [Array.toList_map, e1]
  have e3 : iW k (mn x y) = mn x y := by rw [fZ]; refine kS ?_; unfold mn; split <;> assumption
  rw [g4]
  simp [builtin, Builtin.min_, Builtin.min2, e2, TO.run, e3]
  rfl
 ·obtain ⟨k, x, y, e1, q1, q2, v, h', g1, g2, g3, g4⟩ := vMM_v hH hk hp hh
  refine ⟨v, h', g1, g2, g3, fun w => ?_⟩
  have e2 : args.map a.eval = #[.int k x, .int k y] := by apply Array.ext'; rw [Array.toList_map, e1]
  have e3 : iW k (mx x y) = mx x y := by rw [fZ]; refine kS ?_; unfold mx; split <;> assumption
  rw [g4]
  simp [builtin, Builtin.max_, Builtin.max2, e2, TO.run, e3]
  rfl
 ·cases hh
theorem tQ {o : Oper} (hH : H.Ok) (hk : Knows A m env a) (hp : nQ h.pc) (hu : ∀ i info, look h.us i = some info → mR m i info) (hh : sJ H P o.op env h K = true) :
  ∃ v h', kC h h' ∧ K v h' = true ∧ v.ok A ∧ ∀ w, (execOp a.eval o).run P w = .ok (.value (v.v m)) w := by
 obtain ⟨dst, op, ty, pos, after, guard⟩ := o
 simp only at hh
 have fin : ∀ {S : Sem Value}, Gives P m A h K S → (∀ w, (execOp a.eval ⟨dst, op, ty, pos, after, guard⟩).run P w = (do let y ← S; pure (Next.value y) : Sem Next).run P w) → ∃ v h', kC h h' ∧ K v h' = true ∧ v.ok A ∧ ∀ w, (execOp a.eval ⟨dst, op, ty, pos, after, guard⟩).run P w = .ok (.value (v.v m)) w := by
  rintro S ⟨v, h', g1, g2, g3, g4⟩ he
  exact ⟨v, h', g1, g2, g3, fun w => (he w).trans (jX (g4 w))⟩
 unfold sJ at hh
 split at hh
 ·exact fin (wS hk hp hh) fun w => by simp [execOp]
 ·exact fin (wS hk hp hh) fun w => by simp [execOp]
 ·exact fin (vPick_v hH hk hp hh) fun w => by simp [execOp]
 ·exact fin (vBin_v hH hk hp hu hh) fun w => rfl
 ·exact fin (vUn_v hH hk hp hh) fun w => rfl
 ·exact fin (vConv_v hH hk hp hh) fun w => rfl
 ·exact fin (xZ hk hp hh) fun w => rfl
 ·exact fin (vField_v hk hp hh) fun w => rfl
 ·exact fin (yN hH hk hp hu hh) fun w => rfl
 ·exact fin (vIndex_v hH hk hp hh) fun w => rfl
 ·exact fin (aBq hk hp hh) fun w => rfl
 ·next x =>
  unfold xR at hh
  split at hh
  ·next g o0 hx =>
   obtain ⟨ok, ex⟩ := jB hk hx
   have ex' : a.eval x = .pointer (some ⟨m.b g, o0, none⟩) := ex
   exact ⟨_, h, .refl hp, hh, ok, fun w => by simp [execOp, ex', SV.v, PV.v, C.v]⟩
  ·cases hh
 ·exact fin (vBuild_v hk hp hh) fun w => rfl
 ·next c =>
  split at hh
  ·next b hb =>
   obtain ⟨v, h', g1, g2, g3, g4⟩ := aAZ (ty := ty) (cn := c.args.map fun | .const _ => true | _ => false) hH hk hp hu hh
   refine ⟨v, h', g1, g2, g3, fun w => ?_⟩
   have := g4 w
   obtain ⟨callee, args, argTypes⟩ := c
   simp only at hb
   subst hb
   simp only [execOp, resolve, Sem.run_bind, Sem.run_pure, Result.andThen_ok, invoke]
   exact this
  ·cases hh
 ·cases hh
end
theorem nbeq {a b : Nat} (h : ¬ a = b) : Nat.beq a b = false := by
 cases hh : Nat.beq a b
 ·rfl
 ·exact absurd (Nat.eq_of_beq_eq_true hh) h
theorem ybeq (a : Nat) : Nat.beq a a = true := by simp
theorem o8 {α : Type} (l r : Tr α) (v : Option α) (k : Nat) : look (.n l v r) k = if k = 0 then v else if k % 2 = 1 then look l (k / 2) else look r (k / 2 - 1) := by
 show @Bool.rec (fun _ => Option α) (@Bool.rec (fun _ => Option α) (look r (Nat.sub (Nat.div k 2) 1)) (look l (Nat.div k 2)) (Nat.beq (Nat.mod k 2) 1)) v (Nat.beq k 0) = _
 by_cases h0 : k = 0
 ·subst h0; rfl
 ·rw [nbeq h0, if_neg h0]
  show @Bool.rec (fun _ => Option α) _ _ (Nat.beq (k % 2) 1) = _
  by_cases h1 : k % 2 = 1
  ·rw [h1, if_pos rfl]; rfl
  ·rw [nbeq h1, if_neg h1]; rfl
theorem set_e {α : Type} (f k : Nat) (u : Option α) (K : Tr α → Bool) : aA2 (f + 1) .e k u K = if k = 0 then K (.n .e u .e) else if k % 2 = 1 then aA2 f .e (k / 2) u (fun l => K (.n l none .e)) else aA2 f .e (k / 2 - 1) u (fun r => K (.n .e none r)) := by
 show @Bool.rec (fun _ => Bool) (@Bool.rec (fun _ => Bool) (aA2 f .e (Nat.sub (Nat.div k 2) 1) u fun r => K (.n .e none r)) (aA2 f .e (Nat.div k 2) u fun l => K (.n l none .e)) (Nat.beq (Nat.mod k 2) 1)) (K (.n .e u .e)) (Nat.beq k 0) = _
 by_cases h0 : k = 0
 ·subst h0; rfl
 ·rw [nbeq h0, if_neg h0]
  show @Bool.rec (fun _ => Bool) _ _ (Nat.beq (k % 2) 1) = _
  by_cases h1 : k % 2 = 1
  ·rw [h1, if_pos rfl]; rfl
  ·rw [nbeq h1, if_neg h1]; rfl
theorem set_n {α : Type} (f k : Nat) (l r : Tr α) (v u : Option α) (K : Tr α → Bool) : aA2 (f + 1) (.n l v r) k u K = if k = 0 then K (.n l u r) else if k % 2 = 1 then aA2 f l (k / 2) u (fun l => K (.n l v r)) else aA2 f r (k / 2 - 1) u (fun r => K (.n l v r)) := by
 show @Bool.rec (fun _ => Bool) (@Bool.rec (fun _ => Bool) (aA2 f r (Nat.sub (Nat.div k 2) 1) u fun r => K (.n l v r)) (aA2 f l (Nat.div k 2) u fun l => K (.n l v r)) (Nat.beq (Nat.mod k 2) 1)) (K (.n l u r)) (Nat.beq k 0) = _
 by_cases h0 : k = 0
 ·subst h0; rfl
 ·rw [nbeq h0, if_neg h0]
  show @Bool.rec (fun _ => Bool) _ _ (Nat.beq (k % 2) 1) = _
  by_cases h1 : k % 2 = 1
  ·rw [h1, if_pos rfl]; rfl
  ·rw [nbeq h1, if_neg h1]; rfl
theorem xH {α : Type} {u : Option α} : ∀ {f : Nat} {t : Tr α} {k : Nat} {K : Tr α → Bool}, aA2 f t k u K = true → ∃ t', K t' = true ∧ ∀ j, look t' j = if j = k then u else look t j := by
 intro f
 induction f with
 |zero => intro t k K h; cases h
 |succ f ih =>
  have hdiv : ∀ k j : Nat, k ≠ 0 → k % 2 = 1 → ((j = k) ↔ (j ≠ 0 ∧ j % 2 = 1 ∧ j / 2 = k / 2)) := fun k j h0 h1 => by omega
  have hdiv2 : ∀ k j : Nat, k ≠ 0 → ¬ k % 2 = 1 → ((j = k) ↔ (j ≠ 0 ∧ ¬ j % 2 = 1 ∧ j / 2 - 1 = k / 2 - 1)) := fun k j h0 h1 => by omega
  intro t k K h
  cases t with
  |e =>
   rw [set_e] at h
   by_cases h0 : k = 0
   ·rw [if_pos h0] at h
    refine ⟨_, h, fun j => ?_⟩
    rw [o8]
    by_cases c : j = 0
    ·rw [if_pos c, if_pos (c.trans h0.symm)]
    ·have hk : ¬ j = k := fun e => c (e.trans h0)
     simp only [if_neg c, if_neg hk]
     split <;> rfl
   ·rw [if_neg h0] at h
    by_cases h1 : k % 2 = 1
    ·rw [if_pos h1] at h
     obtain ⟨t', e1, e2⟩ := ih h
     refine ⟨_, e1, fun j => ?_⟩
     rw [o8]
     have hd := hdiv k j h0 h1
     by_cases c : j = k
     ·obtain ⟨c0, c1, c2⟩ := hd.1 c
      rw [if_neg c0, if_pos c1, e2, if_pos c2, if_pos c]
     ·rw [if_neg c]
      by_cases c0 : j = 0
      ·rw [if_pos c0]; rfl
      ·rw [if_neg c0]
       by_cases c1 : j % 2 = 1
       ·rw [if_pos c1, e2, if_neg (fun c2 => c (hd.2 ⟨c0, c1, c2⟩))]; rfl
       ·rw [if_neg c1]; rfl
    ·rw [if_neg h1] at h
     obtain ⟨t', e1, e2⟩ := ih h
     refine ⟨_, e1, fun j => ?_⟩
     rw [o8]
     have hd := hdiv2 k j h0 h1
     by_cases c : j = k
     ·obtain ⟨c0, c1, c2⟩ := hd.1 c
      rw [if_neg c0, if_neg c1, e2, if_pos c2, if_pos c]
     ·rw [if_neg c]
      by_cases c0 : j = 0
      ·rw [if_pos c0]; rfl
      ·rw [if_neg c0]
       by_cases c1 : j % 2 = 1
       ·rw [if_pos c1]; rfl
       ·rw [if_neg c1, e2, if_neg (fun c2 => c (hd.2 ⟨c0, c1, c2⟩))]; rfl
  |n l v r =>
   rw [set_n] at h
   by_cases h0 : k = 0
   ·rw [if_pos h0] at h
    refine ⟨_, h, fun j => ?_⟩
    rw [o8, o8]
    by_cases c : j = 0
    ·rw [if_pos c, if_pos (c.trans h0.symm)]
    ·have hk : ¬ j = k := fun e => c (e.trans h0)
     simp only [if_neg c, if_neg hk]
   ·rw [if_neg h0] at h
    by_cases h1 : k % 2 = 1
    ·rw [if_pos h1] at h
     obtain ⟨t', e1, e2⟩ := ih h
     refine ⟨_, e1, fun j => ?_⟩
     rw [o8, o8]
     have hd := hdiv k j h0 h1
     by_cases c : j = k
     ·obtain ⟨c0, c1, c2⟩ := hd.1 c
      rw [if_neg c0, if_pos c1, e2, if_pos c2, if_pos c]
     ·rw [if_neg c]
      by_cases c0 : j = 0
      ·rw [if_pos c0, if_pos c0]
      ·rw [if_neg c0, if_neg c0]
       by_cases c1 : j % 2 = 1
       ·rw [if_pos c1, if_pos c1, e2, if_neg (fun c2 => c (hd.2 ⟨c0, c1, c2⟩))]
       ·rw [if_neg c1, if_neg c1]
    ·rw [if_neg h1] at h
     obtain ⟨t', e1, e2⟩ := ih h
     refine ⟨_, e1, fun j => ?_⟩
     rw [o8, o8]
     have hd := hdiv2 k j h0 h1
     by_cases c : j = k
     ·obtain ⟨c0, c1, c2⟩ := hd.1 c
      rw [if_neg c0, if_neg c1, e2, if_pos c2, if_pos c]
     ·rw [if_neg c]
      by_cases c0 : j = 0
      ·rw [if_pos c0, if_pos c0]
      ·rw [if_neg c0, if_neg c0]
       by_cases c1 : j % 2 = 1
       ·rw [if_pos c1, if_pos c1]
       ·rw [if_neg c1, if_neg c1, e2, if_neg (fun c2 => c (hd.2 ⟨c0, c1, c2⟩))]
section
variable [Rho]
def Ext (A : Nat → Prop) (m m' : M) : Prop := ∀ g, A g → m'.b g = m.b g ∧ m'.cap g = m.cap g ∧ m'.u g = m.u g
omit [Rho] in
theorem Ext.refl (A : Nat → Prop) (m : M) : Ext A m m := fun _ _ => ⟨rfl, rfl, rfl⟩
omit [Rho] in
theorem Ext.trans {A A' : Nat → Prop} {m m' m'' : M} (h : Ext A m m') (hs : ∀ g, A g → A' g) (k : Ext A' m' m'') : Ext A m m'' := fun g hg => by
 obtain ⟨a, b, c⟩ := h g hg
 obtain ⟨d, e, f⟩ := k g (hs g hg)
 exact ⟨d.trans a, e.trans b, f.trans c⟩
section
variable {A A' : Nat → Prop} {m m' : M}
theorem C.gG (hs : ∀ g, A g → A' g) {c : C} (k : c.ok A) : c.ok A' := by
 cases c with
 |p g o => exact hs g k
 |sl g o z n => exact hs g k
 |u j => exact hs j k
 |pu j t x => exact ⟨hs j k.1, k.2⟩
 |pd g o n x => exact ⟨hs g k.1, k.2⟩
 |i k' x => exact k
 |_ => trivial
theorem jL (hs : ∀ g, A g → A' g) {cs : List C} (k : oks A cs) : oks A' cs := fun c hc => C.gG hs (k c hc)
theorem PV.gG (hs : ∀ g, A g → A' g) {v : PV} (k : v.ok A) : v.ok A' := by
 cases v with
 |one c => exact C.gG hs k
 |agg cs => exact jL hs k
theorem SV.gG (hs : ∀ g, A g → A' g) {v : SV} (k : v.ok A) : v.ok A' := by
 cases v with
 |pv u => exact PV.gG hs k
 |tup vs => exact fun u hu => PV.gG hs (k u hu)
 |und => trivial
theorem C.iB (h : Ext A m m') {c : C} (k : c.ok A) : c.v m' = c.v m := by
 cases c with
 |p g o => show Value.pointer (some ⟨m'.b g, o, none⟩) = _; rw [(h g k).1]; rfl
 |sl g o z n => show Value.slice (some ⟨m'.b g, o * z, none⟩) n (m'.cap g - o) = _; rw [(h g k).1, (h g k).2.1]; rfl
 |u j => show (m'.u j).1 = _; rw [(h j k).2.2]; rfl
 |pu j t x =>
  show (match (m'.u j).1 with
   |.slice (some a) _ _ => Value.pointer (some (a.add x.d.toNat))
   |_ => .nilFunc) = _
  rw [(h j k.1).2.2]; rfl
 |pd g o n x => show Value.pointer (some ⟨m'.b g, o + x.d.toNat, none⟩) = _; rw [(h g k.1).1]; rfl
 |_ => rfl
theorem iN (h : Ext A m m') {cs : List C} (k : oks A cs) : vals m' cs = vals m cs := List.map_congr_left fun c hc => C.iB h (k c hc)
theorem PV.iB (h : Ext A m m') {v : PV} (k : v.ok A) : v.v m' = v.v m := by
 cases v with
 |one c => exact C.iB h k
 |agg cs => show Value.agg _ = Value.agg _; rw [iN h k]
theorem SV.iB (h : Ext A m m') {v : SV} (k : v.ok A) : v.v m' = v.v m := by
 cases v with
 |pv u => exact PV.iB h k
 |tup vs =>
  show Value.tuple _ = Value.tuple _
  congr 2
  exact List.map_congr_left fun u hu => PV.iB h (k u hu)
 |und => rfl
theorem xQ (hs : ∀ g, A g → A' g) (h : Ext A m m') {env : Env} {a : Act} (k : Knows A m env a) : Knows A' m' env a := fun t v hv => by
 obtain ⟨o, e⟩ := k t v hv
 exact ⟨SV.gG hs o, e.trans (SV.iB h o).symm⟩
end
def UIn (A : Nat → Prop) (w0 : World) (m : M) (i : Nat) : UI → Prop
 |.clo _ caps => ∀ v ∈ caps, v.ok A
 |.ro k t => ∃ ad c, (m.u i).1 = .slice ad t.u.lst.length c ∧ Kd.C (Kd.int k) w0 ad t.u.lst.length t.u.lst ∧ (∀ x ∈ t.u.lst, k.has x) ∧ (∀ a, ad = some a → 0 < t.u.lst.length → a.block < w0.heap.size) ∧ t.u.lst.length ≤ c
 |.em _ => True
structure kD (w0 : World) (A : Nat → Prop) (m : M) (h : Hp) (w : World) : Prop where
 heap : ∀ g e z wr cs, look h.heap g = some (e, z, wr, cs) → A g ∧ oks A cs ∧ (wr = true → h.ro ≤ g → w0.heap.size ≤ m.b g) ∧ m.cap g ≤ maxLen ∧
  ∃ rest : List Value, w.heap[m.b g]? = some (.cells (vals m cs ++ rest).toArray e (0, 0)) ∧ cs.length + rest.length = m.cap g * z
 us : ∀ i info, look h.us i = some info → A i ∧ mR m i info ∧ UIn A w0 m i info
 inj : ∀ g g' e z cs x, look h.heap g = some (e, z, true, cs) → look h.heap g' = some x → m.b g = m.b g' → g = g'
 nx : ∀ g, A g → g < h.next
 pc : nQ h.pc
 bel : Below w0.heap.size w0 w
structure Rel (w0 : World) (nt : Nat) (A : Nat → Prop) (m : M) (s : St) (a : Act) (w : World) : Prop where
 size : a.tmps.size = nt
 dfr : a.defers = []
 env : Knows A m s.env a
 h : kD w0 A m s.h w
theorem kD.shape {w0 : World} {A : Nat → Prop} {m : M} {h : Hp} {w : World} (r : kD w0 A m h w) : ∀ i info, look h.us i = some info → mR m i info := fun i info hi => (r.us i info hi).2.1
theorem kD.ext {w0 : World} {A : Nat → Prop} {m : M} {h h' : Hp} {w : World} (r : kD w0 A m h w) (e : kC h h') : kD w0 A m h' w :=
 ⟨by rw [e.heap, e.ro]; exact r.heap, by rw [e.us]; exact r.us, by rw [e.heap]; exact r.inj, by rw [e.next]; exact r.nx, e.pc, r.bel⟩
structure Grow (sl : Option Nat) (A A' : Nat → Prop) (m m' : M) (h h' : Hp) : Prop where
 sub : ∀ g, A g → A' g
 new : ∀ g, A' g → A g ∨ h.next ≤ g ∨ sl = some g
 ext : Ext A m m'
 next : h.next ≤ h'.next
 ro : h'.ro = h.ro
 frz : ∀ g, g < h.ro → A g → look h'.heap g = look h.heap g
 us : ∀ i, A i → look h'.us i = look h.us i
 nro : ∀ i k t, look h'.us i = some (.ro k t) → look h.us i = some (.ro k t)
omit [Rho] in
theorem Grow.refl (sl : Option Nat) (A : Nat → Prop) (m : M) (h : Hp) : Grow sl A A m m h h := ⟨fun _ h => h, fun _ h => .inl h, .refl A m, Nat.le_refl _, rfl, fun _ _ _ => rfl, fun _ _ => rfl, fun _ _ _ h => h⟩
theorem Grow.rA (sl : Option Nat) (A : Nat → Prop) (m : M) {h h' : Hp} (e : kC h h') : Grow sl A A m m h h' := ⟨fun _ h => h, fun _ h => .inl h, .refl A m, Nat.le_of_eq e.next.symm, e.ro, fun _ _ _ => by rw [e.heap], fun _ _ => by rw [e.us], fun _ _ _ h => by rw [e.us] at h; exact h⟩
omit [Rho] in
theorem Grow.trans {sl : Option Nat} {A A' A'' : Nat → Prop} {m m' m'' : M} {h h' h'' : Hp} (a : Grow sl A A' m m' h h') (b : Grow sl A' A'' m' m'' h' h'') : Grow sl A A'' m m'' h h'' :=
 ⟨fun g hg => b.sub g (a.sub g hg), fun g hg => by
  rcases b.new g hg with h1 | h1 | h1
  ·exact a.new g h1
  ·exact .inr (.inl (Nat.le_trans a.next h1))
  ·exact .inr (.inr h1), a.ext.trans a.sub b.ext, Nat.le_trans a.next b.next, b.ro.trans a.ro, fun g h1 h2 => (b.frz g (by rw [a.ro]; exact h1) (a.sub g h2)).trans (a.frz g h1 h2), fun i hi => (b.us i (a.sub i hi)).trans (a.us i hi), fun i k t h => a.nro i k t (b.nro i k t h)⟩
omit [Rho] in
theorem Grow.weak {sl : Option Nat} {A A' : Nat → Prop} {m m' : M} {h h' : Hp} (a : Grow none A A' m m' h h') : Grow sl A A' m m' h h' := by
 refine ⟨a.sub, fun g hg => ?_, a.ext, a.next, a.ro, a.frz, a.us, a.nro⟩
 rcases a.new g hg with h1 | h1 | h1
 ·exact .inl h1
 ·exact .inr (.inl h1)
 ·cases h1
theorem kD.grow {w0 : World} {A : Nat → Prop} {m : M} {h : Hp} {w w' : World} (r : kD w0 A m h w) (hb : Below w.heap.size w w') : kD w0 A m h w' :=
 ⟨fun g e z wr cs hg => by
  obtain ⟨a1, a2, a3, a4, rest, a5, a6⟩ := r.heap g e z wr cs hg
  exact ⟨a1, a2, a3, a4, rest, (hb.block _ (blk_lt a5)).trans a5, a6⟩, r.us, r.inj, r.nx, r.pc, below_then r.bel r.bel.size hb⟩
theorem vX {A : Nat → Prop} {w0 : World} {m m' : M} (h : Ext A m m') {i : Nat} {info : UI} (hi : A i) (hs : mR m i info) (hu : UIn A w0 m i info) : mR m' i info := by
 have e : m'.u i = m.u i := (h i hi).2.2
 cases info with
 |clo f caps =>
  show (m'.u i).1 = .func (.func f) #[] (caps.map (PV.v m')).toArray
  rw [e, List.map_congr_left fun v hv => PV.iB h (hu v hv)]; exact hs
 |ro k t => show ∃ a c, (m'.u i).1 = _ ∧ _; rw [e]; exact hs
 |em f => show ∃ a c, (m'.u i).1 = _ ∧ _; rw [e]; exact hs
theorem aAh {A A' : Nat → Prop} {w0 : World} {m m' : M} (hs : ∀ g, A g → A' g) (h : Ext A m m') {i : Nat} {info : UI} (hi : A i) (hu : UIn A w0 m i info) : UIn A' w0 m' i info := by
 have e : m'.u i = m.u i := (h i hi).2.2
 cases info with
 |clo f caps => exact fun v hv => PV.gG hs (hu v hv)
 |ro k t => show ∃ ad c, (m'.u i).1 = _ ∧ _; rw [e]; exact hu
 |em f => trivial
theorem kD.add {w0 : World} {A : Nat → Prop} {m : M} {h h' : Hp} {w w' : World} (r : kD w0 A m h w) {g B cap e z : Nat} {wr : Bool} {cs : List C} {rest : List Value} (hg : ¬ A g) (ho : oks A cs)
  (hh : ∀ j, look h'.heap j = if j = g then some (e, z, wr, cs) else look h.heap j) (hus : h'.us = h.us) (hro : h'.ro = h.ro) (hpc : h'.pc = h.pc) (hnx : h.next ≤ h'.next) (hgn : g < h'.next) (hcap : cap ≤ maxLen)
  (hB : wr = true → w0.heap.size ≤ B) (hw : w'.heap[B]? = some (.cells (vals m cs ++ rest).toArray e (0, 0))) (hl : cs.length + rest.length = cap * z)
  (hold : ∀ j x, look h.heap j = some x → w'.heap[m.b j]? = w.heap[m.b j]? ∧ (wr = true ∨ x.2.2.1 = true → m.b j ≠ B)) (hbel : Below w0.heap.size w0 w') :
  kD w0 (fun j => A j ∨ j = g) { m with b := fun j => if j = g then B else m.b j, cap := fun j => if j = g then cap else m.cap j } h' w' ∧
   Ext A m { m with b := fun j => if j = g then B else m.b j, cap := fun j => if j = g then cap else m.cap j } := by
 have hne : ∀ j, A j → j ≠ g := fun j hj e => hg (e ▸ hj)
 have hext : Ext A m { m with b := fun j => if j = g then B else m.b j, cap := fun j => if j = g then cap else m.cap j } := fun j hj => ⟨if_neg (hne j hj), if_neg (hne j hj), rfl⟩
 have hs : ∀ j, A j → (A j ∨ j = g) := fun _ h => .inl h
 refine ⟨⟨?_, ?_, ?_, ?_, by rw [hpc]; exact r.pc, hbel⟩, hext⟩
 ·intro j e' z' wr' cs' hj
  rw [hh] at hj
  by_cases c : j = g
  ·rw [if_pos c] at hj
   cases hj
   subst c
   refine ⟨.inr rfl, jL hs ho, fun hw' _ => by simp only [if_true]; exact hB hw', by simp only [if_true]; exact hcap, rest, ?_, by simp only [if_true]; exact hl⟩
   rw [iN hext ho]
   simp only [if_true]
   exact hw
  ·rw [if_neg c] at hj
   obtain ⟨a1, a2, a3, a4, rest', a5, a6⟩ := r.heap j e' z' wr' cs' hj
   have e1 : ({ m with b := fun j => if j = g then B else m.b j, cap := fun j => if j = g then cap else m.cap j } : M).b j = m.b j := if_neg c
   have e2 : ({ m with b := fun j => if j = g then B else m.b j, cap := fun j => if j = g then cap else m.cap j } : M).cap j = m.cap j := if_neg c
   refine ⟨.inl a1, jL hs a2, by rw [e1, hro]; exact a3, by rw [e2]; exact a4, rest', ?_, by rw [e2]; exact a6⟩
   rw [e1, iN hext a2, (hold j _ hj).1]
   exact a5
 ·intro i info hi
  rw [hus] at hi
  obtain ⟨b1, b2, b3⟩ := r.us i info hi
  exact ⟨.inl b1, vX hext b1 b2 b3, aAh hs hext b1 b3⟩
 ·intro j j' e' z' cs' x hj hj' he
  rw [hh] at hj hj'
  by_cases c : j = g
  ·by_cases c' : j' = g
   ·rw [c, c']
   ·rw [if_pos c] at hj
    rw [if_neg c'] at hj'
    cases hj
    have he : B = m.b j' := by simpa only [if_pos c, if_neg c'] using he
    exact absurd he.symm ((hold j' x hj').2 (.inl rfl))
  ·rw [if_neg c] at hj
   by_cases c' : j' = g
   ·have he : m.b j = B := by simpa only [if_neg c, if_pos c'] using he
    exact absurd he ((hold j _ hj).2 (.inr rfl))
   ·rw [if_neg c'] at hj'
    have he : m.b j = m.b j' := by simpa only [if_neg c, if_neg c'] using he
    exact r.inj j j' e' z' cs' x hj hj' he
 ·intro j hj
  rcases hj with hj | rfl
  ·exact Nat.lt_of_lt_of_le (r.nx j hj) hnx
  ·exact hgn
theorem kD.addU {w0 : World} {A : Nat → Prop} {m : M} {h h' : Hp} {w : World} (r : kD w0 A m h w) {g : Nat} {v : { v : Value // v.oneCell' = true }} {info : UI} (hg : ¬ A g)
  (hh : ∀ j, look h'.us j = if j = g then some info else look h.us j) (hhp : h'.heap = h.heap) (hro : h'.ro = h.ro) (hpc : h'.pc = h.pc) (hnx : h.next ≤ h'.next) (hgn : g < h'.next)
  (hsh : mR { m with u := fun j => if j = g then v else m.u j } g info) (hin : UIn A w0 { m with u := fun j => if j = g then v else m.u j } g info) :
  kD w0 (fun j => A j ∨ j = g) { m with u := fun j => if j = g then v else m.u j } h' w ∧ Ext A m { m with u := fun j => if j = g then v else m.u j } := by
 have hne : ∀ j, A j → j ≠ g := fun j hj e => hg (e ▸ hj)
 have hext : Ext A m { m with u := fun j => if j = g then v else m.u j } := fun j hj => ⟨rfl, rfl, if_neg (hne j hj)⟩
 have hs : ∀ j, A j → (A j ∨ j = g) := fun _ h => .inl h
 refine ⟨⟨?_, ?_, ?_, ?_, by rw [hpc]; exact r.pc, r.bel⟩, hext⟩
 ·intro j e' z' wr' cs' hj
  rw [hhp] at hj
  obtain ⟨a1, a2, a3, a4, rest', a5, a6⟩ := r.heap j e' z' wr' cs' hj
  exact ⟨.inl a1, jL hs a2, by rw [hro]; exact a3, a4, rest', by rw [iN hext a2]; exact a5, a6⟩
 ·intro i info' hi
  rw [hh] at hi
  by_cases c : i = g
  ·rw [if_pos c] at hi
   cases hi
   subst c
   refine ⟨.inr rfl, hsh, ?_⟩
   cases info with
   |clo f caps => exact fun v hv => PV.gG hs (hin v hv)
   |ro k t => exact hin
   |em f => trivial
  ·rw [if_neg c] at hi
   obtain ⟨b1, b2, b3⟩ := r.us i info' hi
   exact ⟨.inl b1, vX hext b1 b2 b3, aAh hs hext b1 b3⟩
 ·rw [hhp]; exact r.inj
 ·intro j hj
  rcases hj with hj | rfl
  ·exact Nat.lt_of_lt_of_le (r.nx j hj) hnx
  ·exact hgn
theorem kD.drop {w0 : World} {A : Nat → Prop} {m : M} {h h' : Hp} {w : World} (r : kD w0 A m h w) {g : Nat} (hh : ∀ j, look h'.heap j = if j = g then none else look h.heap j) (hus : h'.us = h.us) (hro : h'.ro = h.ro) (hpc : h'.pc = h.pc) (hnx : h'.next = h.next) : kD w0 A m h' w := by
 have k : ∀ {j x}, look h'.heap j = some x → look h.heap j = some x := by
  intro j x hj
  rw [hh] at hj
  split at hj
  ·cases hj
  ·exact hj
 exact ⟨fun j e z wr cs hj => by rw [hro]; exact r.heap j e z wr cs (k hj), by rw [hus]; exact r.us, fun j j' e z cs x hj hj' he => r.inj j j' e z cs x (k hj) (k hj') he, by rw [hnx]; exact r.nx, by rw [hpc]; exact r.pc, r.bel⟩
theorem kD.write {w0 : World} {A : Nat → Prop} {m : M} {h h' : Hp} {w w' : World} (r : kD w0 A m h w) {g e z : Nat} {cs cs' : List C} {rest : List Value} (hg : look h.heap g = some (e, z, true, cs)) (ho : oks A cs') (hr : h.ro ≤ g)
  (hh : ∀ j, look h'.heap j = if j = g then some (e, z, true, cs') else look h.heap j) (hus : h'.us = h.us) (hro : h'.ro = h.ro) (hpc : h'.pc = h.pc) (hnx : h'.next = h.next) (hl : cs'.length = cs.length)
  (hw0 : w.heap[m.b g]? = some (.cells (vals m cs ++ rest).toArray e (0, 0))) (hl0 : cs.length + rest.length = m.cap g * z)
  (h1 : w'.heap[m.b g]? = some (.cells (vals m cs' ++ rest).toArray e (0, 0))) (h2 : ∀ k, k ≠ m.b g → w'.heap[k]? = w.heap[k]?) (h3 : w'.heap.size = w.heap.size) (h4 : w'.os = w.os ∧ w'.tape = w.tape ∧ w'.output = w.output) :
  kD w0 A m h' w' := by
 obtain ⟨a1, a2, a3, a4, rest0, a5, a6⟩ := r.heap g e z true cs hg
 refine ⟨?_, by rw [hus]; exact r.us, ?_, by rw [hnx]; exact r.nx, by rw [hpc]; exact r.pc, ?_⟩
 ·intro j e' z' wr' q hj
  rw [hh] at hj
  by_cases c : j = g
  ·rw [if_pos c] at hj
   cases hj
   subst c
   exact ⟨a1, ho, by rw [hro]; exact a3, a4, rest, h1, by rw [hl]; exact hl0⟩
  ·rw [if_neg c] at hj
   obtain ⟨b1, b2, b3, b4, rest', b5, b6⟩ := r.heap j e' z' wr' q hj
   refine ⟨b1, b2, by rw [hro]; exact b3, b4, rest', (h2 _ fun he => c ?_).trans b5, b6⟩
   exact (r.inj g j e z cs _ hg hj he.symm).symm
 ·intro j j' e' z' q x hj hj' he
  rw [hh] at hj hj'
  by_cases c : j = g
  ·by_cases c' : j' = g
   ·rw [c, c']
   ·rw [if_neg c'] at hj'
    rw [c] at he
    rw [c]
    exact r.inj g j' e z cs x hg hj' he
  ·rw [if_neg c] at hj
   by_cases c' : j' = g
   ·rw [c'] at he ⊢
    exact (r.inj g j e z cs _ hg hj he.symm).symm
   ·rw [if_neg c'] at hj'
    exact r.inj j j' e' z' q x hj hj' he
 ·have hb := a3 rfl hr
  exact ⟨h4.1.trans r.bel.os, h4.2.1.trans r.bel.tape, h4.2.2.trans r.bel.output, by rw [h3]; exact r.bel.size, fun k hk => (h2 k (by omega)).trans (r.bel.block k hk)⟩
end
section
variable [Rho] {P : Program} {H : vF}
omit [Rho] in
theorem aCA {s : St} {d : Option Nat} {v : SV} {K : KS} (h : stK s d v K = true) : ∃ s', K s' = true ∧ s'.h = s.h ∧ ∀ t, look s'.env t = if d = some t then some v else look s.env t := by
 unfold stK at h
 split at h
 ·next d' =>
  obtain ⟨env, hp⟩ := s
  obtain ⟨e', k1, k2⟩ := xH h
  refine ⟨⟨e', hp⟩, k1, rfl, fun t => ?_⟩
  rw [k2]
  by_cases c : t = d'
  ·rw [if_pos c, if_pos (by rw [c])]
  ·rw [if_neg c, if_neg (fun e => c (Option.some.inj e).symm)]
 ·exact ⟨s, h, rfl, fun t => by simp⟩
theorem kV {A : Nat → Prop} {m : M} {env env' : Env} {a : Act} (hk : Knows A m env a) {d : Option Nat} {nt : Nat} (hs : a.tmps.size = nt) (hd : okD nt d = true) {v : SV} (hv : v.ok A) (he : ∀ t, look env' t = if d = some t then some v else look env t) : Knows A m env' (a.put d (v.v m)) := by
 intro t u hu
 rw [he] at hu
 cases d with
 |none => exact hk t u (by simpa using hu)
 |some d =>
  have hl : d < a.tmps.size := by rw [hs]; exact Nat.le_of_ble_eq_true hd
  show u.ok A ∧ (a.tmps.setIfInBounds d (v.v m)).getD t undef = u.v m
  by_cases c : d = t
  ·subst c
   rw [if_pos rfl] at hu
   cases hu
   exact ⟨hv, by simp [hl]⟩
  ·rw [if_neg (fun e => c (Option.some.inj e))] at hu
   obtain ⟨o, e⟩ := hk t u hu
   refine ⟨o, ?_⟩
   rw [← e]
   simp [Array.getD_eq_getD_getElem?, Array.getElem?_setIfInBounds_ne c]
omit [Rho] in
theorem qD {a : Act} {d : Option Nat} {v : Value} {nt : Nat} (h : a.tmps.size = nt) : (a.put d v).tmps.size = nt := by
 cases d with
 |none => exact h
 |some d => show (a.tmps.setIfInBounds d _).size = nt; rw [Array.size_setIfInBounds]; exact h
omit [Rho] in
theorem uW {a : Act} {d : Option Nat} {v : Value} (h : a.defers = []) : (a.put d v).defers = [] := by
 cases d with
 |none => exact h
 |some d => exact h
def Wp1 (P : Program) (w0 : World) (nt : Nat) (sl : Option Nat) (cm : Bool) (o : Oper) (A : Nat → Prop) (m : M) (s : St) (a : Act) (w : World) (K : KS) : Prop :=
 ∀ (next : Act → World → Prop) (Q : Exit → Act → World → Prop), (∀ s' A' m' a' w', K s' = true → Rel w0 nt A' m' s' a' w' → Grow sl A A' m m' s.h s'.h → (cm = true → iV o.op = false → Below w.heap.size w w') → next a' w') → o.wp P a w next Q
section
variable {w0 : World} {nt : Nat} {sl : Option Nat} {cm : Bool} {o : Oper} {A : Nat → Prop} {m : M} {s : St} {a : Act} {w : World} {K : KS}
theorem finV (hr : Rel w0 nt A m s a w) (hd : okD nt o.dst = true) {A' : Nat → Prop} {m' : M} {s1 : St} {w' : World} (he : s1.env = s.env) (hh : kD w0 A' m' s1.h w') (hg : Grow sl A A' m m' s.h s1.h) {v : SV} (hv : v.ok A')
  (hrun : (execOp a.eval o).run P w = .ok (.value (v.v m')) w') (hb : cm = true → iV o.op = false → Below w.heap.size w w') (hk : stK s1 o.dst v K = true) : Wp1 P w0 nt sl cm o A m s a w K := by
 intro next Q hn
 obtain ⟨s2, k1, k2, k3⟩ := aCA hk
 unfold Oper.wp
 rw [hrun]
 exact hn s2 A' m' _ _ k1 ⟨qD hr.size, uW hr.dfr, kV (xQ hg.sub hg.ext hr.env) hr.size hd hv (by rw [← he]; exact k3), by rw [k2]; exact hh⟩ (by rw [k2]; exact hg) hb
omit [Rho] in
theorem newK_v {sl : Option Nat} {s : St} {d : Option Nat} {e z : Nat} {cs : List C} {v : Nat → C} {K : KS} (h : aCM sl s d e z cs v K = true) : ∃ g s1, stK s1 d (.pv (.one (v g))) K = true ∧ s1.env = s.env ∧ (∀ j, look s1.h.heap j = if j = g then some (e, z, true, cs) else look s.h.heap j) ∧
  s1.h.us = s.h.us ∧ s1.h.ro = s.h.ro ∧ s1.h.pc = s.h.pc ∧ s.h.next ≤ s1.h.next ∧ ((sl = none ∧ g = s.h.next ∧ g < s1.h.next) ∨ (sl = some g ∧ s1.h.next = s.h.next)) := by
 obtain ⟨env, ⟨hp, us, nx, pc, ro⟩⟩ := s
 cases sl with
 |none =>
  have h : iG (Nat.succ nx) (fun nx' => aAN hp nx (e, z, true, cs) fun hp => stK ⟨env, ⟨hp, us, nx', pc, ro⟩⟩ d (.pv (.one (v nx))) K) = true := h
  rw [fO] at h
  obtain ⟨hp', k1, k2⟩ := xH h
  exact ⟨nx, ⟨env, ⟨hp', us, nx + 1, pc, ro⟩⟩, k1, rfl, k2, rfl, rfl, rfl, Nat.le_succ _, .inl ⟨rfl, rfl, Nat.lt_succ_self _⟩⟩
 |some g =>
  have h : (aAN hp g (e, z, true, cs) fun hp => stK ⟨env, ⟨hp, us, nx, pc, ro⟩⟩ d (.pv (.one (v g))) K) = true := h
  obtain ⟨hp', k1, k2⟩ := xH h
  exact ⟨g, ⟨env, ⟨hp', us, nx, pc, ro⟩⟩, k1, rfl, k2, rfl, rfl, rfl, Nat.le_refl _, .inr ⟨rfl, rfl⟩⟩
omit [Rho] in
theorem newU_v {sl : Option Nat} {s : St} {d : Option Nat} {u : UI} {K : KS} (h : newU sl s d u K = true) : ∃ g s1, stK s1 d (.pv (.one (.u g))) K = true ∧ s1.env = s.env ∧ (∀ j, look s1.h.us j = if j = g then some u else look s.h.us j) ∧
  s1.h.heap = s.h.heap ∧ s1.h.ro = s.h.ro ∧ s1.h.pc = s.h.pc ∧ s.h.next ≤ s1.h.next ∧ ((sl = none ∧ g = s.h.next ∧ g < s1.h.next) ∨ (sl = some g ∧ s1.h.next = s.h.next)) := by
 obtain ⟨env, ⟨hp, us, nx, pc, ro⟩⟩ := s
 cases sl with
 |none =>
  have h : iG (Nat.succ nx) (fun nx' => aAN us nx u fun us => stK ⟨env, ⟨hp, us, nx', pc, ro⟩⟩ d (.pv (.one (.u nx))) K) = true := h
  rw [fO] at h
  obtain ⟨hp', k1, k2⟩ := xH h
  exact ⟨nx, ⟨env, ⟨hp, hp', nx + 1, pc, ro⟩⟩, k1, rfl, k2, rfl, rfl, rfl, Nat.le_succ _, .inl ⟨rfl, rfl, Nat.lt_succ_self _⟩⟩
 |some g =>
  have h : (aAN us g u fun us => stK ⟨env, ⟨hp, us, nx, pc, ro⟩⟩ d (.pv (.one (.u g))) K) = true := h
  obtain ⟨hp', k1, k2⟩ := xH h
  exact ⟨g, ⟨env, ⟨hp, hp', nx, pc, ro⟩⟩, k1, rfl, k2, rfl, rfl, rfl, Nat.le_refl _, .inr ⟨rfl, rfl⟩⟩
def aBe (sl : Option Nat) (A : Nat → Prop) (h : Hp) : Prop := ∀ g, sl = some g → ¬ A g ∧ g < h.next
theorem fresh {s1 : St} (hsl : aBe sl A s.h) (hh : kD w0 A m s1.h w) (hg : Grow sl A A m m s.h s1.h) {g nx : Nat} (hn : s1.h.next ≤ nx) (hc : (sl = none ∧ g = s1.h.next ∧ g < nx) ∨ (sl = some g ∧ nx = s1.h.next)) : ¬ A g ∧ g < nx ∧ (s.h.next ≤ g ∨ sl = some g) := by
 rcases hc with ⟨h1, h2, h3⟩ | ⟨h1, h2⟩
 ·exact ⟨fun ha => by have := hh.nx g ha; omega, h3, .inl (by have := hg.next; omega)⟩
 ·obtain ⟨a1, a2⟩ := hsl g h1
  exact ⟨a1, by have := hg.next; omega, .inr h1⟩
theorem finNew {s1 : St} (hr : Rel w0 nt A m s a w) (hsl : aBe sl A s.h) (hd : okD nt o.dst = true) (he : s1.env = s.env) (hh : kD w0 A m s1.h w) (hg : Grow sl A A m m s.h s1.h) {e z cap B : Nat} {cs : List C} {rest : List Value} {v : Nat → C} {V : Value} {w' : World}
  (ho : oks A cs) (hcap : cap ≤ maxLen) (hB : w0.heap.size ≤ B) (hw : w'.heap[B]? = some (.cells (vals m cs ++ rest).toArray e (0, 0))) (hl : cs.length + rest.length = cap * z)
  (hold : ∀ j x, look s1.h.heap j = some x → w'.heap[m.b j]? = w.heap[m.b j]? ∧ m.b j ≠ B) (hbel : Below w0.heap.size w0 w') (hv : ∀ g (m' : M), m'.b g = B → m'.cap g = cap → (v g).v m' = V) (hvo : ∀ g (A' : Nat → Prop), A' g → (v g).ok A')
  (hrun : (execOp a.eval o).run P w = .ok (.value V) w') (hb : cm = true → iV o.op = false → Below w.heap.size w w') (hk : aCM sl s1 o.dst e z cs v K = true) : Wp1 P w0 nt sl cm o A m s a w K := by
 obtain ⟨g, s2, k1, k2, k3, k4, k5, k6, k7, k8⟩ := newK_v hk
 obtain ⟨f1, f2, f3⟩ := fresh hsl hh hg k7 k8
 obtain ⟨r1, r2⟩ := hh.add (wr := true) f1 ho k3 k4 k5 k6 k7 f2 hcap (fun _ => hB) hw hl (fun j x hj => ⟨(hold j x hj).1, fun _ => (hold j x hj).2⟩) hbel
 refine finV hr hd (k2.trans he) r1 ⟨fun j hj => .inl hj, fun j hj => ?_, r2, Nat.le_trans hg.next k7, k5.trans hg.ro, fun j h1 h2 => ?_, fun _ _ => ?_, fun _ _ _ _ => ?_⟩ (v := .pv (.one (v g))) (hvo g _ (.inr rfl)) ?_ hb k1
 ·rcases hj with hj | rfl
  ·exact .inl hj
  ·exact .inr f3
 ·rw [k3, if_neg (fun (hjg : j = g) => f1 (hjg ▸ h2))]
  exact hg.frz j h1 h2
 ·rw [k4]; exact hg.us _ ‹_›
 ·rename_i hq; rw [k4] at hq; exact hg.nro _ _ _ hq
 ·rw [hrun]
  congr 2
  exact (hv g _ (if_pos rfl) (if_pos rfl)).symm
theorem zN {s1 : St} (hr : Rel w0 nt A m s a w) (hsl : aBe sl A s.h) (hd : okD nt o.dst = true) (he : s1.env = s.env) (hh : kD w0 A m s1.h w) (hg : Grow sl A A m m s.h s1.h) {u : UI} (hnr : ∀ k t, u ≠ .ro k t) {V : Value} (h1 : V.oneCell' = true)
  (hsh : ∀ g (m' : M), ¬ A g → (m'.u g).1 = V → Ext A m m' → mR m' g u) (hin : ∀ g (m' : M), ¬ A g → (m'.u g).1 = V → Ext A m m' → UIn A w0 m' g u)
  (hrun : (execOp a.eval o).run P w = .ok (.value V) w) (hk : newU sl s1 o.dst u K = true) : Wp1 P w0 nt sl cm o A m s a w K := by
 obtain ⟨g, s2, k1, k2, k3, k4, k5, k6, k7, k8⟩ := newU_v hk
 obtain ⟨f1, f2, f3⟩ := fresh hsl hh hg k7 k8
 have hext : Ext A m { m with u := fun j => if j = g then (⟨V, h1⟩ : { v : Value // v.oneCell' = true }) else m.u j } := fun j hj => ⟨rfl, rfl, if_neg (fun (hjg : j = g) => f1 (hjg ▸ hj))⟩
 have hu : (({ m with u := fun j => if j = g then (⟨V, h1⟩ : { v : Value // v.oneCell' = true }) else m.u j } : M).u g).1 = V := by simp
 obtain ⟨r1, r2⟩ := hh.addU (v := ⟨V, h1⟩) f1 k3 k4 k5 k6 k7 f2 (hsh g _ f1 hu hext) (hin g _ f1 hu hext)
 refine finV hr hd (k2.trans he) r1 ⟨fun j hj => .inl hj, fun j hj => ?_, r2, Nat.le_trans hg.next k7, k5.trans hg.ro, fun j h1 h2 => ?_, fun _ _ => ?_, fun _ _ _ _ => ?_⟩ (v := .pv (.one (.u g))) (.inr rfl) ?_ (fun _ _ => Below.refl _ _) k1
 ·rcases hj with hj | rfl
  ·exact .inl hj
  ·exact .inr f3
 ·rw [k4]; exact hg.frz j h1 h2
 ·rename_i i hi
  rw [k3, if_neg (fun (hig : i = g) => f1 (hig ▸ hi))]; exact hg.us i hi
 ·rename_i i k t hq
  rw [k3] at hq
  split at hq
  ·cases hq; exact absurd rfl (hnr k t)
  ·exact hg.nro i k t hq
 ·rw [hrun]
  congr 2
  exact hu.symm
theorem sW {s1 : St} (hr : Rel w0 nt A m s a w) (hsl : aBe sl A s.h) (hd : okD nt o.dst = true) (he : s1.env = s.env) (hh : kD w0 A m s1.h w) (hg : Grow sl A A m m s.h s1.h) {e z cap : Nat} {cs : List C} {rest : List Value} {v : Nat → C} {V : Value} {w' : World}
  (ho : oks A cs) (hcap : cap ≤ maxLen) (hw : w'.heap[w.heap.size]? = some (.cells (vals m cs ++ rest).toArray e (0, 0))) (hl : cs.length + rest.length = cap * z)
  (hbw : Below w.heap.size w w') (hv : ∀ g (m' : M), m'.b g = w.heap.size → m'.cap g = cap → (v g).v m' = V) (hvo : ∀ g (A' : Nat → Prop), A' g → (v g).ok A')
  (hrun : (execOp a.eval o).run P w = .ok (.value V) w') (hk : aCM sl s1 o.dst e z cs v K = true) : Wp1 P w0 nt sl cm o A m s a w K := by
 refine finNew hr hsl hd he hh hg ho hcap hh.bel.size hw hl (fun j x hj => ?_) (below_then hh.bel hh.bel.size hbw) hv hvo hrun (fun _ _ => hbw) hk
 obtain ⟨e', z', wr', cs'⟩ := x
 obtain ⟨_, _, _, _, rest', a5, _⟩ := hh.heap j e' z' wr' cs' hj
 have hlt := blk_lt a5
 exact ⟨hbw.block _ hlt, by omega⟩
end
theorem pI {A : Nat → Prop} {m : M} {w0 : World} {t : Nat} {h : Hp} {c : C} {v : PV} {w : World} (hc : c.ok A) (hh : ∀ g e z wr cs, look h.heap g = some (e, z, wr, cs) → oks A cs ∧ ∃ rest : List Value, w.heap[m.b g]? = some (.cells (vals m cs ++ rest).toArray e (0, 0)))
  (hu : ∀ i info, look h.us i = some info → UIn A w0 m i info) (hb : Below w0.heap.size w0 w) (hl : sF P t h c = some v) : v.ok A ∧ (Instr.loadAt t (c.v m)).run P w = .ok (v.v m) w := by
 have cellAt : ∀ (g e o : Nat) (cs : List C) (rest : List Value) (u : C), w.heap[m.b g]? = some (.cells (vals m cs ++ rest).toArray e (0, 0)) → cs[o]? = some u → w.cell? ⟨m.b g, o, none⟩ = some (u.v m) := by
  intro g e o cs rest u hw hu
  rw [cell_of_row w _ _ _ _ _ hw, List.getElem?_toArray, List.getElem?_append_left (by rw [dK]; exact (List.getElem?_eq_some_iff.1 hu).1)]
  unfold vals
  rw [List.getElem?_map, hu]; rfl
 unfold sF at hl
 split at hl
 ·next g o =>
  split at hl
  ·next e z wr cs hg =>
   obtain ⟨ho, rest, hw⟩ := hh g e z wr cs hg
   unfold sH at hl
   split at hl
   ·next h1 =>
    split at hl
    ·next n h2 =>
     split at hl
     ·next q h3 =>
      cases hl
      obtain ⟨rfl, l1, l2⟩ := yD h3
      refine ⟨fun c hc => ho c (List.mem_of_mem_drop (List.mem_of_mem_take hc)), ?_⟩
      have h1 := jE h1 w
      have h2 := gX h2 w
      have hload := run_loadCells_list (P := P) (w := w) ⟨m.b g, o, none⟩ (vals m ((cs.drop o).take n)) (fun j u hj => by
       unfold vals at hj
       rw [List.getElem?_map] at hj
       obtain ⟨d, hd, rfl⟩ := Option.map_eq_some_iff.mp hj
       rw [List.getElem?_take] at hd
       split at hd
       ·rw [List.getElem?_drop] at hd
        rw [add0]
        exact cellAt g e (o + j) cs rest d hw hd
       ·cases hd)
      rw [dK, l2] at hload
      have e1 : (loadVar t ⟨m.b g, o, none⟩).run P w = .ok (.agg (vals m ((cs.drop o).take n)).toArray) w := by
       simp [loadVar, h1, h2, hload]
      simp [Instr.loadAt, Instr.sureAddr, C.v, e1, PV.v]
     ·cases hl
    ·cases hl
   ·next h1 =>
    split at hl
    ·next u h3 =>
     cases hl
     have h3 := nth_v h3
     have h1 := jE h1 w
     have hcell := cellAt g e o cs rest u hw h3
     exact ⟨ho u (List.mem_of_getElem? h3), by simp [Instr.loadAt, Instr.sureAddr, C.v, loadVar, h1, hcell, PV.v]⟩
    ·cases hl
   ·cases hl
  ·cases hl
 ·next g o n j =>
  split at hl
  ·next e z wr cs h1 hg =>
   obtain ⟨ho, rest, hw⟩ := hh g e z wr cs hg
   split at hl
   ·next q h3 =>
    obtain ⟨rfl, l1, l2⟩ := yD h3
    split at hl
    ·next k u h4 =>
     cases hl
     obtain ⟨_, j0, j1⟩ := hc
     have pk : ∀ (q : List C) (i : Nat) (k : IntKind) (u : Tm), pick j i q = some (k, u) → (∀ c ∈ q, c.ok A) → (i : Int) ≤ j.d → j.d < (i : Int) + q.length → k.has u.d ∧ ∃ c, q[j.d.toNat - i]? = some c ∧ c.v m = .int k u.d := by
      intro q
      induction q with
      |nil => intro i k u hp; cases hp
      |cons c r ih =>
       intro i k u hp hok hi hj
       have hc0 := hok c (List.mem_cons_self ..)
       have gen : ∀ (kc : IntKind) (tc : Tm), c = .i kc tc → (match pick j (Nat.succ i) r with
         |some (k', u) => cnd (Nat.beq (jA kc) (jA k')) (some (kc, Tm.pk j i tc u)) none
         |none => none) = some (k, u) → k.has u.d ∧ ∃ d, (c :: r)[j.d.toNat - i]? = some d ∧ d.v m = .int k u.d := by
        clear hp
        intro kc tc hce hq
        subst hce
        split at hq
        ·next k' u' hp' =>
         obtain ⟨h5, h6⟩ := gF hq
         have hk := jG h5
         cases h6
         rw [Tm.pk_d]
         by_cases c0 : j.d = i
         ·rw [if_pos c0]
          exact ⟨hc0, .i _ _, by rw [c0]; simp, rfl⟩
         ·rw [if_neg c0]
          obtain ⟨q1, d, q2, q3⟩ := ih (i + 1) k' u' hp' (fun d hd => hok d (List.mem_cons_of_mem _ hd)) (by push_cast; omega) (by rw [List.length_cons] at hj; push_cast at hj ⊢; omega)
          subst hk
          refine ⟨q1, d, ?_, q3⟩
          rw [show j.d.toNat - i = (j.d.toNat - (i + 1)) + 1 by omega, List.getElem?_cons_succ]; exact q2
        ·cases hq
       cases r with
       |nil =>
        cases c with
        |i kc tc =>
         cases hp
         refine ⟨hc0, .i _ _, ?_, rfl⟩
         rw [show j.d.toNat - i = 0 by simp at hj; omega]; rfl
        |_ => cases hp
       |cons d r =>
        cases c with
        |i kc tc => exact gen kc tc rfl hp
        |_ => cases hp
     obtain ⟨p1, d, p2, p3⟩ := pk _ 0 k u h4 (fun c hc => ho c (List.mem_of_mem_drop (List.mem_of_mem_take hc))) j0 (by rw [l2]; simpa using j1)
     have h1 := jE h1 w
     rw [List.getElem?_take, if_pos (by omega), List.getElem?_drop] at p2
     have hcell : w.cell? ⟨m.b g, o + j.d.toNat, none⟩ = some (.int k u.d) := by rw [← p3]; exact cellAt g e _ cs rest d hw (by simpa using p2)
     exact ⟨p1, by simp [Instr.loadAt, Instr.sureAddr, C.v, loadVar, h1, hcell, PV.v]⟩
    ·cases hl
   ·cases hl
  ·cases hl
 ·next g tl j =>
  split at hl
  ·next k l' h1 hg =>
   obtain ⟨h2, h3⟩ := gF hl
   cases h3
   obtain rfl := Tm.mM h2
   obtain ⟨_, j0, j1⟩ := hc
   obtain ⟨ad, c0, s1, s2, s3, s4⟩ := hu _ _ hg
   have hlen := Kd.C_len s2
   obtain ⟨adr, rfl, hcell⟩ := Kd.at_int s2 j.d j0 j1
   have hx : rd tl.u.lst j.d ∈ tl.u.lst := by
    have hj : j.d.toNat < tl.u.lst.length := by omega
    unfold rd
    rw [List.getD_eq_getElem?_getD, List.getElem?_eq_getElem hj]
    exact List.getElem_mem hj
   have hkx := s3 _ hx
   have hcell' : w.cell? (adr.add j.d.toNat) = some (.int k (rd tl.u.lst j.d)) := by
    have hblk : (adr.add j.d.toNat).block = adr.block := by unfold Addr.add; split <;> rfl
    rw [← hcell]
    exact World.cell?_of_block (by rw [hblk]; exact hb.block _ (s4.1 adr rfl (by omega)))
   have h1 := jE h1 w
   have hv : (C.pu g tl j).v m = .pointer (some (adr.add j.d.toNat)) := by
    show (match (m.u g).1 with
     |.slice (some a) _ _ => Value.pointer (some (a.add j.d.toNat))
     |_ => .nilFunc) = _
    rw [s1]
   refine ⟨?_, ?_⟩
   ·show k.has (Tm.sel k tl j).d
    rw [Tm.sel_d]; exact nI k _
   ·rw [hv]
    have e1 : PV.v m (.one (.i k (.sel k tl j))) = .int k (rd tl.u.lst j.d) := by
     show Value.int k (Tm.sel k tl j).d = _
     rw [Tm.sel_d, kS hkx]
    rw [e1]
    simp [Instr.loadAt, Instr.sureAddr, loadVar, h1, hcell']
  ·cases hl
 ·cases hl
theorem kD.loads {w0 : World} {A : Nat → Prop} {m : M} {h : Hp} {w : World} (r : kD w0 A m h w) : ∀ g e z wr cs, look h.heap g = some (e, z, wr, cs) → oks A cs ∧ ∃ rest : List Value, w.heap[m.b g]? = some (.cells (vals m cs ++ rest).toArray e (0, 0)) := fun g e z wr cs hg => by
 obtain ⟨_, a2, _, _, rest, a5, _⟩ := r.heap g e z wr cs hg
 exact ⟨a2, rest, a5⟩
omit [Rho] in
theorem kU {g e o : Nat} : ∀ (vs : List Value) (i : Nat) (old : List Value) (w : World), w.heap[g]? = some (.cells old.toArray e (0, 0)) → o + i + vs.length ≤ old.length → (∀ v ∈ vs, v.oneCell' = true) →
  ∃ w', (storeCells ⟨g, o, none⟩ vs i).run P w = .ok () w' ∧ w'.heap[g]? = some (.cells (old.take (o + i) ++ (vs ++ old.drop (o + i + vs.length))).toArray e (0, 0)) ∧ (∀ k, k ≠ g → w'.heap[k]? = w.heap[k]?) ∧ w'.heap.size = w.heap.size ∧ w'.os = w.os ∧ w'.tape = w.tape ∧ w'.output = w.output := by
 intro vs
 induction vs with
 |nil =>
  intro i old w hw _ _
  exact ⟨w, by simp [storeCells], by simpa using hw, fun _ _ => rfl, rfl, rfl, rfl, rfl⟩
 |cons v vs ih =>
  intro i old w hw hl h1
  rw [List.length_cons] at hl
  have hi : o + i < old.length := by omega
  have hcell : w.cell? ⟨g, o + i, none⟩ = some old[o + i] := by
   rw [cell_of_row w _ _ _ _ _ hw]; simp [hi]
  have hfz : w.frozen? ⟨g, o + i, none⟩ = false := blk_frozen hw _
  have hset := blk_set hw (o + i) v
  have hset' : (w.setCell ⟨g, o + i, none⟩ v).heap[g]? = some (.cells (old.set (o + i) v).toArray e (0, 0)) := by rw [hset]; simp
  obtain ⟨w', r1, r2, r3, r4, r5⟩ := ih (i + 1) (old.set (o + i) v) _ hset' (by rw [List.length_set]; omega) (fun u hu => h1 u (List.mem_cons_of_mem _ hu))
  refine ⟨w', ?_, ?_, fun k hk => (r3 k hk).trans (Below.heap_setCell w _ v k (by simpa using hk)), ?_, ?_⟩
  ·have hrun := run_store P w ⟨g, o + i, none⟩ v .plain (h1 v (List.mem_cons_self ..))
   rw [hcell] at hrun
   simp only [hfz, Bool.false_eq_true, if_false] at hrun
   simp [storeCells, add0, hrun, r1]
  ·rw [r2]
   congr 3
   rw [show o + (i + 1) = o + i + 1 by omega, List.drop_set_of_lt (by omega), List.take_add_one, List.getElem?_set_self hi, List.take_set_of_le (Nat.le_refl _)]
   simp [Nat.add_assoc, Nat.add_comm 1]
  ·exact r4.trans (by simp)
  ·exact ⟨r5.1.trans (by simp [World.setCell]), r5.2.1.trans (by simp [World.setCell]), r5.2.2.trans (by simp [World.setCell])⟩
end
theorem flat_get {α : Type} (l : List α) : ∀ (n i : Nat), i < n * l.length → (List.replicate n l).flatten[i]? = l[i % l.length]? := by
 intro n
 induction n with
 |zero => intro i h; simp at h
 |succ n ih =>
  intro i h
  rw [List.replicate_succ, List.flatten_cons]
  by_cases c : i < l.length
  ·rw [List.getElem?_append_left c, Nat.mod_eq_of_lt c]
  ·rw [List.getElem?_append_right (by omega), ih _ (by rw [Nat.add_mul] at h; omega), ← Nat.mod_eq_sub_mod (by omega)]
theorem made_v (z : Array Value) (n : Nat) (hz : 0 < z.size) : ((Array.range (n * z.size)).map (z[· % z.size]!)).toList = (List.replicate n z.toList).flatten := by
 apply List.ext_getElem?
 intro i
 by_cases h : i < n * z.size
 ·rw [flat_get _ _ _ (by simpa using h)]
  have hm : i % z.size < z.size := Nat.mod_lt _ hz
  simp [Array.toList_map, h, hm]
 ·rw [List.getElem?_eq_none (by simp; omega), List.getElem?_eq_none (by simp; omega)]
section
variable [Rho] {P : Program} {H : vF}
variable {w0 : World} {nt : Nat} {sl : Option Nat} {cm : Bool} {o : Oper} {A : Nat → Prop} {m : M} {s : St} {a : Act} {w : World} {K : KS}
theorem xU (m : M) (n : Nat) (z : List C) : vals m (List.replicate n z).flatten = (List.replicate n (vals m z)).flatten := by
 unfold vals
 rw [List.map_flatten, List.map_replicate]
omit [Rho] in
theorem aAB (n : Nat) (z : List C) : (List.replicate n z).flatten.length = n * z.length := by
 rw [List.length_flatten, List.map_replicate, List.sum_replicate_nat]
theorem aAE {n : Nat} {z : List C} (h : oks A z) : oks A (List.replicate n z).flatten := by
 intro c hc
 obtain ⟨l, hl, hcl⟩ := List.mem_flatten.1 hc
 rw [List.eq_of_mem_replicate hl] at hcl
 exact h c hcl
theorem PV.zO (m : M) (v : PV) : (v.v m).cells = (vals m v.cells).toArray := by
 cases v with
 |one c => exact C.cells m c
 |agg q => rfl
theorem PV.cells_ok {v : PV} (h : v.ok A) : oks A v.cells := by
 cases v with
 |one c => intro d hd; rw [List.mem_singleton.1 hd]; exact h
 |agg q => exact h
omit [Rho] in
theorem vI {w w' : World} (h : w.grownBy w' none) : Below w.heap.size w w' := ⟨h.os, h.tape, h.output, h.size, fun k hk => h.block k hk (by simp)⟩
theorem oAlloc_v (hr : Rel w0 nt A m s a w) (hsl : aBe sl A s.h) (hd : okD nt o.dst = true) {t : Nat} (ho : o.op = .alloc t) (hk : aBD P sl o.dst s K t = true) : Wp1 P w0 nt sl cm o A m s a w K := by
 unfold aBD at hk
 split at hk
 ·next cs hz =>
  obtain ⟨o0, i0, v0, hi, hz0, hc⟩ := iO m A hz
  refine sW hr hsl hd rfl hr.h (.refl _ _ _ _) (rest := []) (cap := 1) (w' := w.alloc (.cells (vals m cs).toArray t (0, 0))) (v := fun g => .p g 0) (V := .pointer (some ⟨w.heap.size, 0, none⟩)) o0 (by decide) ?_ (by simp) (below_alloc (Below.refl _ _) _) (fun g m' h1 _ => ?_) (fun g A' hg => hg) ?_ hk
  ·rw [List.append_nil]; exact blk_new w _
  ·show Value.pointer (some ⟨m'.b g, 0, none⟩) = _; rw [h1]
  ·obtain ⟨dst, op, ty, pos, after, guard⟩ := o
   simp only at ho
   subst ho
   simp [execOp, Instr.alloc, zeroValue, typeInfo, hi, hz0, newVar, newRow, hc]
 ·cases hk
theorem oBox_v (hr : Rel w0 nt A m s a w) (hsl : aBe sl A s.h) (hd : okD nt o.dst = true) {t : Nat} {x : Operand} (ho : o.op = .box t x) (hk : oBox sl o.dst s K t x = true) : Wp1 P w0 nt sl cm o A m s a w K := by
 unfold oBox at hk
 split at hk
 ·next v hx =>
  obtain ⟨ok, ex⟩ := jB hr.env hx
  have ex' : a.eval x = v.v m := ex
  refine sW hr hsl hd rfl hr.h (.refl _ _ _ _) (rest := []) (cap := 1) (w' := w.alloc (.cells (vals m v.cells).toArray t (0, 0))) (v := fun g => .p g 0) (V := .pointer (some ⟨w.heap.size, 0, none⟩)) (PV.cells_ok ok) (by decide) ?_ (by simp) (below_alloc (Below.refl _ _) _) (fun g m' h1 _ => ?_) (fun g A' hg => hg) ?_ hk
  ·rw [List.append_nil]; exact blk_new w _
  ·show Value.pointer (some ⟨m'.b g, 0, none⟩) = _; rw [h1]
  ·obtain ⟨dst, op, ty, pos, after, guard⟩ := o
   simp only at ho
   subst ho
   simp [execOp, Instr.box, newVar, newRow, ex', PV.zO]
 ·cases hk
theorem oLoad_v (hr : Rel w0 nt A m s a w) (hd : okD nt o.dst = true) {t : Nat} {x : Operand} (ho : o.op = .load t x) (hk : yX P s.h o.dst s K t x = true) : Wp1 P w0 nt sl cm o A m s a w K := by
 unfold yX at hk
 split at hk
 ·next c hx =>
  obtain ⟨ok, ex⟩ := jB hr.env hx
  split at hk
  ·next v hv =>
   obtain ⟨vo, vr⟩ := pI ok hr.h.loads (fun i info hi => (hr.h.us i info hi).2.2) hr.h.bel hv
   refine finV hr hd rfl hr.h (.refl _ _ _ _) (v := .pv v) vo ?_ (fun _ _ => Below.refl _ _) hk
   obtain ⟨dst, op, ty, pos, after, guard⟩ := o
   simp only at ho
   subst ho
   have ex' : a.eval x = c.v m := ex
   exact jX (by rw [ex']; exact vr)
  ·cases hk
 ·cases hk
omit [Rho] in
theorem setH_v {s : St} {g : Nat} {b : Nat × Nat × Bool × List C} {K : KS} (h : setH s g b K = true) : ∃ s', K s' = true ∧ s'.env = s.env ∧ (∀ j, look s'.h.heap j = if j = g then some b else look s.h.heap j) ∧ s'.h.us = s.h.us ∧ s'.h.ro = s.h.ro ∧ s'.h.pc = s.h.pc ∧ s'.h.next = s.h.next := by
 obtain ⟨env, ⟨hp, us, nx, pc, ro⟩⟩ := s
 have h : (aAN hp g b fun hp => K ⟨env, ⟨hp, us, nx, pc, ro⟩⟩) = true := h
 obtain ⟨hp', k1, k2⟩ := xH h
 exact ⟨⟨env, ⟨hp', us, nx, pc, ro⟩⟩, k1, rfl, k2, rfl, rfl, rfl, rfl⟩
omit [Rho] in
theorem delH_v {s : St} {g : Nat} {K : KS} (h : delH s g K = true) : ∃ s', K s' = true ∧ s'.env = s.env ∧ (∀ j, look s'.h.heap j = if j = g then none else look s.h.heap j) ∧ s'.h.us = s.h.us ∧ s'.h.ro = s.h.ro ∧ s'.h.pc = s.h.pc ∧ s'.h.next = s.h.next := by
 obtain ⟨env, ⟨hp, us, nx, pc, ro⟩⟩ := s
 have h : (delK hp g fun hp => K ⟨env, ⟨hp, us, nx, pc, ro⟩⟩) = true := h
 obtain ⟨hp', k1, k2⟩ := xH h
 exact ⟨⟨env, ⟨hp', us, nx, pc, ro⟩⟩, k1, rfl, k2, rfl, rfl, rfl, rfl⟩
theorem oStore_v (hr : Rel w0 nt A m s a w) (hd : okD nt o.dst = true) {t : Nat} {x y : Operand} (ho : o.op = .store t x y) (hk : aCB P o.dst s K t x y = true) : Wp1 P w0 nt sl cm o A m s a w K := by
 unfold aCB at hk
 split at hk
 ·next g ad hx =>
  split at hk
  ·next v hy =>
   obtain ⟨_, ex⟩ := jB hr.env hx
   obtain ⟨oky, ey⟩ := jB hr.env hy
   have ex' : a.eval x = .pointer (some ⟨m.b g, ad, none⟩) := ex
   have ey' : a.eval y = v.v m := ey
   split at hk
   ·next e z cs hg =>
    split at hk
    ·next n hz =>
     obtain ⟨h1, hk⟩ := btf hk
     rw [Bool.and_eq_true] at h1
     have h2 := Nat.eq_of_beq_eq_true h1.1
     have h3 := Nat.le_of_ble_eq_true h1.2
     obtain ⟨hk, hl⟩ := over_v hk
     obtain ⟨s1, k1, k2, k3, k4, k5, k6, k7⟩ := setH_v hk
     obtain ⟨a1, a2, a3, a4, rest, a5, a6⟩ := hr.h.heap g e z true cs hg
     have hvo := PV.cells_ok oky
     obtain ⟨w', r1, r2, r3, r4, r5⟩ := kU (P := P) (o := ad) (vals m v.cells) 0 (vals m cs ++ rest) w a5 (by rw [List.length_append, dK, dK]; omega) (sS m v.cells)
     have hrel : kD w0 A m s1.h w' := hr.h.write (rest := rest) (cs' := cs.take ad ++ (v.cells ++ cs.drop (ad + v.cells.length))) hg (by
       intro c hc
       rcases List.mem_append.1 hc with hc | hc
       ·exact a2 c (List.mem_of_mem_take hc)
       ·rcases List.mem_append.1 hc with hc | hc
        ·exact hvo c hc
        ·exact a2 c (List.mem_of_mem_drop hc)) h3 k3 k4 k5 k6 k7 (by simp only [List.length_append, List.length_take, List.length_drop]; omega) a5 a6 (by
       rw [r2]
       congr 3
       rw [fF, fF, Nat.add_zero, List.take_append_of_le_length (by rw [dK]; omega), dK, List.drop_append_of_le_length (by rw [dK]; omega)]
       unfold vals
       rw [List.map_take, List.map_drop]
       simp [List.append_assoc]) r3 r4 r5
     intro next Q hn
     have hz' := gX hz w
     have hcv : (v.v m).cells.size = n := by rw [PV.zO, List.size_toArray, dK]; exact h2.symm
     have hct : (v.v m).cells.toList = vals m v.cells := by rw [PV.zO]
     have hrun : (execOp a.eval o).run P w = .ok .skip w' := by
      obtain ⟨dst, op, ty, pos, after, guard⟩ := o
      simp only at ho
      subst ho
      simp [execOp, ex', ey', Instr.storeAt, Instr.sureAddr, storeVar, hz', hcv, hct, r1]
     unfold Oper.wp
     rw [hrun]
     obtain ⟨s2, q1, q2, q3⟩ := aCA k1
     refine hn s2 A m _ _ q1 ⟨qD hr.size, uW hr.dfr, kV (v := .und) hr.env hr.size hd trivial (by rw [← k2]; exact q3), by rw [q2]; exact hrel⟩ (by
      rw [q2]
      exact ⟨fun _ h => h, fun _ h => .inl h, .refl A m, Nat.le_of_eq k7.symm, k5, fun j hj _ => by rw [k3, if_neg (by omega)], fun _ _ => by rw [k4], fun _ _ _ h => by rw [k4] at h; exact h⟩) (fun _ hs => by rw [ho] at hs; cases hs)
    ·cases hk
   ·cases hk
  ·cases hk
 ·cases hk
theorem xD (hr : Rel w0 nt A m s a w) (hsl : aBe sl A s.h) (hd : okD nt o.dst = true) {t len : Nat} {ps : Array (Nat × Operand)} (ho : o.op = .buildSlice t len ps) (hk : pG P sl o.dst s K t len ps = true) : Wp1 P w0 nt sl cm o A m s a w K := by
 unfold pG at hk
 split at hk
 ·next e hu =>
  split at hk
  ·next z z0 hz hz0 =>
   obtain ⟨h1, hk⟩ := btf hk
   simp only [Bool.and_eq_true] at h1
   obtain ⟨⟨g1, g2⟩, g3⟩ := h1
   have g1 : 0 < z := Nat.le_of_ble_eq_true g1
   have g2 := Nat.le_of_ble_eq_true g2
   have g3 := Nat.eq_of_beq_eq_true g3
   rw [rep_v] at hk
   obtain ⟨o0, i0, v0, hi, hzi, hc⟩ := iO m A hz0
   obtain ⟨cs, q1, q2, q3, q4⟩ := rH hr.env (pl := fun i => some (i * z, z)) (fun j x hx => by
     rw [List.getElem?_map] at hx
     obtain ⟨y, hy, rfl⟩ := Option.map_eq_some_iff.mp hx
     have hj : y = j := by
      obtain ⟨hlt, he⟩ := List.getElem?_eq_some_iff.1 hy
      rw [List.getElem_range] at he; exact he.symm
     subst hj
     rfl) (aAE o0) hk
   have hlen : cs.length = len * z := by rw [q2, aAB, g3]
   have hsz0 : v0.cells.size = z := by rw [hc, List.size_toArray, dK, g3]
   refine sW hr hsl hd rfl hr.h (.refl _ _ _ _) (rest := []) (cap := len) (w' := w.alloc (.cells (vals m cs).toArray e (0, 0))) (v := fun g => .sl g 0 z len) (V := .slice (some ⟨w.heap.size, 0, none⟩) len len) q3 (by
     have : len ≤ len * z := Nat.le_mul_of_pos_right _ g1
     unfold maxLen; omega) ?_ (by simpa using hlen) (below_alloc (Below.refl _ _) _) (fun g m' h1 h2 => ?_) (fun g A' hg => hg) ?_ q1
   ·rw [List.append_nil]; exact blk_new w _
   ·show Value.slice (some ⟨m'.b g, 0 * z, none⟩) len (m'.cap g - 0) = _; rw [h1, h2]; simp
   ·obtain ⟨dst, op, ty, pos, after, guard⟩ := o
    simp only at ho
    subst ho
    show (do let y ← Instr.buildSlice t len (ps.map fun x => (x.1, a.eval x.2)); pure (Next.value y) : Sem Next).run P w = _
    refine jX ?_
    have hz' := gX hz w
    have hzero : (zeroValue e).run P w = .ok v0 w := by simp [zeroValue, typeInfo, hi, hzi]
    have hbig : ¬ len * z > 2 ^ 24 := by omega
    have hmade : (Array.range (len * z)).map (v0.cells[· % v0.cells.size]!) = (vals m (List.replicate len z0).flatten).toArray := by
     apply Array.ext'
     rw [xU, ← hsz0, made_v _ _ (by omega), hc]
    have hps' : (ps.map fun x => (x.1, a.eval x.2)).toList = ps.toList.map (fun x => (x.1, a.eval x.2)) := by simp
    by_cases h0 : len * z = 0
    ·have hl0 : len = 0 := by rcases Nat.mul_eq_zero.1 h0 with h | h <;> omega
     subst hl0
     have hm0 : vals m (List.replicate 0 z0).flatten = [] := rfl
     rw [hm0] at q4
     simp only [Instr.buildSlice, Sem.run_bind, underlying, run_program, Result.andThen_ok, hu, Sem.run_pure, hz', Sem.run_ite, h0, if_true]
     rw [hps']
     have : (Array.map (fun x => (#[] : Array Value)[x % (#[] : Array Value).size]!) (Array.range 0)) = (#[] : Array Value) := by simp
     rw [this, q4]
     simp [newRow]
    ·simp only [Instr.buildSlice, Sem.run_bind, underlying, run_program, Result.andThen_ok, hu, Sem.run_pure, hz', Sem.run_ite, if_neg hbig, if_neg h0, hzero]
     rw [hps', hmade, q4]
     simp [newRow]
  ·cases hk
 ·cases hk
theorem yE (hH : H.Ok) (hr : Rel w0 nt A m s a w) (hsl : aBe sl A s.h) (hd : okD nt o.dst = true) {t : Nat} {x y : Operand} (ho : o.op = .makeSlice t x y) (hk : rG H P sl o.dst s K t x y = true) : Wp1 P w0 nt sl cm o A m s a w K := by
 unfold rG at hk
 split at hk
 ·next e k1 u k2 u' hu hx hy =>
  obtain ⟨_, ex⟩ := jB hr.env hx
  obtain ⟨_, ey⟩ := jB hr.env hy
  have ex' : a.eval x = .int k1 u.d := ex
  have ey' : a.eval y = .int k2 u'.d := ey
  split at hk
  ·next z z0 ie hz hz0 hie =>
   obtain ⟨h1, e1, f1⟩ := pX hH hr.h.pc hk
   obtain ⟨h2, e2, f2⟩ := pX hH e1.pc f1
   obtain ⟨g0, hk2⟩ := btf f2
   clear hk f1
   simp only [Bool.and_eq_true, decide_eq_true_eq] at g0
   obtain ⟨⟨⟨⟨⟨g1, g2⟩, g3⟩, g4⟩, g5⟩, g6⟩ := g0
   have g2 := uS g2
   have g3 : 0 < z := Nat.le_of_ble_eq_true g3
   have g4 := Nat.eq_of_beq_eq_true g4
   have g5 := Nat.le_of_ble_eq_true g5
   have g6 := Nat.le_of_ble_eq_true g6
   rw [fO, rep_v] at hk2
   obtain ⟨n, hn⟩ : ∃ n : Nat, u.d = n := ⟨u.d.toNat, by omega⟩
   have hn' : u.d.toNat = n := by omega
   rw [hn'] at hk2 g5 g6
   obtain ⟨o0, i0, v0, hi, hzi, hc⟩ := iO m A hz0
   have hii : i0 = ie := by rw [hi] at hie; exact Option.some.inj hie
   subst hii
   have hisz : i0.size = z := by
    obtain ⟨i1, q1, q2⟩ := mW hz
    rw [hi] at q1; cases q1; exact q2
   have hnl : n ≤ n * z := Nat.le_mul_of_pos_right _ g3
   obtain ⟨w', r1, r2, r3⟩ := run_make_full (P := P) w w0.heap.size t e i0 v0 z hu hi hzi hisz k1 k2 n (by omega) (by unfold maxLen; omega) hr.h.bel.size
   have hex := e1.trans e2
   obtain ⟨_, h7⟩ := r2
   rcases h7 with ⟨h7, _⟩ | ⟨g, cap, cur, h7, _, h9, h10, h11, h12, h13⟩
   ·cases h7
   ·injection h7 with h71 h72 h73
    injection h71 with h71
    injection h71 with h71
    subst h73
    subst h71
    have hcur : cur = (vals m (List.replicate n z0).flatten).toArray := by
     apply Array.ext'
     have hsz0 : v0.cells.size = z := by rw [hc, List.size_toArray, dK, g4]
     rw [List.take_of_length_le (by simp [h12])] at h13
     rw [h13, xU]
     unfold madeCells
     rw [← hsz0, made_v _ _ (by omega), hc]
    refine sW (s1 := ⟨s.env, h2⟩) hr hsl hd rfl (hr.h.ext hex) (.rA _ _ _ hex) (rest := []) (cap := n) (w' := w') (z := z) (v := fun g => .sl g 0 z n) (V := .slice (some ⟨w.heap.size, 0, none⟩) n n) (aAE o0) h11 ?_ (by rw [aAB, g4]; simp) (vI r3) (fun g m' h1 h2 => ?_) (fun g A' hg => hg) ?_ hk2
    ·rw [List.append_nil, ← hcur]; exact h9
    ·show Value.slice (some ⟨m'.b g, 0 * z, none⟩) n (m'.cap g - 0) = _; rw [h1, h2]; simp
    ·obtain ⟨dst, op, ty, pos, after, guard⟩ := o
     simp only at ho
     subst ho
     refine jX ?_
     rw [ex', ey', ← g2, hn]
     exact r1
  ·cases hk
 ·cases hk
theorem zG (hr : Rel w0 nt A m s a w) (hsl : aBe sl A s.h) (hd : okD nt o.dst = true) {f : Fn} {first caps : Array Operand} (ho : o.op = .makeFunc f first caps) (hk : uZ sl o.dst s K f first caps = true) : Wp1 P w0 nt sl cm o A m s a w K := by
 unfold uZ at hk
 split at hk
 ·next f =>
  obtain ⟨h1, hk⟩ := btf hk
  have h1 := Nat.eq_of_beq_eq_true h1
  split at hk
  ·next vs hv =>
   obtain ⟨hvo, ex⟩ := vE hr.env hv
   have hfe : first = #[] := Array.size_eq_zero_iff.1 h1
   refine zN (u := .clo f vs) hr hsl hd rfl hr.h (.refl _ _ _ _) (by simp) (V := .func (.func f) #[] (vs.map (PV.v m)).toArray) rfl (fun g m' _ hg he => ?_) (fun g m' _ _ _ => hvo) ?_ hk
   ·show (m'.u g).1 = _
    rw [hg, List.map_congr_left fun v hv => PV.iB he (hvo v hv)]
   ·obtain ⟨dst, op, ty, pos, after, guard⟩ := o
    simp only at ho
    subst ho
    have e2 : caps.map a.eval = (vs.map (PV.v m)).toArray := by apply Array.ext'; rw [Array.toList_map, ex]
    simp [execOp, Instr.makeFunc, hfe, e2]
  ·cases hk
 ·cases hk
end
section
variable [Rho] {P : Program} {H : vF}
variable {w0 : World} {nt : Nat} {sl : Option Nat} {cm : Bool} {o : Oper} {A : Nat → Prop} {m : M} {s : St} {a : Act} {w : World} {K : KS}
theorem lJ (hr : kD w0 A m s.h w) {z z' g o1 n : Nat} {q : List C} (hz : 0 < z) (h : jZ s.h z (.sl g o1 z' n) = some q) :
  z' = z ∧ o1 + n ≤ m.cap g ∧ q.length = n * z ∧ oks A q ∧ m.cap g ≤ maxLen ∧ (∀ j u, (vals m q)[j]? = some u → w.cell? ((⟨m.b g, o1 * z, none⟩ : Addr).add j) = some u) := by
 unfold jZ at h
 obtain ⟨h0, h⟩ := gF h
 have h0 := Nat.eq_of_beq_eq_true h0
 split at h
 ·next e zb wr cs hg =>
  obtain ⟨h1, h⟩ := gF h
  have h1 := Nat.eq_of_beq_eq_true h1
  obtain ⟨a1, a2, a3, a4, rest, a5, a6⟩ := hr.heap g e zb wr cs hg
  obtain ⟨hq, l1, l2⟩ := yD h
  refine ⟨h0.symm, ?_, l2, ?_, a4, ?_⟩
  ·rw [← h1] at a6
   have : (o1 + n) * z ≤ m.cap g * z := by rw [Nat.add_mul]; omega
   exact Nat.le_of_mul_le_mul_right this hz
  ·rw [hq]; exact fun c hc => a2 c (List.mem_of_mem_drop (List.mem_of_mem_take hc))
  ·intro j u hj
   have hjl : j < n * z := by
    have := (List.getElem?_eq_some_iff.1 hj).1
    rw [dK, l2] at this; exact this
   rw [add0, cell_of_row w _ _ _ _ _ a5, List.getElem?_toArray, List.getElem?_append_left (by rw [dK]; omega)]
   rw [hq] at hj
   unfold vals at hj ⊢
   rw [List.getElem?_map, List.getElem?_take, if_pos hjl, List.getElem?_drop] at hj
   rw [List.getElem?_map]
   exact hj
 ·cases h
theorem aBu (hr : kD w0 A m s.h w) {z : Nat} {c : C} (hz : 0 < z) (h : jZ s.h z c = some []) : ∃ b cp, c.v m = .slice b 0 cp := by
 cases c with
 |nil => exact ⟨none, 0, rfl⟩
 |sl g o1 z' n =>
  obtain ⟨_, _, h2, _⟩ := lJ hr hz h
  have : n = 0 := by
   rcases Nat.eq_zero_or_pos n with h | h
   ·exact h
   ·have := Nat.mul_pos h hz; simp at h2; omega
  subst this
  exact ⟨_, _, rfl⟩
 |u g =>
  have h : (match look s.h.us g with
   |some (.em _) => some []
   |_ => none) = some [] := h
  split at h
  ·next f hf =>
   obtain ⟨ad, c0, e1, _⟩ := (hr.us _ _ hf).2.1
   exact ⟨_, _, e1⟩
  ·cases h
 |_ => cases h
theorem aCz (hr : kD w0 A m s.h w) {z : Nat} {c : C} {q : List C} (hz : 0 < z) (h : jZ s.h z c = some q) : ∃ b n cp, c.v m = .slice b n cp ∧ n ≤ cp := by
 cases c with
 |nil => exact ⟨none, 0, 0, rfl, Nat.le_refl _⟩
 |sl g o1 z' n =>
  obtain ⟨_, h1, _⟩ := lJ hr hz h
  exact ⟨_, _, _, rfl, by omega⟩
 |u g =>
  have h : (match look s.h.us g with
   |some (.em _) => some []
   |_ => none) = some q := h
  split at h
  ·next f hf =>
   obtain ⟨ad, c0, e1, _⟩ := (hr.us _ _ hf).2.1
   exact ⟨_, _, _, e1, Nat.zero_le _⟩
  ·cases h
 |_ => cases h
omit [Rho] in
theorem aAb {t ty e : TypeId} {i : TypeInfo} (ht : P.underlying t = some (.slice e)) (hi : P.info? e = some i) (b b' : Option Addr) (n cp cp' : Nat) (hn : n ≤ cp) (w : World) :
  (Builtin.append_ #[t, t] ty #[.slice b n cp, .slice b' 0 cp']).run P w = .ok (.slice b n cp) w := by
 cases b <;> cases b' <;> simp [Builtin.append_, run_underlying ht, sizeOf, typeInfo, hi, Builtin.lenOf, Builtin.firstCells, hn, storeCells, loadCells, loadCellsFrom]
theorem oAppC_v (hr : Rel w0 nt A m s a w) (hsl : aBe sl A s.h) (hd : okD nt o.dst = true) {t ty e z by_ : Nat} {z0 : List C} {ie : TypeInfo} {ca cb : C} (ht : P.underlying t = some (.slice e)) (hz : jH P e = some z) (hz0 : oN P e = some z0) (hie : P.info? e = some ie)
  (hzp : 0 < z) (hzl : z = z0.length) (hby : by_ = ie.bytes) (oka : ca.ok A) (hrun : ∀ V w', (Builtin.append_ #[t, t] ty #[ca.v m, cb.v m]).run P w = .ok V w' → (execOp a.eval o).run P w = .ok (.value V) w') (hst : iV o.op = true) (hk : oAppC sl o.dst s K e z by_ ca cb = true) : Wp1 P w0 nt sl cm o A m s a w K := by
 have hnb : ∀ w', cm = true → iV o.op = false → Below w.heap.size w w' := fun _ _ h => by rw [hst] at h; cases h
 obtain ⟨o0, i0, v0, hi, hzi, hc⟩ := iO m A hz0
 have hii : i0 = ie := by rw [hi] at hie; exact Option.some.inj hie
 subst hii
 have hisz : i0.size = z := by
  obtain ⟨i1, q1, q2⟩ := mW hz
  rw [hi] at q1; cases q1; exact q2
 have hsz0 : v0.cells.size = z := by rw [hc, List.size_toArray, dK, hzl]
 unfold oAppC at hk
 split at hk
 ·next hb =>
  split at hk
  ·next qa ha =>
   obtain ⟨b', cp', e1⟩ := aBu hr.h hzp hb
   obtain ⟨b, n, cp, e2, e3⟩ := aCz hr.h hzp ha
   refine finV hr hd rfl hr.h (.refl _ _ _ _) (v := .pv (.one ca)) oka (hrun _ _ ?_) (hnb _) hk
   rw [e1, e2]
   exact (aAb ht hi b b' n cp cp' e3 w).trans (by rw [← e2]; rfl)
  ·cases hk
 ·next news hnn hb =>
  have h9 := btf hk
  clear hk
  obtain ⟨hs, hk⟩ := h9
  cases cb with
  |sl g' o' z' m' =>
   obtain ⟨hzz, r1, r2, r3, r4, r5⟩ := lJ hr.h hzp hb
   subst hzz
   have hnl : (vals m news).length = m' * z' := by rw [dK]; exact r2
   have h1c := sS m news
   have hm0 : 0 < m' := by
    rcases Nat.eq_zero_or_pos m' with h | h
    ·subst h
     rw [Nat.zero_mul] at r2
     exact absurd (List.eq_nil_of_length_eq_zero r2) hnn
    ·exact h
   have ey : (C.sl g' o' z' m').v m = .slice (some ⟨m.b g', o' * z', none⟩) m' (m.cap g' - o') := rfl
   have made : ∀ (s1 : St) (n : Nat) (olds : List C) (V : Value) (w' : World) (row : Option Nat) (bs : Nat), s1.env = s.env → kD w0 A m s1.h w → Grow sl A A m m s.h s1.h → oks A olds → w0.heap.size ≤ bs → (Builtin.append_ #[t, t] ty #[ca.v m, (C.sl g' o' z' m').v m]).run P w = .ok V w' →
     w'.ownsRow bs e z' V (n + m') (vals m olds ++ vals m news) → w.grownBy w' row → (∀ k, row = some k → w0.heap.size ≤ k) → (V.ownBlock = row ∨ ∃ B, V.ownBlock = some B ∧ w.heap.size ≤ B) → (∀ j x, look s1.h.heap j = some x → m.b j < w.heap.size ∧ some (m.b j) ≠ row) →
     aCM sl s1 o.dst e z' (olds ++ news) (fun g => .sl g 0 z' (n + m')) K = true → Wp1 P w0 nt sl cm o A m s a w K := by
    intro s1 n olds V w' row bs g1 g2 g3 g4 g5 g6 g7 g8 g9 g10 g11 g12
    obtain ⟨q1, q2⟩ := g7
    rcases q2 with ⟨_, q2⟩ | ⟨B, cap, cur, q3, q4, q5, q6, q7, q8, q9⟩
    ·omega
    ·have hcl : (vals m olds ++ vals m news).length ≤ cur.toList.length := by rw [← q9, List.length_take]; omega
     refine finNew (e := e) (z := z') (cap := cap) (B := B) (cs := olds ++ news) (rest := cur.toList.drop ((n + m') * z')) (v := fun g => .sl g 0 z' (n + m')) (V := V) (w' := w') hr hsl hd g1 g2 g3 ?_ q7 (by omega) ?_ ?_ (fun j x hj => ?_) ?_ (fun g m'' h1 h2 => ?_) (fun g A' hg => hg) (hrun _ _ g6) (hnb _) g12
     ·intro c hc
      rcases List.mem_append.1 hc with hc | hc
      ·exact g4 c hc
      ·exact r3 c hc
     ·rw [fF, ← q9, List.take_append_drop]
      exact q5
     ·have h5 : (olds ++ news).length = (n + m') * z' := by
       have := congrArg List.length q9
       rw [List.length_take, List.length_append, dK, dK] at this
       rw [List.length_append, ← this, Array.length_toList, q8, Nat.min_eq_left (Nat.mul_le_mul_right _ q6)]
      rw [h5, List.length_drop, Array.length_toList, q8]
      have := Nat.mul_le_mul_right z' q6
      omega
     ·obtain ⟨x1, x2⟩ := g11 j x hj
      refine ⟨g8.block _ x1 x2, fun hB => ?_⟩
      have hVo : V.ownBlock = some B := by rw [q3]; rfl
      rcases g10 with h | h
      ·rw [hVo] at h
       exact x2 (by rw [hB]; exact h)
      ·obtain ⟨B', h, hle⟩ := h
       rw [hVo] at h
       have := Option.some.inj h
       omega
     ·exact ⟨g8.os.trans g2.bel.os, g8.tape.trans g2.bel.tape, g8.output.trans g2.bel.output, Nat.le_trans g2.bel.size g8.size, fun k hk => (g8.block k (Nat.lt_of_lt_of_le hk g2.bel.size) (fun he => by have := g9 k he.symm; omega)).trans (g2.bel.block k hk)⟩
     ·show Value.slice (some ⟨m''.b g, 0 * z', none⟩) (n + m') (m''.cap g - 0) = V
      rw [h1, h2, q3]; simp
   have trk : ∀ (h' : Hp), kD w0 A m h' w → ∀ j x, look h'.heap j = some x → m.b j < w.heap.size := by
    intro h' hh j x hj
    obtain ⟨e', z', wr', cs'⟩ := x
    obtain ⟨_, _, _, _, rest', a5, _⟩ := hh.heap j e' z' wr' cs' hj
    exact blk_lt a5
   have small : ∀ N : Nat, N * by_ ≤ 1000000000 → N * i0.bytes ≤ 140737488355328 := fun N h => by rw [hby] at h; omega
   split at hk
   ·next g zz n =>
    split at hk
    ·next olds ha =>
     have h9 := btf hk
     clear hk
     obtain ⟨hw, hk⟩ := h9
     have h9 := btf hk
     clear hk
     obtain ⟨hq, hk⟩ := h9
     simp only [Bool.and_eq_true, nSl] at hq hk
     obtain ⟨⟨hq1, hq2⟩, hq3⟩ := hq
     have hq1 := small _ (Nat.le_of_ble_eq_true hq1)
     have hq2 := Nat.le_of_ble_eq_true hq2
     have hq3 := Nat.le_of_ble_eq_true hq3
     obtain ⟨hzz, p1, p2, p3, p4, p5⟩ := lJ hr.h hzp ha
     subst hzz
     unfold canW at hw
     split at hw
     ·next e' zb wr cs hg =>
      simp only [Bool.and_eq_true] at hw
      obtain ⟨⟨hw1, hw2⟩, hw3⟩ := hw
      have hw2 := Nat.eq_of_beq_eq_true hw2
      have hw3 := Nat.eq_of_beq_eq_true hw3
      subst hw1
      subst hw2
      subst hw3
      obtain ⟨a1, a2, a3, a4, rest, a5, a6⟩ := hr.h.heap g e zz true cs hg
      have hbg := a3 rfl hq3
      obtain ⟨s1, k1, k2, k3, k4, k5, k6, k7⟩ := delH_v hk
      rw [cat_v, fO] at k1
      have hh1 := hr.h.drop k3 k4 k5 k6 k7
      have ho5 : olds = cs.take (n * zz) := by
       unfold jZ at ha
       obtain ⟨_, ha⟩ := gF ha
       rw [hg] at ha
       obtain ⟨_, ha⟩ := gF ha
       obtain ⟨h5, _, _⟩ := yD ha
       rw [h5, Nat.zero_mul, List.drop_zero]
      have hown : w.ownsRow w0.heap.size e zz (.slice (some ⟨m.b g, 0, none⟩) n (m.cap g)) n (vals m olds) := by
       refine ⟨by rw [dK]; exact p2, .inr ⟨m.b g, m.cap g, _, rfl, hbg, a5, by omega, a4, by rw [List.size_toArray, List.length_append, dK]; exact a6, ?_⟩⟩
       have hle : n * zz ≤ cs.length := by
        have := congrArg List.length ho5
        rw [p2, List.length_take] at this; omega
       rw [List.toList_toArray, List.take_append_of_le_length (by rw [dK]; exact hle), ho5]
       unfold vals
       rw [List.map_take]
      have ex : (C.sl g 0 zz n).v m = .slice (some ⟨m.b g, 0, none⟩) n (m.cap g) := by show Value.slice (some ⟨m.b g, 0 * zz, none⟩) n (m.cap g - 0) = _; simp
      obtain ⟨V, w', t1, t2, t3, t4, t5⟩ := run_append_own_at (P := P) w w0.heap.size t ty e i0 v0 zz i0.bytes ht hi hzi hisz rfl hsz0 hzp _ n (vals m olds) hown ⟨m.b g', o' * zz, none⟩ m' (m.cap g' - o') (vals m news) hnl r5 h1c (by unfold maxLen; omega) hq1 hr.h.bel.size
      refine made s1 n olds V w' (some (m.b g)) w0.heap.size k2 hh1 ⟨fun _ h => h, fun _ h => .inl h, .refl A m, Nat.le_of_eq k7.symm, k5, fun j hj _ => by rw [k3, if_neg (by omega)], fun _ _ => by rw [k4], fun _ _ _ h => by rw [k4] at h; exact h⟩ p3 (Nat.le_refl _) (by rw [ex]; exact t1) t2 t3 (fun k hk => by cases hk; exact hbg) (t5.imp id fun h => ⟨_, h, Nat.le_refl _⟩) (fun j x hj => ⟨trk _ hh1 j x hj, fun he => ?_⟩) k1
      have hjx := hj
      rw [k3] at hjx
      split at hjx
      ·cases hjx
      ·next hne => exact hne (hr.h.inj g j e zz cs x hg hjx (Option.some.inj he).symm).symm
     ·cases hw
    ·cases hk
   ·have h9 := btf hk
    clear hk
    obtain ⟨hq, hk⟩ := h9
    simp only [Bool.and_eq_true, nSl] at hq hk
    rw [fO] at hk
    have hq1 := small _ (Nat.le_of_ble_eq_true hq.1)
    have hq2 := Nat.le_of_ble_eq_true hq.2
    obtain ⟨V, w', t1, t2, t3, t4, t5⟩ := run_append_own_at (P := P) w w0.heap.size t ty e i0 v0 z' i0.bytes ht hi hzi hisz rfl hsz0 hzp (.slice none 0 0) 0 [] (World.ownsRow_nil w _ e z') ⟨m.b g', o' * z', none⟩ m' (m.cap g' - o') (vals m news) hnl r5 h1c (by unfold maxLen; omega) (by rw [Nat.zero_add]; exact hq1) hr.h.bel.size
    exact made s 0 [] V w' none w0.heap.size rfl hr.h (.refl _ _ _ _) (fun c hc => nomatch hc) (Nat.le_refl _) t1 t2 t3 (fun k hk => by cases hk) (t5.imp id fun h => ⟨_, h, Nat.le_refl _⟩) (fun j x hj => ⟨trk _ hr.h j x hj, by simp⟩) (by rw [Nat.zero_add]; exact hk)
   ·next g =>
    split at hk
    ·next hg =>
     have h9 := btf hk
     clear hk
     obtain ⟨hq, hk⟩ := h9
     simp only [Bool.and_eq_true, nSl] at hq hk
     rw [fO] at hk
     have hq1 := small _ (Nat.le_of_ble_eq_true hq.1)
     have hq2 := Nat.le_of_ble_eq_true hq.2
     obtain ⟨_, ⟨ad, c0, e1, e2⟩, _⟩ := hr.h.us _ _ hg
     have ex : (C.u g).v m = .slice (some ad) 0 0 := by show (m.u g).1 = _; rw [e1, e2 rfl]
     obtain ⟨V, w', t1, t2, t3⟩ := run_append_arg_grows (P := P) w t ty e i0 v0 z' i0.bytes ht hi hzi hisz rfl hsz0 hzp ad 0 0 [] (by simp) (fun j u hj => by simp at hj) ⟨m.b g', o' * z', none⟩ m' (m.cap g' - o') (vals m news) hnl r5 (by omega) (by unfold maxLen; omega) (by rw [Nat.zero_add]; exact hq1)
     have t5 : V.ownBlock = none ∨ ∃ B, V.ownBlock = some B ∧ w.heap.size ≤ B := by
      refine .inr ?_
      obtain ⟨_, h6⟩ := t2
      rcases h6 with ⟨_, h6⟩ | ⟨B, cap, cur, q3, q4, q5, q6, q7, q8, q9⟩
      ·omega
      ·exact ⟨B, by rw [q3]; rfl, q4⟩
     exact made s 0 [] V w' none w.heap.size rfl hr.h (.refl _ _ _ _) (fun c hc => nomatch hc) hr.h.bel.size (by rw [ex]; exact t1) t2 t3 (fun k hk => by cases hk) t5 (fun j x hj => ⟨trk _ hr.h j x hj, by simp⟩) (by rw [Nat.zero_add]; exact hk)
    ·cases hk
   ·cases hk
  |_ => cases hs
 ·cases hk
end
section
variable [Rho] {P : Program} {H : vF}
variable {w0 : World} {nt : Nat} {sl : Option Nat} {cm : Bool} {o : Oper} {A : Nat → Prop} {m : M} {s : St} {a : Act} {w : World} {K : KS}
theorem evI_v (hk : Knows A m s.env a) {x : Operand} {d t : Tm} (h : evI s.env (some x) d = some t) : ∃ k, a.eval x = .int k t.d := by
 unfold evI at h
 split at h
 ·next heq => cases heq
 ·next y hy =>
  cases hy
  split at h
  ·next k u hu =>
   cases h
   obtain ⟨_, e⟩ := jB hk hu
   exact ⟨k, e⟩
  ·cases h
theorem evI_o (hk : Knows A m s.env a) {x : Option Operand} {d t : Tm} (h : evI s.env x d = some t) : (x = none ∧ t = d) ∨ ∃ k, x.map a.eval = some (.int k t.d) := by
 cases x with
 |none => unfold evI at h; cases h; exact .inl ⟨rfl, rfl⟩
 |some x => obtain ⟨k, e⟩ := evI_v hk h; exact .inr ⟨k, by rw [Option.map_some, e]⟩
theorem oSlice_v (hH : H.Ok) (hr : Rel w0 nt A m s a w) (hsl : aBe sl A s.h) (hd : okD nt o.dst = true) {t : Nat} {x : Operand} {lo hi mx : Option Operand} (ho : o.op = .slice t x lo hi mx) (hk : aCI H P sl o.dst s K t x lo hi mx = true) : Wp1 P w0 nt sl cm o A m s a w K := by
 have hex : ∀ V, (Instr.slice t (a.eval x) (lo.map a.eval) (hi.map a.eval) (mx.map a.eval)).run P w = .ok V w → (∃ e, P.underlying t = some (.slice e)) → (execOp a.eval o).run P w = .ok (.value V) w := by
  rintro V hV ⟨e, hu⟩
  obtain ⟨dst, op, ty, pos, after, guard⟩ := o
  simp only at ho
  subst ho
  refine jX ?_
  simp only [Instr.sliceAt, Sem.run_bind, underlying, run_program, Result.andThen_ok, hu, Sem.run_pure]
  exact hV
 unfold aCI at hk
 split at hk
 ·next e hu =>
  split at hk
  ·next z hz =>
   have hz' := gX hz w
   split at hk
   ·next c hx =>
    obtain ⟨okc, ex⟩ := jB hr.env hx
    have ex' : a.eval x = c.v m := ex
    split at hk
    ·next mx =>
     split at hk
     ·next lo' hi' m' h1 h2 =>
      subst_vars
      split at hk
      ·next hh h3 =>
       obtain ⟨k3, e3⟩ := evI_v hr.env h3
       obtain ⟨k2, e2⟩ := evI_v hr.env h2
       have e1 := evI_o hr.env h1
       unfold aCZ at hk
       have h9 := pX hH hr.h.pc hk
       clear hk
       obtain ⟨g1, f1, hk⟩ := h9
       have h9 := pX hH f1.pc hk
       clear hk
       obtain ⟨g2, f2, hk⟩ := h9
       have h9 := pX hH f2.pc hk
       clear hk
       obtain ⟨g3, f3, hk⟩ := h9
       have f0 := f1.trans (f2.trans f3)
       have h9 := btf hk
       clear hk
       obtain ⟨q, hk⟩ := h9
       simp only [Bool.and_eq_true] at q
       have q1 := uS q.1.1
       have q2 := uS q.1.2
       have q3 := uS q.2
       have run0 : ∀ (b : Option Addr) (n cp : Nat), (Instr.slice t (.slice b n cp) (lo.map a.eval) (some (a.eval hi')) (some (a.eval mx))).run P w = .ok (.slice b 0 0) w := by
        intro b n cp
        rw [e3, e2, q2, q3]
        rcases e1 with ⟨e1, _⟩ | ⟨k1, e1⟩
        ·rw [e1]
         simp [Instr.slice, underlying, hu, Instr.sliceBounds, Instr.sliceBound, asIntOf, hz']
        ·rw [e1, q1]
         simp [Instr.slice, underlying, hu, Instr.sliceBounds, Instr.sliceBound, asIntOf, hz']
       split at hk
       ·refine finV (s1 := ⟨s.env, g3⟩) hr hd rfl (hr.h.ext f0) (.rA _ _ _ f0) (v := .pv (.one .nil)) trivial (hex _ ?_ ⟨e, hu⟩) (fun _ _ => Below.refl _ _) hk
        rw [ex']; exact run0 none 0 0
       ·next g o1 zz n =>
        refine zN (s1 := ⟨s.env, g3⟩) (u := .em true) (V := .slice (some ⟨m.b g, o1 * zz, none⟩) 0 0) hr hsl hd rfl (hr.h.ext f0) (.rA _ _ _ f0) (by simp) rfl (fun g' m' _ hg _ => ⟨_, 0, hg, fun _ => rfl⟩) (fun _ _ _ _ _ => trivial) (hex _ ?_ ⟨e, hu⟩) hk
        rw [ex']; exact run0 _ _ _
       ·cases hk
      ·cases hk
     ·cases hk
    ·split at hk
     ·next g o1 z' n =>
      split at hk
      ·next q hq =>
       split at hk
       ·next lo' hi' h1 h2 =>
        have hzp : 0 < z ∨ z = 0 := by omega
        unfold aDe at hk
        have h9 := pX hH hr.h.pc hk
        clear hk
        obtain ⟨g1, f1, hk⟩ := h9
        have h9 := pX hH f1.pc hk
        clear hk
        obtain ⟨g2, f2, hk⟩ := h9
        have f0 := f1.trans f2
        have h9 := btf hk
        clear hk
        obtain ⟨q0, hk⟩ := h9
        simp only [Bool.and_eq_true, decide_eq_true_eq] at q0
        obtain ⟨⟨⟨q1, q2⟩, q3⟩, q4⟩ := q0
        have q4 : 0 < z := Nat.le_of_ble_eq_true q4
        rw [fO, fO] at hk
        obtain ⟨hzz, r1, _⟩ := lJ hr.h q4 hq
        subst hzz
        have ex2 : a.eval x = .slice (some ⟨m.b g, o1 * z', none⟩) n (m.cap g - o1) := ex'
        obtain ⟨l, hl⟩ : ∃ l : Nat, lo'.d = l := ⟨lo'.d.toNat, by omega⟩
        obtain ⟨r, hrr⟩ : ∃ r : Nat, hi'.d = r := ⟨hi'.d.toNat, by omega⟩
        have el := evI_o hr.env h1
        have er := evI_o hr.env h2
        have hlr : l ≤ r := by omega
        have hrn : r ≤ n := by omega
        have hrc : r ≤ m.cap g - o1 := by omega
        have run1 : (Instr.slice t (a.eval x) (lo.map a.eval) (hi.map a.eval) none).run P w = .ok (.slice (some (if m.cap g - o1 = l then ⟨m.b g, o1 * z', none⟩ else (⟨m.b g, o1 * z', none⟩ : Addr).add (l * z'))) (r - l) (m.cap g - o1 - l)) w := by
         rw [ex2]
         have b1 : ∀ k code, (Instr.sliceBound (.int k (r : Int)) (m.cap g - o1) code).run P w = .ok r w := fun k code => by rw [Go.run_sliceBound (h0 := by omega) (h1 := by omega)]; simp
         have b2 : ∀ k code, (Instr.sliceBound (.int k (l : Int)) r code).run P w = .ok l w := fun k code => by rw [Go.run_sliceBound (h0 := by omega) (h1 := by omega)]; simp
         have hfin : ∀ c : Bool, (Value.slice (if m.cap g - o1 = l then some ⟨m.b g, o1 * z', none⟩ else (some (⟨m.b g, o1 * z', none⟩ : Addr)).map (·.add (l * z'))) (r - l) (m.cap g - o1 - l)) = .slice (some (if m.cap g - o1 = l then ⟨m.b g, o1 * z', none⟩ else (⟨m.b g, o1 * z', none⟩ : Addr).add (l * z'))) (r - l) (m.cap g - o1 - l) := fun _ => by split <;> rfl
         rcases el with ⟨el1, el2⟩ | ⟨kl, el⟩
         ·subst el1
          have l0 : l = 0 := by rw [el2, Tm.l_d] at hl; omega
          rcases er with ⟨er1, er2⟩ | ⟨kr, er⟩
          ·subst er1
           have rn : r = n := by rw [er2, Tm.l_d] at hrr; omega
           subst l0
           subst rn
           simp only [Option.map_none, Instr.slice, Instr.sliceBounds, Sem.run_bind, underlying, run_program, Result.andThen_ok, hu, Sem.run_pure, hz']
           rw [← hfin true]
          ·rw [er, hrr]
           subst l0
           simp only [Option.map_none, Instr.slice, Instr.sliceBounds, Sem.run_bind, underlying, run_program, Result.andThen_ok, hu, Sem.run_pure, hz', b1, if_true]
           rw [← hfin true]
         ·rw [el, hl]
          rcases er with ⟨er1, er2⟩ | ⟨kr, er⟩
          ·subst er1
           have rn : r = n := by rw [er2, Tm.l_d] at hrr; omega
           subst rn
           simp only [Option.map_none, Instr.slice, Instr.sliceBounds, Sem.run_bind, underlying, run_program, Result.andThen_ok, hu, Sem.run_pure, hz', b2]
           rw [← hfin true]
          ·rw [er, hrr]
           simp only [Instr.slice, Instr.sliceBounds, Sem.run_bind, underlying, run_program, Result.andThen_ok, hu, Sem.run_pure, hz', b1, b2, if_true]
           rw [← hfin true]
        have hrl : (hi'.d - lo'.d).toNat = r - l := by omega
        have hll : lo'.d.toNat = l := by omega
        rw [hrl, hll] at hk
        rcases bt hk with ⟨c, hk⟩ | ⟨c, hk⟩
        ·have hc : 0 < r - l ∨ l = 0 := by
          rw [Bool.or_eq_true] at c
          rcases c with c | c
          ·exact .inl (Nat.le_of_ble_eq_true c)
          ·have := uS c; exact .inr (by omega)
         refine finV (s1 := ⟨s.env, g2⟩) hr hd rfl (hr.h.ext f0) (.rA _ _ _ f0) (v := .pv (.one (.sl g (o1 + l) z' (r - l)))) okc (hex _ ?_ ⟨e, hu⟩) (fun _ _ => Below.refl _ _) hk
         rw [Option.map_none, run1]
         show _ = Result.ok (Value.slice (some ⟨m.b g, (o1 + l) * z', none⟩) (r - l) (m.cap g - (o1 + l))) w
         rw [Nat.sub_sub, Nat.add_mul]
         split
         ·have : l = 0 := by omega
          subst this; simp
         ·rw [add0]
        ·have h0 : r - l = 0 := by
          rw [Bool.or_eq_false_iff] at c
          rcases Nat.eq_zero_or_pos (r - l) with h | h
          ·exact h
          ·have h5 : Nat.blt 0 (r - l) = true := Nat.ble_eq.mpr h
           rw [h5] at c; cases c.1
         refine zN (s1 := ⟨s.env, g2⟩) (u := .em false) (V := .slice (some (if m.cap g - o1 = l then ⟨m.b g, o1 * z', none⟩ else (⟨m.b g, o1 * z', none⟩ : Addr).add (l * z'))) (r - l) (m.cap g - o1 - l)) hr hsl hd rfl (hr.h.ext f0) (.rA _ _ _ f0) (by simp) rfl
          (fun g' m' _ hg _ => ⟨if m.cap g - o1 = l then ⟨m.b g, o1 * z', none⟩ else (⟨m.b g, o1 * z', none⟩ : Addr).add (l * z'), m.cap g - o1 - l, by rw [hg, h0], fun h => by cases h⟩) (fun _ _ _ _ _ => trivial) (hex _ ?_ ⟨e, hu⟩) hk
         rw [Option.map_none]; exact run1
       ·cases hk
      ·cases hk
     ·cases hk
   ·cases hk
  ·cases hk
 ·cases hk
theorem aBF (hr : Rel w0 nt A m s a w) (hsl : aBe sl A s.h) (hd : okD nt o.dst = true) {args : Array Operand} {ts : Array Nat} (ho : o.op = .call { callee := .builtin .append, args := args, argTypes := ts }) (hk : aAn P sl o.dst s K args.toList ts.toList = true) : Wp1 P w0 nt sl cm o A m s a w K := by
 unfold aAn at hk
 split at hk
 ·next x y t t' hx hts =>
  have h9 := btf hk
  clear hk
  obtain ⟨htt, hk⟩ := h9
  have htt := Nat.eq_of_beq_eq_true htt
  subst htt
  split at hk
  ·next e hu =>
   split at hk
   ·next z z0 ie hz hz0 hie =>
    have h9 := btf hk
    clear hk
    obtain ⟨hq, hk⟩ := h9
    rw [Bool.and_eq_true] at hq
    split at hk
    ·next ca cb hca hcb =>
     obtain ⟨oka, ea⟩ := jB hr.env hca
     obtain ⟨_, eb⟩ := jB hr.env hcb
     have ea' : a.eval x = ca.v m := ea
     have eb' : a.eval y = cb.v m := eb
     refine oAppC_v (ty := o.type) (by_ := ie.bytes) hr hsl hd hu hz hz0 hie (Nat.le_of_ble_eq_true hq.1) (Nat.eq_of_beq_eq_true hq.2) rfl oka (fun V w' hV => ?_) (by rw [ho]; rfl) hk
     have hargs : args = #[x, y] := by rw [← Array.toArray_toList (xs := args), hx]
     have htss : ts = #[t, t] := by rw [← Array.toArray_toList (xs := ts), hts]
     obtain ⟨dst, op, ty, pos, after, guard⟩ := o
     simp only at ho
     subst ho
     subst hargs
     subst htss
     simp [execOp, resolve, invoke, builtin, ea', eb', hV]
    ·cases hk
   ·cases hk
  ·cases hk
 ·cases hk
def rR (P : Program) (call : uA) : Prop := ∀ (f : Nat) (vs : List PV) (h : Hp) (K : KV) (A : Nat → Prop) (m : M) (w w0 : World), kD w0 A m h w → (∀ v ∈ vs, v.ok A) → call f vs h K = true →
 (∃ fn, P.funcs[f]? = some fn ∧ fn.body.isSome = true ∧ (fn.name == "runtime.NumGoroutine") = false) ∧
  Calls P f (vs.map (PV.v m)).toArray w fun e w' => ∃ v A' m' h', K v h' = true ∧ e = .returned (v.v m') ∧ v.ok A' ∧ kD w0 A' m' h' w' ∧ Grow none A A' m m' h h'
theorem calls_v {call : uA} (hc : rR P call) {cm : Bool} {f : Nat} {vs : List PV} {h : Hp} {K : KV} (hr : kD w0 A m h w) (hv : ∀ v ∈ vs, v.ok A) (hk : calls call cm f vs h K = true) :
  (∃ fn, P.funcs[f]? = some fn ∧ fn.body.isSome = true ∧ (fn.name == "runtime.NumGoroutine") = false) ∧
  Calls P f (vs.map (PV.v m)).toArray w fun e w' => ∃ v A' m' h', K v h' = true ∧ e = .returned (v.v m') ∧ v.ok A' ∧ kD w0 A' m' h' w' ∧ Grow none A A' m m' h h' ∧ (cm = true → Below w.heap.size w w') := by
 cases cm with
 |false =>
  obtain ⟨h1, h2⟩ := hc f vs h K A m w w0 hr hv hk
  refine ⟨h1, h2.mono ?_⟩
  rintro e w' ⟨v, A', m', h', q1, q2, q3, q4, q5⟩
  exact ⟨v, A', m', h', q1, q2, q3, q4, q5, fun hh => by cases hh⟩
 |true =>
  obtain ⟨hp, us, nx, pc, ro⟩ := h
  have hk : call f vs ⟨hp, us, nx, pc, nx⟩ (fun v h' => match h' with
   |⟨hp, us, nx, pc, _⟩ => K v ⟨hp, us, nx, pc, ro⟩) = true := hk
  have hr' : kD w A m ⟨hp, us, nx, pc, nx⟩ w := by
   refine ⟨fun g e z wr cs hg => ?_, fun i info hi => ?_, hr.inj, hr.nx, hr.pc, Below.refl _ _⟩
   ·obtain ⟨a1, a2, a3, a4, a5⟩ := hr.heap g e z wr cs hg
    exact ⟨a1, a2, fun _ hle => absurd (hr.nx g a1) (by show ¬ g < nx; have : nx ≤ g := hle; omega), a4, a5⟩
   ·obtain ⟨b1, b2, b3⟩ := hr.us i info hi
    refine ⟨b1, b2, ?_⟩
    cases info with
    |clo f caps => exact b3
    |ro k t =>
     obtain ⟨ad, c, e1, e2, e3, e4⟩ := b3
     exact ⟨ad, c, e1, Kd.C_below e2 hr.bel, e3, fun a ha hz => Nat.lt_of_lt_of_le (e4.1 a ha hz) hr.bel.size, e4.2⟩
    |em f => trivial
  obtain ⟨h1, h2⟩ := hc f vs _ _ A m w w hr' hv hk
  refine ⟨h1, h2.mono ?_⟩
  rintro e w' ⟨v, A', m', h', q1, q2, q3, q4, q5⟩
  obtain ⟨hp', us', nx', pc', ro'⟩ := h'
  have q1 : K v ⟨hp', us', nx', pc', ro⟩ = true := q1
  refine ⟨v, A', m', _, q1, q2, q3, ?_, ?_, fun _ => q4.bel⟩
  ·refine ⟨fun g e z wr cs hg => ?_, fun i info hi => ?_, q4.inj, q4.nx, q4.pc, below_then hr.bel hr.bel.size q4.bel⟩
   ·obtain ⟨a1, a2, a3, a4, a5⟩ := q4.heap g e z wr cs hg
    refine ⟨a1, a2, fun hwr hle => ?_, a4, a5⟩
    rcases q5.new g a1 with h | h | h
    ·have hf := q5.frz g (hr.nx g h) h
     have hg' : look hp g = some (e, z, wr, cs) := by rw [← hf]; exact hg
     have := (hr.heap g e z wr cs hg').2.2.1 hwr hle
     rw [(q5.ext g h).1]; exact this
    ·have h8 := a3 hwr (by show ro' ≤ g; have hro : ro' = nx := q5.ro; have : nx ≤ g := h; omega)
     exact Nat.le_trans hr.bel.size h8
    ·cases h
   ·obtain ⟨b1, b2, b3⟩ := q4.us i info hi
    refine ⟨b1, b2, ?_⟩
    cases info with
    |clo f caps => exact b3
    |ro k t =>
     have hold : look us i = some (.ro k t) := q5.nro i k t hi
     obtain ⟨c1, c2, ad, c, e1, e2, e3, e4⟩ := hr.us i _ hold
     exact ⟨ad, c, by rw [(q5.ext i c1).2.2]; exact e1, e2, e3, e4⟩
    |em f => trivial
  ·exact ⟨q5.sub, q5.new, q5.ext, q5.next, rfl, fun g hg ha => q5.frz g (hr.nx g ha) ha, q5.us, q5.nro⟩
omit [Rho] in
theorem yU {f : Nat} {vs : List Value} {fn : Func} {c : Call} {v : Value} (hcal : ∃ x, c.callee = .value x ∧ a.eval x = v) (hv : ∃ caps : Array Value, v = .func (.func f) #[] caps ∧ (c.args.map a.eval ++ caps).toList = vs) (f1 : P.funcs[f]? = some fn) (f2 : fn.body.isSome = true) (f3 : (fn.name == "runtime.NumGoroutine") = false) {ty : TypeId} :
  (do let d ← resolve a.eval c ty; invoke d.target d.args : Sem Next).run P w = .ok (.enter f vs.toArray) w := by
 obtain ⟨x, hx, he⟩ := hcal
 obtain ⟨caps, rfl, hvs⟩ := hv
 obtain ⟨callee, args, argTypes⟩ := c
 simp only at hx
 subst hx
 have f2' : ¬ fn.body = none := by intro hb; rw [hb] at f2; cases f2
 have f3' : ¬ fn.name = "runtime.NumGoroutine" := by intro hb; rw [hb] at f3; simp at f3
 have e2 : args.map a.eval ++ caps = vs.toArray := by rw [← Array.toArray_toList (xs := args.map a.eval ++ caps), hvs]
 simp [resolve, he, Deferred.ofValue, invoke, callFunc, f1, f3', f2', e2]
theorem aBZ {call : uA} (hc : rR P call) (hr : Rel w0 nt A m s a w) (hd : okD nt o.dst = true) {c : Call} (ho : o.op = .call c) {f : Nat} {vs : List PV} (hv : ∀ v ∈ vs, v.ok A)
  (hen : ∀ fn, P.funcs[f]? = some fn → fn.body.isSome = true → (fn.name == "runtime.NumGoroutine") = false → (do let d ← resolve a.eval c o.type; invoke d.target d.args : Sem Next).run P w = .ok (.enter f (vs.map (PV.v m)).toArray) w)
  (hk : calls call cm f vs s.h (fun v h => stK ⟨s.env, h⟩ o.dst v K) = true) : Wp1 P w0 nt sl cm o A m s a w K := by
 obtain ⟨⟨fn, f1, f2, f3⟩, hcl⟩ := calls_v hc hr.h hv hk
 intro next Q hn
 have hrun : (execOp a.eval o).run P w = .ok (.enter f (vs.map (PV.v m)).toArray) w := by
  have := hen fn f1 f2 f3
  obtain ⟨dst, op, ty, pos, after, guard⟩ := o
  simp only at ho
  subst ho
  exact this
 unfold Oper.wp
 rw [hrun]
 refine hcl.mono ?_
 rintro e w' ⟨v, A', m', h', q1, rfl, q3, q4, q5, q6⟩
 obtain ⟨s2, k1, k2, k3⟩ := aCA q1
 exact hn s2 A' m' _ _ k1 ⟨qD hr.size, uW hr.dfr, kV (xQ q5.sub q5.ext hr.env) hr.size hd q3 k3, by rw [k2]; exact q4⟩ (by rw [k2]; exact q5.weak) (fun hcm _ => q6 hcm)
theorem yP (hH : H.Ok) {call : uA} (hc : rR P call) (hr : Rel w0 nt A m s a w) (hsl : aBe sl A s.h) (hk : aCY H P nt call sl cm o s K = true) : Wp1 P w0 nt sl cm o A m s a w K := by
 unfold aCY at hk
 have h9 := btf hk
 clear hk
 obtain ⟨hd, hk⟩ := h9
 have pur : ∀ (hh : sJ H P o.op s.env s.h (fun v h => stK ⟨s.env, h⟩ o.dst v K) = true), Wp1 P w0 nt sl cm o A m s a w K := by
  intro hh
  obtain ⟨v, h', g1, g2, g3, g4⟩ := tQ (m := m) (A := A) hH hr.env hr.h.pc hr.h.shape hh
  exact finV (s1 := ⟨s.env, h'⟩) hr hd rfl (hr.h.ext g1) (.rA _ _ _ g1) g3 (g4 w) (fun _ _ => Below.refl _ _) g2
 split at hk
 ·next t ho => exact oAlloc_v hr hsl hd ho hk
 ·next t x ho => exact oBox_v hr hsl hd ho hk
 ·next t x ho => exact oLoad_v hr hd ho hk
 ·next t x y ho => exact oStore_v hr hd ho hk
 ·next t len ps ho => exact xD hr hsl hd ho hk
 ·next t x y ho => exact yE hH hr hsl hd ho hk
 ·next f first caps ho => exact zG hr hsl hd ho hk
 ·next t x lo hi mx ho => exact oSlice_v hH hr hsl hd ho hk
 ·next c ho =>
  unfold oCalls at hk
  split at hk
  ·next b hb =>
   obtain ⟨callee, args, argTypes⟩ := c
   simp only at hb
   subst hb
   split at hk
   ·exact aBF hr hsl hd ho hk
   ·next hne =>
    refine pur ?_
    rw [ho]
    exact hk
  ·next x hx =>
   split at hk
   ·next f =>
    unfold oCall at hk
    split at hk
    ·next vs hvs =>
     obtain ⟨hvo, ex⟩ := vE hr.env hvs
     refine aBZ hc hr hd ho hvo (fun fn f1 f2 f3 => yU ⟨.func f, hx, rfl⟩ ⟨#[], rfl, ?_⟩ f1 f2 f3) hk
     simp [ex]
    ·cases hk
   ·next x' =>
    unfold oCallT at hk
    split at hk
    ·next g hg =>
     obtain ⟨_, eg⟩ := hr.env _ _ hg
     split at hk
     ·next f caps hcl =>
      split at hk
      ·next vs hvs =>
       obtain ⟨hvo, ex⟩ := vE hr.env hvs
       obtain ⟨_, hsh, hin⟩ := hr.h.us _ _ hcl
       refine aBZ hc hr hd ho (fun v hv => ?_) (fun fn f1 f2 f3 => yU ⟨.tmp x', hx, rfl⟩ ⟨(caps.map (PV.v m)).toArray, eg.trans hsh, ?_⟩ f1 f2 f3) hk
       ·rcases List.mem_append.1 hv with h | h
        ·exact hvo v h
        ·exact hin v h
       ·simp [ex]
      ·cases hk
     ·cases hk
    ·next f hg =>
     obtain ⟨_, eg⟩ := hr.env _ _ hg
     split at hk
     ·next vs hvs =>
      obtain ⟨hvo, ex⟩ := vE hr.env hvs
      refine aBZ hc hr hd ho hvo (fun fn f1 f2 f3 => yU ⟨.tmp x', hx, rfl⟩ ⟨#[], eg, ?_⟩ f1 f2 f3) hk
      simp [ex]
     ·cases hk
    ·cases hk
   ·cases hk
  ·cases hk
 ·exact pur hk
end
section
variable [Rho] {P : Program} {H : vF}
omit [Rho] in
theorem getD_some {a : Array Value} {t : Nat} {v : Value} (h : a.getD t undef = v) (hv : v ≠ undef) : a[t]? = some v := by
 rw [Array.getD_eq_getD_getElem?] at h
 cases hq : a[t]? with
 |none => rw [hq] at h; exact absurd h.symm hv
 |some u => rw [hq] at h; exact congrArg some h
theorem jU (hH : H.Ok) {w0 : World} {nt : Nat} {ops : Array Oper} {o : Oper} {A : Nat → Prop} {m : M} {s : St} {a : Act} {w : World} {yes no : St → Bool} (hr : Rel w0 nt A m s a w) (h : guarded H ops o s yes no = true) :
  ∃ s', Rel w0 nt A m s' a w ∧ kC s.h s'.h ∧ ((Region.wanted o (yielded ops a.tmps) = true ∧ yes s' = true) ∨ (Region.wanted o (yielded ops a.tmps) = false ∧ no s' = true)) := by
 unfold guarded at h
 split at h
 ·next hg => exact ⟨s, hr, .refl hr.h.pc, .inl ⟨by simp [Region.wanted, hg], h⟩⟩
 ·next j want hg =>
  split at h
  ·cases h
  ·next t ht =>
   have hw : Region.wanted o (yielded ops a.tmps) = ((match a.tmps[t]? with
     |some (.bool b) => some b
     |_ => none) == some want) := by
    have ht' : (ops[j]?).bind (fun x => x.dst) = some t := ht
    simp only [Region.wanted, hg, yielded, ht', Option.bind_some]
    cases a.tmps[t]? with
    |none => rfl
    |some v => cases v <;> rfl
   split at h
   ·next hl =>
    obtain ⟨_, e⟩ := hr.env t _ hl
    refine ⟨s, hr, .refl hr.h.pc, .inr ⟨?_, h⟩⟩
    rw [hw]
    have e' : a.tmps.getD t undef = undef := e
    rw [Array.getD_eq_getD_getElem?] at e'
    cases hq : a.tmps[t]? with
    |none => rfl
    |some u => rw [hq] at e'; have e2 : u = undef := e'; subst e2; rfl
   ·next e hl =>
    obtain ⟨_, eb⟩ := hr.env t _ hl
    have eb' : a.tmps.getD t undef = .bool e.d := eb
    have hq := getD_some eb' (by intro hh; cases hh)
    rw [hq] at hw
    have hw' : Region.wanted o (yielded ops a.tmps) = (e.d == want) := by rw [hw]; rfl
    obtain ⟨h', e1, e2⟩ := qE hH hr.h.pc h
    refine ⟨⟨s.env, h'⟩, ⟨hr.size, hr.dfr, hr.env, hr.h.ext e1⟩, e1, ?_⟩
    rcases e2 with ⟨hd, k⟩ | ⟨hd, k⟩
    ·rw [hw', hd]
     cases want
     ·exact .inr ⟨rfl, k⟩
     ·exact .inl ⟨rfl, k⟩
    ·rw [hw', hd]
     cases want
     ·exact .inl ⟨rfl, k⟩
     ·exact .inr ⟨rfl, k⟩
   ·cases h
theorem lG {w0 : World} {nt : Nat} {o : Oper} {A : Nat → Prop} {m : M} {s : St} {a : Act} {w : World} {K : KS} (hr : Rel w0 nt A m s a w) (h : jS nt o s K = true) :
  ∃ s', K s' = true ∧ s'.h = s.h ∧ Rel w0 nt A m s' (a.put o.dst undef) w := by
 unfold jS at h
 obtain ⟨hd, h1⟩ := btf h
 obtain ⟨s2, k1, k2, k3⟩ := aCA h1
 exact ⟨s2, k1, k2, qD hr.size, uW hr.dfr, kV (v := .und) hr.env hr.size hd trivial k3, by rw [k2]; exact hr.h⟩
theorem Rel.putV {w0 : World} {nt : Nat} {o : Oper} {A : Nat → Prop} {m : M} {s : St} {a : Act} {w : World} {K : KS} {v : SV} {h' : Hp} (hr : Rel w0 nt A m s a w) (hd : okD nt o.dst = true) (he : kC s.h h') (hv : v.ok A) (h : stK ⟨s.env, h'⟩ o.dst v K = true) :
  ∃ s', K s' = true ∧ s'.h = h' ∧ Rel w0 nt A m s' (a.put o.dst (v.v m)) w := by
 obtain ⟨s2, k1, k2, k3⟩ := aCA h
 exact ⟨s2, k1, k2, qD hr.size, uW hr.dfr, kV hr.env hr.size hd hv k3, by rw [k2]; exact hr.h.ext he⟩
variable {call : uA}
theorem zZ (hH : H.Ok) (hc : rR P call) {w0 : World} {nt : Nat} {ops : Array Oper} {Q : Exit → Act → World → Prop} : ∀ {l : List Oper} {s : St} {K : KS} {A : Nat → Prop} {m : M} {a : Act} {w : World}, Rel w0 nt A m s a w → uC H P nt call ops l s K = true →
  (∀ s' A' m' a' w', K s' = true → Rel w0 nt A' m' s' a' w' → Grow none A A' m m' s.h s'.h → Q .normal a' w') → wpList P ops Q l a w := by
 intro l
 induction l with
 |nil =>
  intro s K A m a w hr h hK
  exact hK _ _ _ _ _ h hr (.refl _ _ _ _)
 |cons o l ih =>
  intro s K A m a w hr h hK
  unfold uC at h
  obtain ⟨s', hr', he, hcs⟩ := jU hH hr h
  have hg0 : Grow none A A m m s.h s'.h := .rA _ _ _ he
  unfold wpList
  rcases hcs with ⟨hw, hy⟩ | ⟨hw, hn⟩
  ·rw [if_pos hw]
   refine .inl (yP hH hc hr' (fun g hg => by cases hg) hy _ Q fun s2 A2 m2 a2 w2 k1 k2 k3 _ => ih k2 k1 fun s3 A3 m3 a3 w3 q1 q2 q3 => hK s3 A3 m3 a3 w3 q1 q2 ((hg0.trans k3).trans q3))
  ·rw [if_neg (by rw [hw]; decide)]
   obtain ⟨s2, k1, k2, k3⟩ := lG hr' hn
   refine ih k3 k1 fun s3 A3 m3 a3 w3 q1 q2 q3 => hK s3 A3 m3 a3 w3 q1 q2 (hg0.trans ?_)
   rw [k2] at q3; exact q3
omit [Rho] in
theorem Grow.slot {A A' A'' : Nat → Prop} {m m' m'' : M} {h h' h'' : Hp} {g : Nat} (a : Grow none A A' m m' h h') (b : Grow (some g) A' A'' m' m'' h' h'') (hg : h.next ≤ g) : Grow none A A'' m m'' h h'' :=
 ⟨fun j hj => b.sub j (a.sub j hj), fun j hj => by
  rcases b.new j hj with h1 | h1 | h1
  ·exact a.new j h1
  ·exact .inr (.inl (Nat.le_trans a.next h1))
  ·cases h1; exact .inr (.inl hg), a.ext.trans a.sub b.ext, Nat.le_trans a.next b.next, b.ro.trans a.ro, fun j h1 h2 => (b.frz j (by rw [a.ro]; exact h1) (a.sub j h2)).trans (a.frz j h1 h2), fun i hi => (b.us i (a.sub i hi)).trans (a.us i hi), fun i k t h => a.nro i k t (b.nro i k t h)⟩
omit [Rho] in
theorem nM {op : Op} (h : o9 op = true) : iV op = false := by
 cases op with
 |call c =>
  obtain ⟨callee, args, ts⟩ := c
  cases callee with
  |builtin b => cases b <;> first | rfl | cases h
  |_ => cases h
 |_ => first | rfl | cases h
omit [Rho] in
theorem allB_v {rs : List Nat} {f : Nat → Bool} (h : allB rs f = true) : ∀ i ∈ rs, f i = true := by
 induction rs with
 |nil => intro i hi; cases hi
 |cons j r ih =>
  obtain ⟨h1, h2⟩ := kZ h
  intro i hi
  rcases List.mem_cons.1 hi with rfl | hi
  ·exact h1
  ·exact ih h2 i hi
def Still (w0 : World) (m0 : M) (h0 : Hp) (w : World) : Prop := Below w0.heap.size w0 w ∧ ∀ g e z wr cs, look h0.heap g = some (e, z, wr, cs) → ∃ rest : List Value, w.heap[m0.b g]? = some (.cells (vals m0 cs ++ rest).toArray e (0, 0))
theorem Still.below {w0 : World} {m0 : M} {h0 : Hp} {w w' : World} (h : Still w0 m0 h0 w) (hb : Below w.heap.size w w') : Still w0 m0 h0 w' :=
 ⟨below_then h.1 h.1.size hb, fun g e z wr cs hg => by
  obtain ⟨rest, hw⟩ := h.2 g e z wr cs hg
  exact ⟨rest, (hb.block _ (blk_lt hw)).trans hw⟩⟩
omit [Rho] in
theorem yV : ∀ (i : Nat) (l : List Bool) (K : List Bool → Bool), setB i l K = K (l.set i true)
 |_, [], _ => by simp [setB]
 |0, _ :: _, _ => rfl
 |i + 1, b :: r, K => by rw [setB, yV i r, List.set_cons_succ]
omit [Rho] in
theorem joinB_eq (b : Bool) : wU b = b := by cases b <;> rfl
set_option maxHeartbeats 1000000 in
theorem zL (hH : H.Ok) (hc : rR P call) {w0 : World} {nt : Nat} {ops : Array Oper} {Q : Exit → Act → World → Prop} {B : List Nat} (hT : waitsOk (rtab .any ops).2 B = true) {h0 h0' : Hp} (hh0 : h0'.heap = h0.heap) (huu : h0'.us = h0.us) {A0 : Nat → Prop} {m0 : M} {base : Nat}
  (ho0 : ∀ g e z wr cs, look h0.heap g = some (e, z, wr, cs) → A0 g ∧ oks A0 cs) (hu0 : ∀ i info, look h0.us i = some info → A0 i ∧ UIn A0 w0 m0 i info) (hbase : h0.next ≤ base) (hQ : ∀ c a w, ¬ Q (.panic c) a w) :
  ∀ {f : Nat} {l : Array Bool} {s : St} {K : KS} {A : Nat → Prop} {m : M} {a : Act} {w : World}, l.size = ops.size → Rel w0 nt A m s a w → Grow none A0 A m0 m h0 s.h → (∀ j, j < ops.size → l.getD j true = false → ¬ A (base + j)) → base + ops.size ≤ s.h.next →
  jN H P nt call ops (rtab .any ops) B (dN ops) h0' base f l.toList s K = true →
  ((∀ d ∈ dN ops, l.getD d true = false) → Still w0 m0 h0 w) →
  (∀ s' A' m' a' w', K s' = true → Rel w0 nt A' m' s' a' w' → Grow none A0 A' m0 m' h0 s'.h → Q .normal a' w') →
  wpAnyLast P .any ops Q (Still w0 m0 h0) (dN ops) f l a w := by
 intro f
 induction f with
 |zero =>
  intro l s K A m a w hls hr hG hsl hnx h hS hK
  unfold jN at h
  split at h
  ·next hrd => exact ⟨by rw [ready_eq]; exact hrd, hK _ _ _ _ _ h hr hG⟩
  ·cases h
 |succ f ih =>
  intro l s K A m a w hls hr hG hsl hnx h hS hK
  have slots : ∀ (i : Nat) (A' : Nat → Prop) {sl : Option Nat} {m' : M} {h' : Hp}, Grow sl A A' m m' s.h h' → (sl = none ∨ sl = some (base + i)) → ∀ j, j < ops.size → (l.setIfInBounds i true).getD j true = false → ¬ A' (base + j) := by
   intro i A' sl m' h' hg hs j hj hl hA
   have hne : j ≠ i := by
    intro e
    subst e
    rw [← hls] at hj
    simp [hj] at hl
   rw [getD_set_ne true (Ne.symm hne)] at hl
   rcases hg.new _ hA with h1 | h1 | h1
   ·exact hsl j hj hl h1
   ·omega
   ·rcases hs with hs | hs
    ·rw [hs] at h1; cases h1
    ·rw [hs] at h1
     have := Option.some.inj h1
     omega
  have hlz : ∀ i, (l.setIfInBounds i true).size = ops.size := fun i => by rw [Array.size_setIfInBounds]; exact hls
  unfold jN at h
  simp only [yV, joinB_eq] at h
  split at h
  ·next hrd => exact wpAnyLast_done (by rw [ready_eq]; exact hrd) (hK _ _ _ _ _ h hr hG) _
  ·next hne =>
   split at h
   ·next i hi =>
    have hi' := List.find?_some hi
    simp only [Bool.and_eq_true] at hi'
    obtain ⟨hp, ha⟩ := hi'
    split at h
    ·next o ho =>
     have hany : anyB .any ops l (l.setIfInBounds i true) i = true := any_of rfl (by simpa using ha)
     have hlist : (l.setIfInBounds i true).toList = l.toList.set i true := by simp
     obtain ⟨s', hr', he, hcs⟩ := jU hH hr h
     have hstore : ∀ d ∈ dN ops, d ≠ i := by
      intro d hd hdi
      subst hdi
      unfold dN at hd
      have h5 := (List.mem_filter.1 hd).2
      rw [ho] at h5
      have h6 : o9 o.op = true := by unfold pE at hp; rw [ho] at hp; exact hp
      have h5' : iV o.op = true := h5
      rw [nM h6] at h5'
      cases h5'
     have hS' : (∀ d ∈ dN ops, (l.setIfInBounds i true).getD d true = false) → Still w0 m0 h0 w := by
      intro hd
      refine hS fun d hdm => ?_
      rw [← hd d hdm, getD_set_ne true (Ne.symm (hstore d hdm))]
     rcases hcs with ⟨hw, hy⟩ | ⟨hw, hno⟩
     ·obtain ⟨hd, hy⟩ := btf hy
      obtain ⟨v, h', h1, h2, h3, h4⟩ := tQ (m := m) (A := A) hH hr'.env hr'.h.pc hr'.h.shape hy
      obtain ⟨s2, k1, k2, k3⟩ := hr'.putV hd h1 h3 h2
      have hg2 : Grow none A A m m s.h s2.h := by rw [k2]; exact .rA _ _ _ (he.trans h1)
      refine pure_ (l.setIfInBounds i true) ho rfl hany (fun c a w hq => absurd hq (hQ c _ w)) (.inl ⟨hw, h4⟩) rfl ?_
      exact ih (hlz i) k3 (hG.trans hg2) (slots i A hg2 (.inl rfl)) (by rw [k2, (he.trans h1).next]; exact hnx) (by rw [hlist]; exact k1) hS' hK
     ·obtain ⟨s2, k1, k2, k3⟩ := lG hr' hno
      have hg2 : Grow none A A m m s.h s2.h := by rw [k2]; exact .rA _ _ _ he
      refine pure_ (l.setIfInBounds i true) ho rfl hany (fun c a w hq => absurd hq (hQ c _ w)) (.inr ⟨hw, rfl⟩) rfl ?_
      exact ih (hlz i) k3 (hG.trans hg2) (slots i A hg2 (.inl rfl)) (by rw [k2, he.next]; exact hnx) (by rw [hlist]; exact k1) hS' hK
    ·cases h
   ·next =>
    split at h
    ·next i hi =>
     have hi' := List.find?_some hi
     simp only [Bool.and_eq_true] at hi'
     obtain ⟨⟨hp, ha⟩, hds⟩ := hi'
     have hds' : ∀ d ∈ dN ops, l.getD d true = false := by
      intro d hd
      have := List.all_eq_true.1 hds d hd
      have e : l.toList.getD d true = l.getD d true := (gd l d true).symm
      rw [e] at this
      simpa using this
     have hSw := hS hds'
     split at h
     ·next o ho =>
      have htake : takeB .any ops (dN ops) l (l.setIfInBounds i true) i = true := take_ofW rfl hT (by simpa using ha)
      have hlist : (l.setIfInBounds i true).toList = l.toList.set i true := by simp
      obtain ⟨s', hr', he, hcs⟩ := jU hH hr h
      rcases hcs with ⟨hw, hy⟩ | ⟨hw, hno⟩
      ·obtain ⟨hd, hy⟩ := btf hy
       split at hy
       ·next t x hop =>
        unfold yX at hy
        split at hy
        ·next c hx =>
         split at hy
         ·next v hv =>
          obtain ⟨ok, ex⟩ := jB hr'.env hx
          have ex' : a.eval x = c.v m := ex
          have hval : ∀ w : World, Still w0 m0 h0 w → v.ok A ∧ (execOp a.eval o).run P w = .ok (.value (v.v m)) w := by
           intro w hw
           obtain ⟨q1, q2⟩ := pI (m := m) (w := w) (w0 := w0) (h := h0') ok (fun g e z wr cs hg => by
            rw [hh0] at hg
            obtain ⟨b1, b2⟩ := ho0 g e z wr cs hg
            obtain ⟨rest, hw2⟩ := hw.2 g e z wr cs hg
            refine ⟨jL hG.sub b2, rest, ?_⟩
            rw [(hG.ext g b1).1, iN hG.ext b2]
            exact hw2) (fun i info hi => by
            rw [huu] at hi
            obtain ⟨b1, b2⟩ := hu0 i info hi
            exact aAh hG.sub hG.ext b1 b2) hw.1 hv
           refine ⟨q1, ?_⟩
           obtain ⟨dst, op, ty, pos, after, guard⟩ := o
           simp only at hop
           subst hop
           exact jX (by rw [ex']; exact q2)
          obtain ⟨s2, k1, k2, k3⟩ := Rel.putV (v := .pv v) (h' := s'.h) hr' hd (.refl hr'.h.pc) (hval w hSw).1 hy
          have hg2 : Grow none A A m m s.h s2.h := by rw [k2]; exact .rA _ _ _ he
          refine take_ (v := v.v m) (l.setIfInBounds i true) ho rfl htake (fun c a w hq => absurd hq (hQ c _ w)) (.inl ⟨hw, fun w hw => (hval w hw).2⟩) hSw rfl ?_
          refine ih (hlz i) k3 (hG.trans hg2) (slots i A hg2 (.inl rfl)) (by rw [k2, he.next]; exact hnx) (by rw [hlist]; exact k1) (fun _ => hSw) hK
         ·cases hy
        ·cases hy
       ·cases hy
      ·obtain ⟨s2, k1, k2, k3⟩ := lG hr' hno
       have hg2 : Grow none A A m m s.h s2.h := by rw [k2]; exact .rA _ _ _ he
       refine take_ (l.setIfInBounds i true) ho rfl htake (fun c a w hq => absurd hq (hQ c _ w)) (.inr ⟨hw, rfl⟩) hSw rfl ?_
       exact ih (hlz i) k3 (hG.trans hg2) (slots i A hg2 (.inl rfl)) (by rw [k2, he.next]; exact hnx) (by rw [hlist]; exact k1) (fun _ => hSw) hK
     ·cases h
    ·have hall := allB_v h
     have hready : Region.ready .any ops l = readyT (rtab .any ops).2 l.toList := ready_eq ..
     refine wpAnyLast_all hready hne fun j hj => ?_
     have hjj := hall j hj
     have hun : l.getD j true = false := by
      have h5 := (mem_ready.1 (by rw [hready]; exact hj)).1
      have hlt : j < l.size := by
       rcases Nat.lt_or_ge j l.size with h' | h'
       ·exact h'
       ·rw [Array.getD_eq_getD_getElem?, Array.getElem?_eq_none h'] at h5; cases h5
      rw [Array.getD_eq_getD_getElem?, Array.getElem?_eq_getElem hlt] at h5 ⊢
      exact h5
     split at hjj
     ·next o ho =>
      have hlist : (l.setIfInBounds j true).toList = l.toList.set j true := by simp
      have hjs : j < ops.size := (Array.getElem?_eq_some_iff.1 ho).1
      have hmem : j ∈ dN ops ↔ iV o.op = true := by
       unfold dN
       rw [List.mem_filter, List.mem_range, ho]
       exact ⟨fun hh => hh.2, fun hh => ⟨hjs, hh⟩⟩
      have hSn : ∀ w' : World, (j ∉ dN ops → Below w.heap.size w w') → (∀ d ∈ dN ops, (l.setIfInBounds j true).getD d true = false) → Still w0 m0 h0 w' := by
       intro w' hb hd
       have hnot : j ∉ dN ops := fun hh => by
        have := hd j hh
        rw [← hls] at hjs
        simp [hjs] at this
       exact (hS (fun d hdm => by
        have hne : j ≠ d := fun hh => hnot (by rw [hh]; exact hdm)
        rw [← hd d hdm, getD_set_ne true hne])).below (hb hnot)
      obtain ⟨s', hr', he, hcs⟩ := jU hH hr hjj
      have hge : Grow none A A m m s.h s'.h := .rA _ _ _ he
      unfold wpOp
      rw [ho]
      show if Region.wanted o (yielded ops a.tmps) = true then _ else _
      rcases hcs with ⟨hw, hy⟩ | ⟨hw, hno⟩
      ·rw [if_pos hw]
       refine .inl (yP hH hc hr' (fun g hg => by
        have hg := Option.some.inj hg
        subst hg
        refine ⟨hsl j hjs hun, ?_⟩
        rw [he.next]
        show base + j < _
        omega) hy _ Q fun s2 A2 m2 a2 w2 k1 k2 k3 k4 => ?_)
       have hb' : j ∉ dN ops → Below w.heap.size w w2 := fun hh => k4 rfl (by
        cases hst : iV o.op
        ·rfl
        ·exact absurd (hmem.2 hst) hh)
       have hg2 : Grow (some (base + j)) A A2 m m2 s.h s2.h := (Grow.weak hge).trans k3
       exact ⟨fun hnot hSw => hSw.below (hb' hnot), ih (hlz j) k2 (hG.slot hg2 (by omega)) (slots j A2 hg2 (.inr rfl)) (Nat.le_trans hnx hg2.next) (by rw [hlist]; exact k1) (hSn w2 hb') hK⟩
      ·rw [if_neg (by rw [hw]; decide)]
       obtain ⟨s2, k1, k2, k3⟩ := lG hr' hno
       have hg2 : Grow none A A m m s.h s2.h := by rw [k2]; exact hge
       exact ⟨fun _ hSw => hSw, ih (hlz j) k3 (hG.trans hg2) (slots j A hg2 (.inl rfl)) (by rw [k2, he.next]; exact hnx) (by rw [hlist]; exact k1) (hSn w (fun _ => Below.refl _ _)) hK⟩
     ·cases hjj
end
end Xe
end
end Go.Proofs.YtolpdiifmacdbaaGreat
