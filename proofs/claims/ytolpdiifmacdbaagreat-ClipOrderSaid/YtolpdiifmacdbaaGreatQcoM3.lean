import Derived.Test.YtolpdiifmacdbaaGreatQcoM2
import Derived.Test.YtolpdiifmacdbaaGreatQcoWMore
import Derived.Test.YtolpdiifmacdbaaGreatQcoWTab
import Derived.Test.YtolpdiifmacdbaaGreatQcoWEqStruct
import Derived.ChangeKeysEq
import Derived.LoopN
/- Code, and functions: what the closed reckoner says of them holds. -/
set_option linter.unusedVariables false
set_option linter.unusedSimpArgs false
namespace Go.Proofs.YtolpdiifmacdbaaGreat.Xe
open Go.RowKit Go.Proofs.YtolpdiifmacdbaaGreatW.PrintWords Go.Proofs.YtolpdiifmacdbaaGreatW.PrintLast Go.Proofs.YtolpdiifmacdbaaGreatW.PrintMore
def Out.exit : Out → Exit
 |.nor => .normal
 |.ret => .ret
 |.ex id => .exit id
section
variable [Rho] {P : Program} {H : vE} {call : uG}
def Does (P : Program) (w0 : World) (nt : Nat) (c : Code) (f : St → (Out → St → Bool) → Bool) : Prop :=
 ∀ (s : St) (K : Out → St → Bool) (A : Nat → Prop) (m : M) (a : Act) (w : World) (Q : Exit → Act → World → Prop), Rel w0 nt A m s a w → (∀ c a w, ¬ Q (.panic c) a w) → f s K = true →
  (∀ o s' A' m' a' w', K o s' = true → Rel w0 nt A' m' s' a' w' → Grow none A A' m m' s.h s'.h → Q o.exit a' w') → c.wp P Q a w
theorem aAM {w0 : World} {nt : Nat} {c : Code} {f : St → (Out → St → Bool) → Bool} (hf : Does P w0 nt c f) : ∀ (n : Nat) (s : St) (K : Out → St → Bool) (A : Nat → Prop) (m : M) (a : Act) (w : World) (Q : Exit → Act → World → Prop), Rel w0 nt A m s a w →
  (∀ c a w, ¬ Q (.panic c) a w) → rU f n s K = true → (∀ o s' A' m' a' w', K o s' = true → Rel w0 nt A' m' s' a' w' → Grow none A A' m m' s.h s'.h → Q o.exit a' w') → Code.rounds P c Q n a w := by
 intro n
 induction n with
 |zero => intro s K A m a w Q _ _ h _; cases h
 |succ n ih =>
  intro s K A m a w Q hr hQ h hK
  unfold rU at h
  refine hf s _ A m a w _ hr (fun c a w => hQ c a w) h fun o s' A' m' a' w' ho hr' hg => ?_
  cases o with
  |nor => exact ih s' K A' m' a' w' Q hr' hQ ho fun o s2 A2 m2 a2 w2 k1 k2 k3 => hK o s2 A2 m2 a2 w2 k1 k2 (hg.trans k3)
  |ret => exact hK .ret _ _ _ _ _ ho hr' hg
  |ex id => exact hK (.ex id) _ _ _ _ _ ho hr' hg
theorem evC_v (hH : H.Ok) (hc : oW P call) {w0 : World} {nt n : Nat} : ∀ (c : Code), Does P w0 nt c (evC H P nt call n c) := by
 intro c
 induction c with
 |skip => intro s K A m a w Q hr _ h hK; exact wp_skip (hK .nor _ _ _ _ _ h hr (.refl _ _ _ _))
 |region id ops draw => intro s K A m a w Q hr hQ h hK; exact wP hH hc hr hQ h (fun s' A' m' a' w' h' hr' hg => hK .nor _ _ _ _ _ h' hr' hg)
 |seq x y ihx ihy =>
  intro s K A m a w Q hr hQ h hK
  refine wp_seq (ihx s _ A m a w _ hr (fun c a w => hQ c a w) h fun o s' A' m' a' w' ho hr' hg => ?_)
  cases o with
  |nor => exact ihy s' K A' m' a' w' Q hr' hQ ho fun o s2 A2 m2 a2 w2 k1 k2 k3 => hK o s2 A2 m2 a2 w2 k1 k2 (hg.trans k3)
  |ret => exact hK .ret _ _ _ _ _ ho hr' hg
  |ex id => exact hK (.ex id) _ _ _ _ _ ho hr' hg
 |cond x y z ihy ihz =>
  intro s K A m a w Q hr hQ h hK
  unfold evC at h
  split at h
  ·next e he =>
   obtain ⟨_, eb⟩ := gY hr.env he
   have eb' : a.eval x = .bool e.d := eb
   obtain ⟨h', e1, e2⟩ := nX hH hr.h.pc h
   have hr2 : Rel w0 nt A m ⟨s.env, h'⟩ a w := ⟨hr.size, hr.dfr, hr.env, hr.h.ext e1⟩
   have hg : Grow none A A m m s.h h' := .oU _ _ _ e1
   have hK2 : ∀ o s' A' m' a' w', K o s' = true → Rel w0 nt A' m' s' a' w' → Grow none A A' m m' h' s'.h → Q o.exit a' w' := fun o s2 A2 m2 a2 w2 k1 k2 k3 => hK o s2 A2 m2 a2 w2 k1 k2 (hg.trans k3)
   refine wp_cond_split eb' (fun hd => ?_) (fun hd => ?_)
   ·rcases e2 with ⟨_, k⟩ | ⟨hd2, _⟩
    ·exact ihy _ K A m a w Q hr2 hQ k hK2
    ·rw [hd] at hd2; cases hd2
   ·rcases e2 with ⟨hd2, _⟩ | ⟨_, k⟩
    ·rw [hd] at hd2; cases hd2
    ·exact ihz _ K A m a w Q hr2 hQ k hK2
  ·cases h
 |block id x ih =>
  intro s K A m a w Q hr hQ h hK
  refine wp_block (ih s _ A m a w _ hr (fun c a w => hQ c a w) h fun o s' A' m' a' w' ho hr' hg => ?_)
  cases o with
  |nor => exact hK .nor _ _ _ _ _ ho hr' hg
  |ret => exact hK .ret _ _ _ _ _ ho hr' hg
  |ex j =>
   show if j = id then Q .normal a' w' else Q (.exit j) a' w'
   have ho : cnd (Nat.beq j id) (K .nor s') (K (.ex j) s') = true := ho
   rcases bt ho with ⟨h0, h1⟩ | ⟨h0, h1⟩
   ·rw [if_pos (Nat.eq_of_beq_eq_true h0)]; exact hK .nor _ _ _ _ _ h1 hr' hg
   ·rw [if_neg (Nat.ne_of_beq_eq_false h0)]; exact hK (.ex j) _ _ _ _ _ h1 hr' hg
 |loop x ih =>
  intro s K A m a w Q hr hQ h hK
  exact wp_loop_rounds n (aAM ih n s K A m a w Q hr hQ h hK)
 |exit id => intro s K A m a w Q hr _ h hK; exact wp_exit (hK (.ex id) _ _ _ _ _ h hr (.refl _ _ _ _))
 |ret => intro s K A m a w Q hr _ h hK; exact wp_ret (hK .ret _ _ _ _ _ h hr (.refl _ _ _ _))
 |_ => intro s K A m a w Q hr _ h hK; cases h

omit [Rho] in
def lV (tmps : Array Value) : ResultVar → Sem Value
 |.tmp t => pure (tmps.getD t undef)
 |.cell b t => do loadVar t (← asAddr (tmps.getD b undef))
omit [Rho] in
theorem oQ (fn : Func) (tmps : Array Value) : results fn tmps = (do
  let vs ← fn.results.mapM (lV tmps)
  pure (if h : vs.size = 1 then vs[0] else .tuple vs)) := by
 unfold results
 have : (fun x => match x with
   |ResultVar.tmp t => pure (tmps.getD t undef)
   |ResultVar.cell a t => do loadVar t (← asAddr (tmps.getD a undef))) = lV tmps := by funext x; cases x <;> rfl
 exact congrArg (fun f => (do
  let vs ← fn.results.mapM f
  pure (if h : vs.size = 1 then vs[0] else .tuple vs) : Sem Value)) this
section
variable {w0 : World} {nt : Nat} {A : Nat → Prop} {m : M} {s : St} {a : Act} {w : World}
theorem xG (hr : Rel w0 nt A m s a w) {x : ResultVar} {v : PV} (h : aBa P s x = some v) :
  v.ok A ∧ (lV a.tmps x).run P w = .ok (v.v m) w := by
 cases x with
 |tmp t =>
  have h : (match look s.env t with
   |some (.pv v) => some v
   |_ => none) = some v := h
  split at h
  ·next u hu =>
   cases h
   obtain ⟨o, e⟩ := hr.env t _ hu
   exact ⟨o, by show (pure (a.tmps.getD t undef) : Sem Value).run P w = _; rw [Sem.run_pure, e]; rfl⟩
  ·cases h
 |cell b t =>
  have h : (match look s.env b with
   |some (.pv (.one c)) => pF P t s.h c
   |_ => none) = some v := h
  split at h
  ·next c hc =>
   obtain ⟨o, e⟩ := hr.env b _ hc
   obtain ⟨o1, e1⟩ := nC (w := w) o hr.h.loads (fun i info hi => (hr.h.us i info hi).2.2) hr.h.bel h
   refine ⟨o1, ?_⟩
   have e' : a.tmps.getD b undef = c.v m := e
   have hp : ∃ ad, c.v m = .pointer (some ad) := by
    cases hcv : c.v m with
    |pointer ad =>
     cases ad with
     |some ad => exact ⟨ad, rfl⟩
     |none => rw [hcv] at e1; simp [Instr.loadAt, Instr.sureAddr] at e1
    |_ => rw [hcv] at e1; simp [Instr.loadAt, Instr.sureAddr] at e1
   obtain ⟨ad, had⟩ := hp
   rw [had] at e1 e'
   have e1 : (loadVar t ad).run P w = .ok (v.v m) w := e1
   show (do loadVar t (← asAddr (a.tmps.getD b undef)) : Sem Value).run P w = _
   rw [e']
   exact e1
  ·cases h
theorem uA (hr : Rel w0 nt A m s a w) {xs : List ResultVar} : ∀ {vs : List PV}, l8 P s xs = some vs → (∀ v ∈ vs, v.ok A) ∧ (xs.mapM (lV a.tmps)).run P w = .ok (vs.map (PV.v m)) w := by
 induction xs with
 |nil => intro vs h; cases h; exact ⟨(fun v hv => nomatch hv), by simp⟩
 |cons x r ih =>
  intro vs h
  unfold l8 at h
  split at h
  ·next v ws h1 h2 =>
   cases h
   obtain ⟨o, e⟩ := xG hr h1
   obtain ⟨o', e'⟩ := ih h2
   refine ⟨fun u hu => ?_, ?_⟩
   ·rcases List.mem_cons.1 hu with rfl | hu
    ·exact o
    ·exact o' u hu
   ·rw [List.mapM_cons, Sem.run_bind, e]
    simp only [Result.andThen_ok, Sem.run_bind, e', Sem.run_pure, List.map_cons]
  ·cases h
theorem xS (hr : Rel w0 nt A m s a w) {fn : Func} {v : SV} (h : rD P fn s = some v) : v.ok A ∧ (results fn a.tmps).run P w = .ok (v.v m) w := by
 unfold rD at h
 have hrun : ∀ vs, l8 P s fn.results.toList = some vs → (∀ v ∈ vs, v.ok A) ∧ (results fn a.tmps).run P w = .ok (if h : (vs.map (PV.v m)).toArray.size = 1 then (vs.map (PV.v m)).toArray[0] else .tuple (vs.map (PV.v m)).toArray) w := by
  intro vs hvs
  obtain ⟨o, e⟩ := uA hr hvs
  refine ⟨o, ?_⟩
  have e2 : (fn.results.mapM (lV a.tmps)).run P w = .ok (vs.map (PV.v m)).toArray w := by
   rw [Array.mapM_eq_mapM_toList]
   simp [e]
  rw [oQ, Sem.run_bind, e2]
  rfl
 split at h
 ·next u hu =>
  cases h
  obtain ⟨o, e⟩ := hrun _ hu
  exact ⟨o u (List.mem_cons_self ..), by rw [e]; rfl⟩
 ·next vs hne hu =>
  cases h
  obtain ⟨o, e⟩ := hrun _ hu
  refine ⟨o, ?_⟩
  rw [e, dif_neg]
  ·rfl
  ·intro hl
   match vs, hl, hne with
   |[u], _, hne => exact hne u rfl
 ·cases h
end
omit [Rho] in
theorem argE_v {K : Env → Bool} : ∀ {vs : List PV} {i : Nat} {en : Env}, argE vs i en K = true → ∃ en', K en' = true ∧ ∀ t v, look en' t = some v → (∃ u, i ≤ t ∧ vs[t - i]? = some u ∧ v = .pv u) ∨ look en t = some v := by
 intro vs
 induction vs with
 |nil => intro i en h; exact ⟨en, h, fun t v hv => .inr hv⟩
 |cons u r ih =>
  intro i en h
  unfold argE at h
  obtain ⟨e1, k1, k2⟩ := tK h
  obtain ⟨e2, k3, k4⟩ := ih k1
  refine ⟨e2, k3, fun t v hv => ?_⟩
  rcases k4 t v hv with ⟨x, h1, h2, h3⟩ | h1
  ·refine .inl ⟨x, by omega, ?_, h3⟩
   rw [show t - i = (t - (i + 1)) + 1 by omega, List.getElem?_cons_succ]; exact h2
  ·rw [k2] at h1
   by_cases c : t = i
   ·rw [if_pos c] at h1
    cases h1
    exact .inl ⟨u, by omega, by rw [c]; simp, rfl⟩
   ·rw [if_neg c] at h1; exact .inr h1
def nR (P : Program) (f : Nat) (c : Fc) : Prop := ∀ (vs : List PV) (h : Hp) (K : KV) (A : Nat → Prop) (m : M) (w w0 : World), jH w0 A m h w → (∀ v ∈ vs, v.ok A) → c vs h K = true →
 (∃ fn, P.funcs[f]? = some fn ∧ fn.body.isSome = true ∧ (fn.name == "runtime.NumGoroutine") = false) ∧
  Calls P f (vs.map (PV.v m)).toArray w fun e w' => ∃ v A' m' h', K v h' = true ∧ e = .returned (v.v m') ∧ v.ok A' ∧ jH w0 A' m' h' w' ∧ Grow none A A' m m' h h'
def iT (P : Program) (en : Ents) : Prop := ∀ f c, find en f = some c → nR P f c
theorem iT.nil : iT P [] := fun _ _ h => nomatch h
theorem iT.cons {f : Nat} {c : Fc} {en : Ents} (h : nR P f c) (k : iT P en) : iT P ((f, c) :: en) := fun f' c' hf => by
 have hf : cnd (Nat.beq f f') (some c) (find en f') = some c' := hf
 rw [bto] at hf
 split at hf
 ·next hb => cases hf; rw [← Nat.eq_of_beq_eq_true hb]; exact h
 ·exact k f' c' hf
omit [Rho] in
def fU (P : Program) (fs : Fns) : Prop := ∀ f fn, find fs f = some fn → P.funcs[f]? = some fn ∧ (fn.name == "runtime.NumGoroutine") = false
omit [Rho] in
theorem fU.nil : fU P [] := fun _ _ h => nomatch h
omit [Rho] in
theorem fU.cons {f : Nat} {fn : Func} {fs : Fns} (h : P.funcs[f]? = some fn) (h2 : (fn.name == "runtime.NumGoroutine") = false) (k : fU P fs) : fU P ((f, fn) :: fs) := fun f' fn' hf => by
 have hf : cnd (Nat.beq f f') (some fn) (find fs f') = some fn' := hf
 rw [bto] at hf
 split at hf
 ·next hb => cases hf; rw [← Nat.eq_of_beq_eq_true hb]; exact ⟨h, h2⟩
 ·exact k f' fn' hf
theorem evFn_v (hH : H.Ok) {en : Ents} {fs : Fns} (hen : iT P en) (hfs : fU P fs) (n : Nat) : ∀ d, oW P (evFn H P en fs n d) := by
 intro d
 induction d with
 |zero => intro f vs h K A m w w0 _ _ hk; cases hk
 |succ d ih =>
  intro f vs h K A m w w0 hr hv hk
  unfold evFn at hk
  split at hk
  ·next c hf => exact hen f c hf vs h K A m w w0 hr hv hk
  ·split at hk
   ·next fn hf =>
    obtain ⟨f1, f2⟩ := hfs f fn hf
    split at hk
    ·next c hb =>
     obtain ⟨h0, hk⟩ := btf hk
     rw [Bool.and_eq_true] at h0
     have h2 := Nat.eq_of_beq_eq_true h0.1
     have h3 := Nat.le_of_ble_eq_true h0.2
     refine ⟨⟨fn, f1, by rw [hb]; rfl, f2⟩, ?_⟩
     obtain ⟨e0, hk, he0⟩ := argE_v hk
     have hrel : Rel w0 fn.ntmps A m ⟨e0, h⟩ { tmps := (vs.map (PV.v m)).toArray ++ Array.replicate (fn.ntmps - (vs.map (PV.v m)).toArray.size) undef, defers := [] } w := by
      refine ⟨by simp; omega, rfl, ?_, hr⟩
      intro t v hv'
      rcases he0 t v hv' with ⟨u, _, hu, rfl⟩ | h5
      ·rw [Nat.sub_zero] at hu
       refine ⟨hv u (List.mem_of_getElem? hu), ?_⟩
       have hlt : t < vs.length := (List.getElem?_eq_some_iff.1 hu).1
       rw [Array.getD_eq_getD_getElem?, Array.getElem?_append_left (by simpa using hlt)]
       simp [hu]
       rfl
      ·cases h5
     refine calls_of_wp f1 hb ?_
     refine wp_mono (Q := fun e a' w' => (∃ v A' m' h', K v h' = true ∧ v.ok A' ∧ a'.defers = [] ∧ (results fn a'.tmps).run P w' = .ok (v.v m') w' ∧ jH w0 A' m' h' w' ∧ Grow none A A' m m' h h') ∧ (e = .normal ∨ e = .ret)) (evC_v hH ih c _ _ A m _ w _ hrel ?_ hk ?_) ?_
     ·rintro c a w ⟨_, h | h⟩ <;> cases h
     ·intro o s' A' m' a' w' hk' hr' hg
      have fin : (match rD P fn s' with
        |some v => K v s'.h
        |none => false) = true → ∃ v A' m' h', K v h' = true ∧ v.ok A' ∧ a'.defers = [] ∧ (results fn a'.tmps).run P w' = .ok (v.v m') w' ∧ jH w0 A' m' h' w' ∧ Grow none A A' m m' h h' := by
       intro hk'
       split at hk'
       ·next v hv' =>
        obtain ⟨o1, e1⟩ := xS hr' hv'
        exact ⟨v, A', m', s'.h, hk', o1, hr'.dfr, e1, hr'.h, hg⟩
       ·cases hk'
      cases o with
      |nor => exact ⟨fin hk', .inl rfl⟩
      |ret => exact ⟨fin hk', .inr rfl⟩
      |ex id => cases hk'
     ·rintro e a' w' ⟨⟨v, A', m', h', g1, g2, g3, g4, g5, g6⟩, he⟩
      rcases he with rfl | rfl
      ·exact ⟨g3, _, g4, v, A', m', h', g1, rfl, g2, g5, g6⟩
      ·exact ⟨g3, _, g4, v, A', m', h', g1, rfl, g2, g5, g6⟩
    ·cases hk
   ·cases hk
end
/- Entries of functions of numbers; statements over numbers and over a list of numbers. -/
def op1 (H : vE) (id : Nat) (k1 kr : IntKind) : Fc := fun args h K => match args with
 |[.one (.i k t)] => cnd (Nat.beq (iJ k1) (iJ k)) (sF H (.f id t) fun t => K (pvi kr t) h) false
 |_ => false
def op2 (H : vE) (id : Nat) (k1 k2 kr : IntKind) : Fc := fun args h K => match args with
 |[.one (.i k t), .one (.i k' u)] => cnd (Nat.beq (iJ k1) (iJ k) && Nat.beq (iJ k2) (iJ k')) (sF H (.f id (.c t u)) fun t => K (pvi kr t) h) false
 |_ => false
def op3 (H : vE) (id : Nat) (k1 k2 k3 kr : IntKind) : Fc := fun args h K => match args with
 |[.one (.i k t), .one (.i k' u), .one (.i k'' v)] => cnd (Nat.beq (iJ k1) (iJ k) && Nat.beq (iJ k2) (iJ k') && Nat.beq (iJ k3) (iJ k'')) (sF H (.f id (.c t (.c u v))) fun t => K (pvi kr t) h) false
 |_ => false
def yes0 : Fc := fun args h K => match args with
 |[] => K (pvb .tt) h
 |_ => false
section
variable [Rho] {P : Program} {H : vE}
theorem aBE (hH : H.Ok) {f : Nat} {fn : Func} (hf : P.funcs[f]? = some fn) (hb : fn.body.isSome = true) (hn : (fn.name == "runtime.NumGoroutine") = false) {h : Hp} {K : KV} {A : Nat → Prop} {m : M} {w w0 : World} {vs : List PV} {kr : IntKind} {id : Nat} {x : Tm}
  (hr : jH w0 A m h w) (hk : sF H (.f id x) (fun t => K (pvi kr t) h) = true) (hx : kr.has (Tm.f id x).d) (hc : Calls P f (vs.map (PV.v m)).toArray w fun e w' => e = .returned (.int kr (Tm.f id x).d) ∧ Below w.heap.size w w') :
  (∃ fn, P.funcs[f]? = some fn ∧ fn.body.isSome = true ∧ (fn.name == "runtime.NumGoroutine") = false) ∧
  Calls P f (vs.map (PV.v m)).toArray w fun e w' => ∃ v A' m' h', K v h' = true ∧ e = .returned (v.v m') ∧ v.ok A' ∧ jH w0 A' m' h' w' ∧ Grow none A A' m m' h h' := by
 refine ⟨⟨fn, hf, hb, hn⟩, hc.mono ?_⟩
 rintro e w' ⟨rfl, hbw⟩
 obtain ⟨t', e1, e2⟩ := wR hH hk
 exact ⟨_, A, m, h, e2, by show _ = Ending.returned (Value.int kr t'.d); rw [e1], by show kr.has t'.d; rw [e1]; exact hx, hr.grow hbw, .refl _ _ _ _⟩
section
variable (hH : H.Ok) {f : Nat} {fn : Func} (hf : P.funcs[f]? = some fn) (hb : fn.body.isSome = true) (hn : (fn.name == "runtime.NumGoroutine") = false)
 include hH hf hb hn
theorem op1_ok {id : Nat} {k1 kr : IntKind} {F : Int → Int} (hF : ∀ a : U, (Rho.f id a).int = F a.int) (hr : ∀ x, k1.has x → kr.has (F x)) (hc : ∀ x, k1.has x → ∀ w, Calls P f #[.int k1 x] w fun e w' => e = .returned (.int kr (F x)) ∧ Below w.heap.size w w') : nR P f (op1 H id k1 kr) := by
 intro vs h K A m w w0 hrel hv hk
 unfold op1 at hk
 split at hk
 ·next k t =>
  have h9 := btf hk
  clear hk
  obtain ⟨h1, hk⟩ := h9
  obtain rfl := iO h1
  have ht : k1.has t.d := hv _ (List.mem_cons_self ..)
  have e : (Tm.f id t).d = F t.d := hF _
  exact aBE hH hf hb hn hrel hk (by rw [e]; exact hr _ ht) (by rw [e]; exact hc _ ht w)
 ·cases hk
theorem op2_ok {id : Nat} {k1 k2 kr : IntKind} {F : Int → Int → Int} (hF : ∀ a b : U, (Rho.f id (.p a b)).int = F a.int b.int) (hr : ∀ x y, k1.has x → k2.has y → kr.has (F x y)) (hc : ∀ x y, k1.has x → k2.has y → ∀ w, Calls P f #[.int k1 x, .int k2 y] w fun e w' => e = .returned (.int kr (F x y)) ∧ Below w.heap.size w w') : nR P f (op2 H id k1 k2 kr) := by
 intro vs h K A m w w0 hrel hv hk
 unfold op2 at hk
 split at hk
 ·next k t k' u =>
  have h9 := btf hk
  clear hk
  obtain ⟨h1, hk⟩ := h9
  rw [Bool.and_eq_true] at h1
  have h2 := iO h1.1
  have h3 := iO h1.2
  subst h2
  subst h3
  have ht : k1.has t.d := hv _ (List.mem_cons_self ..)
  have hu : k2.has u.d := hv (.one (.i k2 u)) (by simp)
  have e : (Tm.f id (.c t u)).d = F t.d u.d := hF _ _
  exact aBE hH hf hb hn hrel hk (by rw [e]; exact hr _ _ ht hu) (by rw [e]; exact hc _ _ ht hu w)
 ·cases hk
theorem op3_ok {id : Nat} {k1 k2 k3 kr : IntKind} {F : Int → Int → Int → Int} (hF : ∀ a b c : U, (Rho.f id (.p a (.p b c))).int = F a.int b.int c.int) (hr : ∀ x y z, k1.has x → k2.has y → k3.has z → kr.has (F x y z)) (hc : ∀ x y z, k1.has x → k2.has y → k3.has z → ∀ w, Calls P f #[.int k1 x, .int k2 y, .int k3 z] w fun e w' => e = .returned (.int kr (F x y z)) ∧ Below w.heap.size w w') : nR P f (op3 H id k1 k2 k3 kr) := by
 intro vs h K A m w w0 hrel hv hk
 unfold op3 at hk
 split at hk
 ·next k t k' u k'' v =>
  have h9 := btf hk
  clear hk
  obtain ⟨h1, hk⟩ := h9
  simp only [Bool.and_eq_true] at h1
  have h2 := iO h1.1.1
  have h3 := iO h1.1.2
  have h4 := iO h1.2
  subst h2
  subst h3
  subst h4
  have ht : k1.has t.d := hv _ (List.mem_cons_self ..)
  have hu : k2.has u.d := hv (.one (.i k2 u)) (by simp)
  have hz : k3.has v.d := hv (.one (.i k3 v)) (by simp)
  have e : (Tm.f id (.c t (.c u v))).d = F t.d u.d v.d := hF _ _ _
  exact aBE hH hf hb hn hrel hk (by rw [e]; exact hr _ _ _ ht hu hz) (by rw [e]; exact hc _ _ _ ht hu hz w)
 ·cases hk
omit hH in
theorem yes0_ok (hc : ∀ w, Calls P f #[] w fun e w' => e = .returned (.bool true) ∧ Below w.heap.size w w') : nR P f yes0 := by
 intro vs h K A m w w0 hrel hv hk
 unfold yes0 at hk
 split at hk
 ·refine ⟨⟨fn, hf, hb, hn⟩, (hc w).mono ?_⟩
  rintro e w' ⟨rfl, hbw⟩
  exact ⟨_, A, m, h, hk, rfl, trivial, hrel.grow hbw, .refl _ _ _ _⟩
 ·cases hk
end
def Kt (H : vE) : KV := fun v h => match v with
 |.pv (.one (.b e)) => brk H e h (fun _ => true) (fun _ => false)
 |_ => false
omit [Rho] in
def m00 : M := ⟨fun _ => 0, fun _ => 0, fun _ => ⟨.nilFunc, rfl⟩⟩
theorem law_v (hH : H.Ok) {en : Ents} {fs : Fns} (hen : iT P en) (hfs : fU P fs) {n d f : Nat} {vs : List PV} {h : Hp} {A : Nat → Prop} {m : M} {W : World} (hr : jH W A m h W) (hv : ∀ v ∈ vs, v.ok A)
  (hk : evFn H P en fs n d f vs h (Kt H) = true) : Calls P f (vs.map (PV.v m)).toArray W fun e w' => e = .returned (.bool true) ∧ Below W.heap.size W w' := by
 refine ((evFn_v hH hen hfs n d f vs h (Kt H) A m W W hr hv hk).2).mono ?_
 rintro e w' ⟨v, A', m', h', h1, rfl, h3, h4, h5⟩
 refine ⟨?_, h4.bel⟩
 unfold Kt at h1
 split at h1
 ·next b =>
  obtain ⟨h2, e1, e2⟩ := nX hH h4.pc h1
  rcases e2 with ⟨hd, _⟩ | ⟨_, q⟩
  ·show Ending.returned (Value.bool b.d) = _; rw [hd]
  ·cases q
 ·cases h1
end
/- Rows that a function has made anew, in the closed reckoner's memory; rows of numbers that are handed in. -/
noncomputable def addK (h : Hp) (e z : Nat) (cs : List C) (K : Nat → Hp → Bool) : Bool := match h with
 |⟨hp, us, nx, pc, ro⟩ => gG (Nat.succ nx) fun nx' => xX hp nx (e, z, false, cs) fun hp => K nx ⟨hp, us, nx', pc, ro⟩
theorem addK_v {h : Hp} {e z : Nat} {cs : List C} {K : Nat → Hp → Bool} (hk : addK h e z cs K = true) : ∃ h', K h.next h' = true ∧ (∀ j, look h'.heap j = if j = h.next then some (e, z, false, cs) else look h.heap j) ∧
  h'.us = h.us ∧ h'.ro = h.ro ∧ h'.pc = h.pc ∧ h'.next = h.next + 1 := by
 obtain ⟨hp, us, nx, pc, ro⟩ := h
 have hk : gG (Nat.succ nx) (fun nx' => xX hp nx (e, z, false, cs) fun hp => K nx ⟨hp, us, nx', pc, ro⟩) = true := hk
 rw [eY] at hk
 obtain ⟨hp', k1, k2⟩ := tK hk
 exact ⟨⟨hp', us, nx + 1, pc, ro⟩, k1, k2, rfl, rfl, rfl, rfl⟩
section
variable [Rho] {w0 : World} {A : Nat → Prop} {m : M} {h : Hp} {w : World}
theorem wJ (r : jH w0 A m h w) {e z base n : Nat} {cs : List C} {v : Value} {K : Nat → Hp → Bool} (ho : oks A cs) (hv : w.ownsRow base e z v n (vals m cs)) (hn : 0 < n) (hfr : ∀ j x, look h.heap j = some x → x.2.2.1 = true → m.b j < base) (hk : addK h e z cs K = true) :
  ∃ (A' : Nat → Prop) (m' : M) (h' : Hp) (g : Nat), K g h' = true ∧ jH w0 A' m' h' w ∧ Grow none A A' m m' h h' ∧ A' g ∧ v = (C.sl g 0 z n).v m' ∧ (∀ j x, look h'.heap j = some x → x.2.2.1 = true → m'.b j < base) := by
 obtain ⟨h', k1, k2, k3, k4, k5, k6⟩ := addK_v hk
 obtain ⟨q1, q2⟩ := hv
 rcases q2 with ⟨_, q2⟩ | ⟨B, cap, cur, q3, q4, q5, q6, q7, q8, q9⟩
 ·omega
 ·have hng : ¬ A h.next := fun ha => Nat.lt_irrefl _ (r.nx _ ha)
  have e1 : vals m cs ++ cur.toList.drop (n * z) = cur.toList := by rw [← q9, List.take_append_drop]
  obtain ⟨r1, r2⟩ := r.add (w' := w) (g := h.next) (B := B) (cap := cap) (e := e) (z := z) (wr := false) (cs := cs) (rest := cur.toList.drop (n * z)) hng ho k2 k3 k4 k5 (by omega) (by omega) q7 (fun hf => by cases hf) (by rw [e1]; exact q5)
   (by
    have h1 : cs.length = n * z := by rw [← q1, cZ]
    have := Nat.mul_le_mul_right z q6
    show cs.length + (cur.toList.drop (n * z)).length = cap * z
    have e2 : cur.toList.length = cap * z := by rw [← q8]; simp
    rw [List.length_drop, e2]
    omega)
   (fun j x hj => ⟨rfl, fun hw => by
    rcases hw with hw | hw
    ·cases hw
    ·exact Nat.ne_of_lt (Nat.lt_of_lt_of_le (hfr j x hj hw) q4)⟩) r.bel
  exact ⟨_, _, h', h.next, k1, r1, ⟨fun j hj => .inl hj, fun j hj => by
   rcases hj with hj | rfl
   ·exact .inl hj
   ·exact .inr (.inl (Nat.le_refl _)), r2, by omega, k4, fun j _ h2 => by rw [k2, if_neg (fun (hj : j = h.next) => hng (hj ▸ h2))], fun i _ => by rw [k3], fun i k t hi => by rw [k3] at hi; exact hi⟩, .inr rfl, by
   rw [q3]
   show _ = Value.slice (some ⟨(if h.next = h.next then B else m.b h.next), 0 * z, none⟩) n ((if h.next = h.next then cap else m.cap h.next) - 0)
   simp, fun j x hj hx => by
   rw [k2] at hj
   split at hj
   ·cases hj
    cases hx
   ·next hj' =>
    show (if j = h.next then B else m.b j) < base
    rw [if_neg hj']
    exact hfr j x hj hx⟩
end
/- Where a statement's walk starts: numbers, lists of numbers. -/
def vM (k : IntKind) (w : World) (a : Option Addr) (len cap : Nat) (zs : List Int) : Prop :=
 (a = none ∧ len = 0 ∧ cap = 0 ∧ zs = []) ∨
 ∃ x, a = some x ∧ len ≤ cap ∧ cap ≤ maxLen ∧ zs.length = cap ∧ (∀ i, i < zs.length → w.cell? (x.add i) = some (.int k (zs.getD i 0))) ∧ ∀ n ∈ zs, (Lit.int k n).wf = true
theorem zD {k : IntKind} {W : World} {a : Option Addr} {len cap : Nat} {z : List Int} (h : vM k W a len cap z) : (z.take len).length = len ∧ len ≤ cap ∧ len ≤ zI ∧ (0 < len → a.isSome = true) ∧ Kd.C (Kd.int k) W a len (z.take len) ∧ (∀ x ∈ z.take len, k.has x) ∧
  (∀ ad, a = some ad → 0 < len → ad.block < W.heap.size) := by
 rcases h with ⟨rfl, rfl, rfl, rfl⟩ | ⟨x, rfl, h1, h2, h3, h4, h5⟩
 ·exact ⟨rfl, Nat.le_refl _, by decide, fun h => (by omega), ⟨rfl, by decide, fun h => (by omega)⟩, fun x hx => (by cases hx), fun ad h => (by cases h)⟩
 ·have hl : (z.take len).length = len := by rw [List.length_take]; omega
  have hm : len ≤ zI := by unfold zI; unfold maxLen at h2; omega
  refine ⟨hl, h1, hm, fun _ => rfl, ⟨hl, hm, fun _ => ⟨x, rfl, fun j p hj => ⟨[.int k p], rfl, rfl, fun i u hu => ?_⟩⟩⟩, fun y hy => aAQ.1 (h5 y (List.mem_of_mem_take hy)), fun ad ha h0 => ?_⟩
  ·have hi : i = 0 := by
    cases i with
    |zero => rfl
    |succ i => cases hu
   subst hi
   cases hu
   have hk : (Kd.int k).sz = 1 := rfl
   have e9 : j * (Kd.int k).sz + 0 = j := by rw [hk, Nat.mul_one]; rfl
   rw [e9]
   have hjl : j < len := by
    have := (List.getElem?_eq_some_iff.1 hj).1
    omega
   rw [List.getElem?_take, if_pos hjl] at hj
   rw [h4 j (by omega), List.getD_eq_getElem?_getD, hj]
   rfl
  ·cases ha
   have := h4 0 (by omega)
   have h9 := World.block_lt_of_cell? W _ this
   unfold Addr.add at h9
   simpa using h9
section
variable [Rho]
theorem start_pc (W : World) (pc : Facts) (h : lJ pc) : jH W (fun _ => False) m00 ⟨.e, .e, 1, pc, 0⟩ W := by
 refine ⟨?_, ?_, ?_, ?_, h, Below.refl _ _⟩
 ·intro g e z wr cs h; cases h
 ·intro i info h; cases h
 ·intro g g' e z cs x h; cases h
 ·intro g h; exact False.elim h
theorem ro_ok {k : IntKind} {W : World} {a : Option Addr} {len cap : Nat} {z : List Int} (h : vM k W a len cap z) {i : Nat} (hv : Rho.v i = .s (z.take len)) {m : M} {g : Nat} (hm : (m.u g).1 = .slice a len cap) (A : Nat → Prop) : kR m g (.ro k (.v i)) ∧ UIn A W m g (.ro k (.v i)) := by
 obtain ⟨h1, h2, h3, h4, h5, h6, h7⟩ := zD h
 have e : (Tm.v i).u.lst = z.take len := by show (Rho.v i).lst = _; rw [hv]; rfl
 refine ⟨⟨a, cap, ?_, ?_, ?_⟩, a, cap, ?_, ?_, ?_, ?_, ?_⟩
 ·rw [e, h1]; exact hm
 ·rw [e, h1]; exact h3
 ·rw [e, h1]; exact h4
 ·rw [e, h1]; exact hm
 ·rw [e, h1]; exact h5
 ·rw [e]; exact h6
 ·rw [e, h1]; exact h7
 ·rw [e, h1]; exact h2
abbrev m1 (a : Option Addr) (len cap : Nat) : M := ⟨fun _ => 0, fun _ => 0, fun _ => ⟨.slice a len cap, rfl⟩⟩
theorem aAl (W : World) (pc : Facts) (h : lJ pc) {k : IntKind} {a : Option Addr} {len cap : Nat} {z : List Int} (hz : vM k W a len cap z) {i : Nat} (hv : Rho.v i = .s (z.take len)) :
  jH W (fun j => j = 0) (m1 a len cap) ⟨.e, .n .e (some (.ro k (.v i))) .e, 1, pc, 0⟩ W := by
 refine ⟨?_, ?_, ?_, ?_, h, Below.refl _ _⟩
 ·intro g e z wr cs h; cases h
 ·intro j info hj
  have hj : look (Tr.n .e (some (UI.ro k (.v i))) .e) j = some info := hj
  rw [mM] at hj
  by_cases c : j = 0
  ·rw [if_pos c] at hj
   cases hj
   obtain ⟨x1, x2⟩ := ro_ok hz hv (m := m1 a len cap) (g := j) rfl (fun j => j = 0)
   exact ⟨c, x1, x2⟩
  ·rw [if_neg c] at hj
   split at hj <;> cases hj
 ·intro g g' e z cs x h; cases h
 ·intro g h; rw [show g = 0 from h]; exact Nat.zero_lt_one
abbrev m2 (a : Option Addr) (len cap : Nat) (a' : Option Addr) (len' cap' : Nat) : M := ⟨fun _ => 0, fun _ => 0, fun j => if j = 0 then ⟨.slice a len cap, rfl⟩ else ⟨.slice a' len' cap', rfl⟩⟩
end
end Go.Proofs.YtolpdiifmacdbaaGreat.Xe

/- A reckoner of Go code over numbers, structs, arrays and local variables: it steps through code as the machine does, in plain Lean, so that Lean's kernel can reckon it. -/
namespace Go.Proofs.YtolpdiifmacdbaaGreat.Ek
open Go.RowKit Go.Proofs.YtolpdiifmacdbaaGreatW.PrintWords Go.Proofs.YtolpdiifmacdbaaGreatW.PrintLast Go.Proofs.YtolpdiifmacdbaaGreatW.PrintMore

abbrev cnd {α : Type _} (b : Bool) (t e : α) : α := match b with
 |true => t
 |false => e
inductive IE where
 |l (n : Int)
 |x (n : Int)
def IE.d : IE → Int
 |.l n => n
 |.x n => n
inductive BE where
 |tt | ff
 |q (b : Bool)
 |lt (x y : Int)
 |le (x y : Int)
 |eq (x y : Int)
 |no (b : BE)
def BE.d : BE → Bool
 |.tt => true
 |.ff => false
 |.q b => b
 |.lt x y => decide (x < y)
 |.le x y => decide (x ≤ y)
 |.eq x y => x == y
 |.no b => !b.d
def BE.ite {α : Type _} : BE → α → α → α
 |.tt, t, _ => t
 |.ff, _, e => e
 |.q b, t, e => if b = true then t else e
 |.lt x y, t, e => if x < y then t else e
 |.le x y, t, e => if x ≤ y then t else e
 |.eq x y, t, e => if x = y then t else e
 |.no b, t, e => b.ite e t
def BE.neg : BE → BE
 |.tt => .ff
 |.ff => .tt
 |.no b => b
 |b => .no b
def BE.lit (b : Bool) : BE := cnd (b) (.tt) <| .ff

inductive C where
 |i (k : IntKind) (x : IE)
 |b (x : BE)
 |p (g o : Nat)
 |pd (g o : Nat) (i : Int) (n : Nat)
 |sl (g o n c : Nat)
inductive S where
 |c (c : C)
 |a (k : IntKind) (xs : List Int) (n : Nat)
def S.len : S → Nat
 |.c _ => 1
 |.a _ _ n => n
inductive PV where
 |one (c : C)
 |agg (ss : List S)
inductive SV where
 |pv (v : PV)
 |tup (vs : List PV)
 |und

def look {α : Type _} : List (Nat × α) → Nat → Option α
 |[], _ => none
 |(k, v) :: r, t => cnd (Nat.beq k t) (some v) <| look r t
def upd {α : Type _} : List (Nat × α) → Nat → α → List (Nat × α)
 |[], _, _ => []
 |(k, v) :: r, t, u => cnd (Nat.beq k t) ((k, u) :: r) <| (k, v) :: upd r t u

structure St where
 env : List (Nat × SV)
 heap : List (Nat × Nat × List S)
 next : Nat
abbrev St.put (s : St) (d : Option Nat) (v : SV) : St := match d with
 |some d => ⟨(d, v) :: s.env, s.heap, s.next⟩
 |none => s

def qL : Value → Option S
 |.int k n => some (.c (.i k (.l n)))
 |.bool b => some (.c (.b (.lit b)))
 |_ => none
def kJ : List Value → Option (List S)
 |[] => some []
 |v :: r => match qL v, kJ r with
  |some c, some cs => some (c :: cs)
  |_, _ => none
def ofV : Value → Option SV
 |.int k n => some (.pv (.one (.i k (.l n))))
 |.bool b => some (.pv (.one (.b (.lit b))))
 |.agg cs => match kJ cs.toList with
  |some ss => some (.pv (.agg ss))
  |none => none
 |_ => none
def ev (env : List (Nat × SV)) : Operand → Option SV
 |.tmp t => look env t
 |.const v => ofV v
 |_ => none
def evs (env : List (Nat × SV)) : List Operand → Option (List PV)
 |[] => some []
 |x :: r => match ev env x, evs env r with
  |some (.pv v), some vs => some (v :: vs)
  |_, _ => none

def nZ : List S → Nat → Option (List S × List S)
 |[], m => cnd (Nat.beq m 0) (some ([], [])) <| none
 |s :: r, m => cnd (Nat.beq m 0) (some ([], s :: r)) <|     cnd (Nat.ble s.len m) ((match nZ r (m - s.len) with
   |some (a, b) => some (s :: a, b)
   |none => none)) <| none
def nO : List S → Nat
 |[] => 0
 |s :: r => s.len + nO r
def sub (ss : List S) (o n : Nat) : Option (List S) := match nZ ss o with
 |some (_, r) => match nZ r n with
  |some (a, _) => some a
  |none => none
 |none => none
def cellAt : List S → Nat → Option C
 |[], _ => none
 |.c c :: r, o => cnd (Nat.beq o 0) (some c) <| cellAt r (o - 1)
 |.a k xs n :: r, o => cnd (Nat.blt o n) (some (.i k (.x (rd xs (Int.ofNat o))))) <| cellAt r (o - n)
def setAt : List S → Nat → C → Option (List S)
 |[], _, _ => none
 |.c c :: r, o, u => cnd (Nat.beq o 0) (some (.c u :: r)) <| (match setAt r (o - 1) u with
  |some r' => some (.c c :: r')
  |none => none)
 |.a k xs n :: r, o, u => cnd (Nat.blt o n) ((match u with
   |.i k' v => cnd (decide (k' = k)) (some (.a k (xs.set o v.d) n :: r)) <| none
   |_ => none)) <| (match setAt r (o - n) u with
   |some r' => some (.a k xs n :: r')
   |none => none)
def rX : List S → Nat → Option (IntKind × List Int × Nat)
 |[], _ => none
 |.c _ :: r, o => cnd (Nat.beq o 0) (none) <| rX r (o - 1)
 |.a k xs n :: r, o => cnd (Nat.beq o 0) (some (k, xs, n)) <| cnd (Nat.ble n o) (rX r (o - n)) <| none
def kG : List S → Nat → List Int → List S
 |[], _, _ => []
 |.c c :: r, o, ys => .c c :: (cnd (Nat.beq o 0) (r) <| kG r (o - 1) ys)
 |.a k xs n :: r, o, ys => cnd (Nat.beq o 0) (.a k ys n :: r) <| .a k xs n :: kG r (o - n) ys
def yK (ss : List S) (o : Nat) (new : List S) : Option (List S) := match nZ ss o with
 |some (a, r) => match nZ r (nO new) with
  |some (_, b) => some (a ++ (new ++ b))
  |none => none
 |none => none

def iG (k : IntKind) (n : Int) : Int := match k with
 |.i64 => wrap64 n
 |.i32 => wrap32 n
 |.u32 => n % 4294967296
 |.u8 => n % 256
 |k => k.wrap n
def IE.mk2 (a b : IE) (n : Int) : IE := match a, b with
 |.l _, .l _ => .l n
 |_, _ => .x n
def IE.cmp (a b : IE) (e : BE) : BE := match a, b with
 |.l _, .l _ => .lit e.d
 |_, _ => e
def IE.nz (a : IE) : BE := match a with
 |.l n => .lit (n == 0)
 |.x n => .eq n 0
def IE.ge0 (a : IE) : BE := match a with
 |.l n => .lit (decide (0 ≤ n))
 |.x n => .le 0 n
def binI {R : Type} (op : BinOp) (k : IntKind) (k' : IntKind) (a b : IE) (K : C → Option R) : Option R := match op with
 |.shl => b.ge0.ite (K (.i k (IE.mk2 a b (shl k a.d b.d)))) none
 |.shr => b.ge0.ite (K (.i k (IE.mk2 a b (shr k a.d b.d)))) none
 |op => cnd (decide (k = k')) ((match op with
  |.add => K (.i k (IE.mk2 a b (iG k (a.d + b.d))))
  |.sub => K (.i k (IE.mk2 a b (iG k (a.d - b.d))))
  |.mul => K (.i k (IE.mk2 a b (iG k (a.d * b.d))))
  |.quo => b.nz.ite none (K (.i k (IE.mk2 a b (iG k (Int.tdiv a.d b.d)))))
  |.rem => b.nz.ite none (K (.i k (IE.mk2 a b (Int.tmod a.d b.d))))
  |.and => K (.i k (IE.mk2 a b (Go.bits .and k a.d b.d)))
  |.or => K (.i k (IE.mk2 a b (Go.bits .or k a.d b.d)))
  |.xor => K (.i k (IE.mk2 a b (Go.bits .xor k a.d b.d)))
  |.andNot => K (.i k (IE.mk2 a b (Go.bits .andNot k a.d b.d)))
  |.eql => K (.b (IE.cmp a b (.eq a.d b.d)))
  |.neq => K (.b (IE.cmp a b (.eq a.d b.d)).neg)
  |.lss => K (.b (IE.cmp a b (.lt a.d b.d)))
  |.leq => K (.b (IE.cmp a b (.le a.d b.d)))
  |.gtr => K (.b (IE.cmp a b (.lt b.d a.d)))
  |.geq => K (.b (IE.cmp a b (.le b.d a.d)))
  |_ => none)) <| none
def eqB (a b : BE) : BE := match a, b with
 |.tt, b => b
 |.ff, b => b.neg
 |a, .tt => a
 |a, .ff => a.neg
 |a, b => .q (a.d == b.d)
def uJ (k : IntKind) : List S → Option (List Int)
 |[] => some []
 |.c (.i k' x) :: r => match uJ k r with
  |some xs => cnd (decide (k' = k)) (some (x.d :: xs)) <| none
  |none => none
 |.a k' xs _ :: r => match uJ k r with
  |some ys => cnd (decide (k' = k)) (some (xs ++ ys)) <| none
  |none => none
 |_ => none

section
variable (P : Program)
def lay : Nat → Nat → Option (List S)
 |0, _ => none
 |d + 1, t => match P.underlying t with
  |some (.int k) => some [.c (.i k (.l 0))]
  |some .bool => some [.c (.b .ff)]
  |some (.struct fs) => fs.toList.foldr (fun f r => match lay d f.type, r with
   |some a, some b => some (a ++ b)
   |_, _ => none) (some [])
  |some (.array n e) => match P.underlying e with
   |some (.int k) => some [.a k (List.replicate n 0) n]
   |_ => none
  |_ => none
def isLit : S → List Value → Option (List Value)
 |.c (.i k (.l n)), .int k' n' :: r => cnd (decide (k = k') && (n == n')) (some r) <| none
 |.c (.b .ff), .bool false :: r => some r
 |.a k xs n, vs => go k xs n vs
 |_, _ => none
 where go (k : IntKind) : List Int → Nat → List Value → Option (List Value)
 |[], 0, vs => some vs
 |x :: xs, n + 1, .int k' y :: vs => cnd (decide (k = k') && (x == y)) (go k xs n vs) <| none
 |_, _, _ => none
def xY : List S → List Value → Bool
 |[], [] => true
 |s :: r, vs => match isLit s vs with
  |some q => xY r q
  |none => false
 |_, _ => false
def lT (t : Nat) : Option (List S) := match P.info? t with
 |some i => match i.zero with
  |some v => match lay P 8 t with
   |some ss => cnd (xY ss v.cells.toList) (some ss) <| none
   |none => none
  |none => none
 |none => none
def iK (t : Nat) : Option Bool := match P.underlying t with
 |some (.struct _) => some true
 |some (.array _ _) => some true
 |some _ => some false
 |none => none
def gZ (t : Nat) : Option Nat := match P.info? t with
 |some i => some i.size
 |none => none
def pM (t : Nat) (ss : List S) (o : Nat) : Option PV := match iK P t, gZ P t with
 |some true, some n => match sub ss o n with
  |some r => some (.agg r)
  |none => none
 |some false, some _ => match cellAt ss o with
  |some c => some (.one c)
  |none => none
 |_, _ => none
def eqF : List Field → Nat → List S → List S → Option Bool
 |[], _, a, b => match a, b with
  |[], [] => some true
  |_, _ => none
 |f :: fs, i, a, b => match a, b with
  |.c (.i k x) :: r, .c (.i k' y) :: q => match P.underlying f.type with
   |some (.int _) => match eqF fs (i + 1) r q with
    |some t => cnd ((f.name != "_") && Nat.beq f.offset i && decide (k = k')) (some ((x.d == y.d) && t)) <| none
    |none => none
   |_ => none
  |.c (.b x) :: r, .c (.b y) :: q => match P.underlying f.type with
   |some .bool => match eqF fs (i + 1) r q with
    |some t => cnd ((f.name != "_") && Nat.beq f.offset i) (some ((x.d == y.d) && t)) <| none
    |none => none
   |_ => none
  |_, _ => none
def eqT (t : Nat) (a b : List S) : Option Bool := match P.underlying t with
 |some (.struct fs) => cnd (!P.stoodInHeld t && !P.eqGuardType P.depth t) (eqF P fs.toList 0 a b) <| none
 |some (.array n e) => match P.underlying e, gZ P e with
  |some (.int k), some 1 => cnd (!P.eqGuardType P.depth t) ((match uJ k a, uJ k b with
   |some xs, some ys => cnd (Nat.beq (nO a) n && Nat.beq (nO b) n) (some (xs == ys)) <| none
   |_, _ => none)) <| none
  |_, _ => none
 |_ => none
def mX (env : List (Nat × SV)) (places : List (Nat × Nat)) : List S → List (Nat × Operand) → Option (List S)
 |ss, [] => some ss
 |ss, (j, x) :: r => match places[j]?, ev env x with
  |some (o, 1), some (.pv (.one c)) => match setAt ss o c with
   |some ss' => mX env places ss' r
   |none => none
  |some (o, n), some (.pv (.agg new)) => cnd (Nat.beq n (nO new)) ((match yK ss o new with
   |some ss' => mX env places ss' r
   |none => none)) <| none
  |_, _ => none
def rV {R : Type} (op : Op) (env : List (Nat × SV)) (K : SV → Option R) : Option R := match op with
 |.move x => match ev env x with
  |some v => K v
  |none => none
 |.assign x => match ev env x with
  |some v => K v
  |none => none
 |.pick c a b => match ev env c with
  |some (.pv (.one (.b e))) => e.ite (match ev env a with
    |some v => K v
    |none => none) (match ev env b with
    |some v => K v
    |none => none)
  |_ => none
 |.binOp op t x y _ => match ev env x, ev env y with
  |some (.pv (.one (.i k a))), some (.pv (.one (.i k' b))) => binI op k k' a b (fun c => K (.pv (.one c)))
  |some (.pv (.one (.b a))), some (.pv (.one (.b b))) => match P.underlying t with
   |some .bool => match op with
    |.eql => K (.pv (.one (.b (eqB a b))))
    |.neq => K (.pv (.one (.b (eqB a b).neg)))
    |_ => none
   |_ => none
  |some (.pv (.agg a)), some (.pv (.agg b)) => match eqT P t a b with
   |some e => match op with
    |.eql => K (.pv (.one (.b (.q e))))
    |.neq => K (.pv (.one (.b (.no (.q e)))))
    |_ => none
   |none => none
  |_, _ => none
 |.unOp op _ x => match op, ev env x with
  |.neg, some (.pv (.one (.i k a))) => K (.pv (.one (.i k (IE.mk2 a a (iG k (-a.d))))))
  |.xor, some (.pv (.one (.i k a))) => K (.pv (.one (.i k (IE.mk2 a a (Go.bits .xor k (if k.signed then -1 else k.max) a.d)))))
  |.not, some (.pv (.one (.b a))) => K (.pv (.one (.b a.neg)))
  |_, _ => none
 |.convert s t x => match P.underlying s, P.underlying t, ev env x with
  |some _, some (.int k), some (.pv (.one (.i _ a))) => K (.pv (.one (.i k (IE.mk2 a a (iG k a.d)))))
  |_, _, _ => none
 |.fieldAddr t x f => match P.underlying t, ev env x with
  |some (.struct fs), some (.pv (.one (.p g o))) => match fs[f]? with
   |some fd => match gZ P fd.type with
    |some (_ + 1) => K (.pv (.one (.p g (o + fd.offset))))
    |_ => none
   |none => none
  |_, _ => none
 |.field t x f => match P.underlying t, ev env x with
  |some (.struct fs), some (.pv (.agg ss)) => match fs[f]? with
   |some fd => match pM P fd.type ss fd.offset with
    |some v => K (.pv v)
    |none => none
   |none => none
  |_, _ => none
 |.indexAddr t x i => match P.underlying t, ev env x, ev env i with
  |some (.array n e), some (.pv (.one (.p g o))), some (.pv (.one (.i _ (.l j)))) => match gZ P e with
   |some z => cnd (decide (0 ≤ j) && decide (j < (n : Int))) (K (.pv (.one (.p g (o + j.toNat * z))))) <| none
   |none => none
  |some (.array n e), some (.pv (.one (.p g o))), some (.pv (.one (.i _ (.x j)))) => match gZ P e with
   |some 1 => if 0 ≤ j then (if j < (n : Int) then K (.pv (.one (.pd g o j n))) else none) else none
   |_ => none
  |some (.slice e), some (.pv (.one (.sl g o n _))), some (.pv (.one (.i _ j))) => match gZ P e with
   |some 1 => if 0 ≤ j.d then (if j.d < (n : Int) then K (.pv (.one (.pd g o j.d n))) else none) else none
   |_ => none
  |_, _, _ => none
 |.index t x i => match P.underlying t, ev env x, ev env i with
  |some (.array n e), some (.pv (.agg ss)), some (.pv (.one (.i _ j))) => match iK P e, ss with
   |some false, [.a k xs m] => cnd (Nat.beq m n) ((match gZ P e with
     |some 1 => if 0 ≤ j.d then (if j.d < (n : Int) then K (.pv (.one (.i k (.x (rd xs j.d))))) else none) else none
     |_ => none)) <| none
   |_, _ => none
  |_, _, _ => none
 |.extract x i => match ev env x with
  |some (.tup vs) => match vs[i]? with
   |some v => K (.pv v)
   |none => none
  |_ => none
 |.nilCheck x => match ev env x with
  |some (.pv (.one (.p g o))) => K (.pv (.one (.p g o)))
  |_ => none
 |.build t ps => match P.underlying t, lT P t with
  |some (.struct fs), some ss => match fs.toList.mapM (fun f => (P.info? f.type).map fun i => (f.offset, i.size)) with
   |some places => match mX env places ss ps.toList with
    |some ss => K (.pv (.agg ss))
    |none => none
   |none => none
  |some (.array n e), some ss => match P.info? e with
   |some ie => match mX env ((List.range n).map fun i => (i * ie.size, ie.size)) ss ps.toList with
    |some ss => K (.pv (.agg ss))
    |none => none
   |none => none
  |_, _ => none
 |.call { callee := .builtin .len, args, argTypes } => match argTypes[0]?, args[0]? with
  |some t, some x => match P.underlying t, ev env x with
   |some (.slice _), some (.pv (.one (.sl _ _ n _))) => K (.pv (.one (.i .i64 (.x (n : Int)))))
   |_, _ => none
  |_, _ => none
 |.call { callee := .builtin .min, args, .. } => match evs env args.toList with
  |some [.one (.i k a), .one (.i k' b)] => cnd (decide (k = k')) (K (.pv (.one (.i k (IE.mk2 a b (mn a.d b.d)))))) <| none
  |_ => none
 |.call { callee := .builtin .max, args, .. } => match evs env args.toList with
  |some [.one (.i k a), .one (.i k' b)] => cnd (decide (k = k')) (K (.pv (.one (.i k (IE.mk2 a b (mx a.d b.d)))))) <| none
  |_ => none
 |_ => none

structure Fc where
 run : (R : Type) → Nat → List (Nat × Nat × List S) → List PV → (SV → Option R) → Option R
abbrev Cls := List (Nat × Fc)

def PV.segs : PV → List S
 |.one c => [.c c]
 |.agg ss => ss
def pF (t : Nat) (heap : List (Nat × Nat × List S)) : C → Option PV
 |.p g o => match look heap g with
  |some (_, ss) => pM P t ss o
  |none => none
 |.pd g o i n => match iK P t, look heap g with
  |some false, some (_, ss) => match rX ss o with
   |some (k, xs, m) => cnd (Nat.beq m n) (some (.one (.i k (.x (rd xs i))))) <| none
   |none => none
  |_, _ => none
 |_ => none
def aBw (t : Nat) (heap : List (Nat × Nat × List S)) (v : PV) : C → Option (List (Nat × Nat × List S))
 |.p g o => match look heap g, gZ P t, v with
  |some (e, ss), some 1, .one c => match setAt ss o c with
   |some ss' => some (upd heap g (e, ss'))
   |none => none
  |some (e, ss), some n, .agg new => cnd (Nat.beq n (nO new)) ((match yK ss o new with
   |some ss' => some (upd heap g (e, ss'))
   |none => none)) <| none
  |_, _, _ => none
 |.pd g o i n => match look heap g, gZ P t, v with
  |some (e, ss), some 1, .one (.i k x) => match rX ss o with
   |some (k', xs, m) => cnd (Nat.beq m n && decide (k = k')) (some (upd heap g (e, kG ss o (xs.set i.toNat x.d)))) <| none
   |none => none
  |_, _, _ => none
 |_ => none
def ints (k : IntKind) : List PV → Option (List Int)
 |[] => some []
 |.one (.i k' x) :: r => match ints k r with
  |some xs => cnd (decide (k' = k)) (some (x.d :: xs)) <| none
  |none => none
 |_ => none

variable (nt : Nat) (cl : Cls)
def okD (nt : Nat) : Option Nat → Bool
 |some d => Nat.blt d nt
 |none => true
def evOp {R : Type} (n : Nat) (o : Oper) (s : St) (K : St → Option R) : Option R := cnd (okD nt o.dst) ((match o.op with
 |.alloc t => match lT P t with
  |some ss => K ⟨match o.dst with
   |some d => (d, .pv (.one (.p s.next 0))) :: s.env
   |none => s.env, (s.next, t, ss) :: s.heap, s.next + 1⟩
  |none => none
 |.box t x => match ev s.env x with
  |some (.pv v) => K ⟨match o.dst with
   |some d => (d, .pv (.one (.p s.next 0))) :: s.env
   |none => s.env, (s.next, t, v.segs) :: s.heap, s.next + 1⟩
  |_ => none
 |.load t x => match ev s.env x with
  |some (.pv (.one c)) => match pF P t s.heap c with
   |some v => K (s.put o.dst (.pv v))
   |none => none
  |_ => none
 |.store t x y => match ev s.env x, ev s.env y with
  |some (.pv (.one c)), some (.pv v) => match aBw P t s.heap v c with
   |some h => K ((⟨s.env, h, s.next⟩ : St).put o.dst .und)
   |none => none
  |_, _ => none
 |.buildSlice t len ps => match P.underlying t, evs s.env (ps.toList.map (·.2)) with
  |some (.slice e), some vs => match P.underlying e, lT P e with
   |some (.int k), some [.c (.i k' (.l 0))] => match ints k vs with
    |some xs => cnd (decide (k = k') && (ps.toList.map (·.1) == List.range len) && Nat.ble len 1000 && Nat.blt 0 len && (match gZ P e with
      |some 1 => true
      |_ => false)) (K ⟨match o.dst with
      |some d => (d, .pv (.one (.sl s.next 0 len len))) :: s.env
      |none => s.env, (s.next, e, [.a k xs len]) :: s.heap, s.next + 1⟩) <| none
    |none => none
   |_, _ => none
  |_, _ => none
 |.call { callee := .value (.func f), args, .. } => match look cl f, evs s.env args.toList with
  |some c, some vs => c.run R n s.heap vs (fun v => K (s.put o.dst v))
  |_, _ => none
 |op => rV P op s.env (fun v => K (s.put o.dst v)))) <| none
def guarded {R : Type} (ops : Array Oper) (o : Oper) (s : St) (yes : St → Option R) (no : St → Option R) : Option R := match o.guard with
 |none => yes s
 |some (j, want) => match (ops[j]?).bind (·.dst) with
  |none => none
  |some t => match look s.env t with
   |some .und => no s
   |some (.pv (.one (.b e))) => e.ite (cnd (want) (yes ⟨(t, .pv (.one (.b .tt))) :: s.env, s.heap, s.next⟩) <| no ⟨(t, .pv (.one (.b .tt))) :: s.env, s.heap, s.next⟩)
     (cnd (want) (no ⟨(t, .pv (.one (.b .ff))) :: s.env, s.heap, s.next⟩) <| yes ⟨(t, .pv (.one (.b .ff))) :: s.env, s.heap, s.next⟩)
   |_ => none
def kN {R : Type} (o : Oper) (s : St) (K : St → Option R) : Option R := cnd (okD nt o.dst) (K (s.put o.dst .und)) <| none
def qX {R : Type} (n : Nat) (ops : Array Oper) : List Oper → St → (St → Option R) → Option R
 |[], s, K => K s
 |o :: r, s, K => guarded ops o s (fun s => evOp P nt cl n o s (fun s => qX n ops r s K)) (fun s => kN nt o s (fun s => qX n ops r s K))

def rC : Op → Bool
 |.move _ | .assign _ | .pick .. | .binOp .. | .unOp .. | .convert .. | .fieldAddr .. | .field .. | .indexAddr .. | .index .. | .extract .. | .nilCheck _ | .build .. => true
 |.call { callee := .builtin .len, .. } => true
 |.call { callee := .builtin .min, .. } => true
 |.call { callee := .builtin .max, .. } => true
 |_ => false
def isLoad : Op → Bool
 |.load .. => true
 |_ => false
def gV : Op → Bool
 |.store .. => true
 |_ => false
def vB (ops : Array Oper) (i : Nat) : Bool := match ops[i]? with
 |some o => rC o.op
 |none => false
def loadAt (ops : Array Oper) (i : Nat) : Bool := match ops[i]? with
 |some o => isLoad o.op
 |none => false
def dW (ops : Array Oper) : List Nat := (List.range ops.size).filter fun i => match ops[i]? with
 |some o => gV o.op
 |none => false
def masks (T : List (List Nat × List Nat)) : List Nat := T.foldl (fun acc r => acc ++ [upM acc acc.length r.1]) []
def kL {R : Type} (n : Nat) (ops : Array Oper) (T : Bool × List (List Nat × List Nat)) (B : List Nat) (ds : List Nat) (heap0 : List (Nat × Nat × List S)) : Nat → List Bool → St → (St → Option R) → Option R
 |0, l, s, K => match readyT T.2 l with
  |[] => K s
  |_ => none
 |f + 1, l, s, K => match readyT T.2 l with
  |[] => K s
  |rs => match rs.find? (fun i => vB ops i && anyT T l (l.set i true) i) with
   |some i => match ops[i]? with
    |some o => guarded ops o s (fun s => cnd (okD nt o.dst) (rV P o.op s.env (fun v => kL n ops T B ds heap0 f (l.set i true) (s.put o.dst v) K)) <| none) (fun s => kN nt o s (fun s => kL n ops T B ds heap0 f (l.set i true) s K))
    |none => none
   |none => match rs.find? (fun i => loadAt ops i && takeW T B ds l (l.set i true) i && ds.all (fun d => !(l.getD d true))) with
    |some i => match ops[i]? with
     |some o => guarded ops o s (fun s => cnd (okD nt o.dst) ((match o.op with
       |.load t x => match ev s.env x with
        |some (.pv (.one c)) => match pF P t heap0 c with
         |some v => kL n ops T B ds heap0 f (l.set i true) (s.put o.dst (.pv v)) K
         |none => none
        |_ => none
       |_ => none)) <| none) (fun s => kN nt o s (fun s => kL n ops T B ds heap0 f (l.set i true) s K))
     |none => none
    |none => match rs with
     |[i] => match ops[i]? with
      |some o => guarded ops o s (fun s => evOp P nt cl n o s (fun s => kL n ops T B ds heap0 f (l.set i true) s K)) (fun s => kN nt o s (fun s => kL n ops T B ds heap0 f (l.set i true) s K))
      |none => none
     |_ => none
def xR {R : Type} (n : Nat) (ops : Array Oper) (draw : Bool) (s : St) (K : St → Option R) : Option R := match draw with
 |false => qX P nt cl n ops ops.toList s K
 |true => cnd (P.follows .mixedOrders && waitsOk (rtab .any ops).2 (masks (rtab .any ops).2)) (kL P nt cl n ops (rtab .any ops) (masks (rtab .any ops).2) (dW ops) s.heap ops.size (List.replicate ops.size false) s K) <| none

def bit (t : Nat) : Nat := 2 ^ t
def onB (m t : Nat) : Nat := Nat.lor m (bit t)
def offB (m t : Nat) : Nat := Nat.xor m (Nat.land m (bit t))
def opdsB : List Operand → Nat → Nat
 |[], m => m
 |.tmp t :: r, m => opdsB r (onB m t)
 |_ :: r, m => opdsB r m
def lvOps (ops : Array Oper) : List Oper → Nat → Nat
 |[], m => m
 |o :: r, m =>
  let m := lvOps ops r m
  let m := match o.dst with
   |some d => offB m d
   |none => m
  let m := opdsB o.op.operands.toList m
  match o.guard with
  |some (j, _) => match (ops[j]?).bind (·.dst) with
   |some t => onB m t
   |none => m
  |none => m
def lvC (rm : Nat) : Code → Nat → List (Nat × Nat) → Nat
 |.skip, m, _ => m
 |.region _ ops _, m, _ => lvOps ops ops.toList m
 |.seq a b, m, ex => lvC rm a (lvC rm b m ex) ex
 |.cond c a b, m, ex => opdsB [c] (Nat.lor (lvC rm a m ex) (lvC rm b m ex))
 |.block id c, m, ex => lvC rm c m ((id, m) :: ex)
 |.loop c, _, ex => lvC rm c 0 ex
 |.exit id, _, ex => (look ex id).getD 0
 |.ret, _, _ => rm
 |_, _, _ => 0
def BE.gen (b : BE) : BE := .q b.d
def C.gen : C → C
 |.i k x => .i k (.x x.d)
 |.b x => .b x.gen
 |u => u
def S.gen : S → S
 |.c u => .c u.gen
 |s => s
def PV.gen : PV → PV
 |.one c => .one c.gen
 |.agg ss => .agg (ss.map S.gen)
def SV.gen : SV → SV
 |.pv v => .pv v.gen
 |.tup vs => .tup (vs.map PV.gen)
 |.und => .und
def tC (env : List (Nat × SV)) (m : Nat) : Nat → List (Nat × SV)
 |0 => []
 |t + 1 => cnd (Nat.beq (Nat.land (Nat.shiftRight m t) 1) 1) ((match look env t with
   |some v => (t, v.gen) :: tC env m t
   |none => tC env m t)) <| tC env m t
def idsC : C → Nat
 |.p g _ => bit g
 |.pd g _ _ _ => bit g
 |.sl g _ _ _ => bit g
 |_ => 0
def idsS : List S → Nat
 |[] => 0
 |.c c :: r => Nat.lor (idsC c) (idsS r)
 |_ :: r => idsS r
def idsE : List (Nat × SV) → Nat
 |[] => 0
 |(_, .pv v) :: r => Nat.lor (idsS v.segs) (idsE r)
 |_ :: r => idsE r
def idsH (m : Nat) : List (Nat × Nat × List S) → Nat
 |[] => m
 |(g, _, ss) :: r => cnd (Nat.beq (Nat.land (Nat.shiftRight m g) 1) 1) (Nat.lor (idsS ss) (idsH m r)) <| idsH m r
def o8 (m : Nat) : List (Nat × Nat × List S) → List (Nat × Nat × List S)
 |[] => []
 |(g, t, ss) :: r => cnd (Nat.beq (Nat.land (Nat.shiftRight m g) 1) 1) ((g, t, ss.map S.gen) :: o8 m r) <| o8 m r
def aAP (a b : Nat) : Nat := cnd (Nat.ble a b) (b) <| a
def C.top : C → Nat
 |.p g _ => g + 1
 |.pd g _ _ _ => g + 1
 |.sl g _ _ _ => g + 1
 |_ => 0
def tops : List S → Nat
 |[] => 0
 |.c u :: r => aAP u.top (tops r)
 |_ :: r => tops r
def topsV : List PV → Nat
 |[] => 0
 |v :: r => aAP (tops v.segs) (topsV r)
def SV.top : SV → Nat
 |.pv v => tops v.segs
 |.tup vs => topsV vs
 |.und => 0
def topE : List (Nat × SV) → Nat
 |[] => 0
 |(_, v) :: r => aAP v.top (topE r)
def topH : List (Nat × Nat × List S) → Nat
 |[] => 0
 |(g, _, ss) :: r => aAP (g + 1) (aAP (tops ss) (topH r))
def clean (m : Nat) (s : St) : St :=
 let e := tC s.env m nt
 let h := o8 (idsH (idsH (idsE e) s.heap) s.heap) s.heap
 ⟨e, h, aAP (topE e) (topH h)⟩

inductive Out where
 |nor | ret
 |ex (id : Nat)
def rU {R : Type} (f : Nat → St → (Out → St → Option R) → Option R) (m : Nat) : Nat → St → (Out → St → Option R) → Option R
 |0, _, _ => none
 |n + 1, s, K => f n s (fun o s' => match o with
  |.nor => rU f m n (clean nt m s') K
  |o => K o s')
def evJ {R : Type} (f : St → Option R) (s : St) : Option R := f s
abbrev kseq {R : Type} (g : St → (Out → St → Option R) → Option R) (K : Out → St → Option R) : Out → St → Option R
 |.nor, s => g s K
 |o, s => K o s
abbrev kblk {R : Type} (id : Nat) (K : Out → St → Option R) : Out → St → Option R
 |.ex j, s => cnd (Nat.beq j id) (K .nor s) <| K (.ex j) s
 |o, s => K o s
def aA4 : Code → Option Nat
 |.region id _ _ => some id
 |.seq a _ => aA4 a
 |.block _ c => aA4 c
 |.loop c => aA4 c
 |.cond _ a _ => aA4 a
 |_ => none
variable (rm : Nat) (cuts : List Nat)
def cutAt (cuts : List Nat) (b : Code) : Bool := match aA4 b with
 |some i => cuts.any (Nat.beq i)
 |none => false
def evC {R : Type} : Code → Nat → List (Nat × Nat) → Nat → St → (Out → St → Option R) → Option R
 |.skip, _, _, _, s, K => K .nor s
 |.region _ ops d, _, _, n, s, K => xR P nt cl n ops d s (K .nor)
 |.seq a b, lv, ex, n, s, K => evC a (lvC rm b lv ex) ex n s (kseq (fun s K => cnd (cutAt cuts b) (evJ (fun s => evC b lv ex n s K) (clean nt (lvC rm b lv ex) s)) <| evC b lv ex n s K) K)
 |.cond c a b, lv, ex, n, s, K => match ev s.env c with
  |some (.pv (.one (.b e))) => e.ite (evC a lv ex n s K) (evC b lv ex n s K)
  |_ => none
 |.block id c, lv, ex, n, s, K => evC c lv ((id, lv) :: ex) n s (kblk id K)
 |.loop c, _, ex, n, s, K => rU nt (fun n s K => evC c (lvC rm c 0 ex) ex n s K) (lvC rm c 0 ex) n (clean nt (lvC rm c 0 ex) s) K
 |.exit id, _, _, _, s, K => K (.ex id) s
 |.ret, _, _, _, s, K => K .ret s
 |_, _, _, _, _, _ => none
end

section
variable (P : Program) (nt : Nat) (cl : Cls) (rm : Nat) (cuts : List Nat)
def evAt {R : Type} : List Nat → Code → Nat → List (Nat × Nat) → List Nat → Nat → St → (Out → St → Option R) → Option R
 |[], c, lv, ex, _, n, s, K => evC P nt cl rm cuts c lv ex n s K
 |0 :: p, .seq a b, lv, ex, m :: fs, n, s, K => evAt p a (lvC rm b lv ex) ex (m :: fs) n s (kseq (fun s K => cnd (cutAt cuts b) (evJ (fun s => evC P nt cl rm cuts b lv ex m s K) (clean nt (lvC rm b lv ex) s)) <| evC P nt cl rm cuts b lv ex m s K) K)
 |_ :: p, .seq _ b, lv, ex, fs, n, s, K => evAt p b lv ex fs n s K
 |0 :: p, .cond _ a _, lv, ex, fs, n, s, K => evAt p a lv ex fs n s K
 |_ :: p, .cond _ _ b, lv, ex, fs, n, s, K => evAt p b lv ex fs n s K
 |_ :: p, .block id c, lv, ex, fs, n, s, K => evAt p c lv ((id, lv) :: ex) fs n s (kblk id K)
 |_ :: p, .loop c, _, ex, _ :: m :: fs, n, s, K => evAt p c (lvC rm c 0 ex) ex (m :: fs) n s (fun o s' => match o with
  |.nor => rU nt (fun n s K => evC P nt cl rm cuts c (lvC rm c 0 ex) ex n s K) (lvC rm c 0 ex) m (clean nt (lvC rm c 0 ex) s') K
  |o => K o s')
 |_, _, _, _, _, _, _, _ => none
end

def aBa (P : Program) (s : St) : ResultVar → Option PV
 |.tmp t => match look s.env t with
  |some (.pv v) => some v
  |_ => none
 |.cell a t => match look s.env a with
  |some (.pv (.one c)) => pF P t s.heap c
  |_ => none
def l8 (P : Program) (s : St) : List ResultVar → Option (List PV)
 |[] => some []
 |r :: rs => match aBa P s r, l8 P s rs with
  |some v, some vs => some (v :: vs)
  |_, _ => none
def rD (P : Program) (fn : Func) (s : St) : Option SV := match l8 P s fn.results.toList with
 |some [v] => some (.pv v)
 |some vs => some (.tup vs)
 |none => none
def resB (fn : Func) : Nat := fn.results.toList.foldl (fun m r => match r with
 |.tmp t => onB m t
 |.cell a _ => onB m a) 0
def argE : List PV → Nat → List (Nat × SV)
 |[], _ => []
 |v :: r, i => (i, .pv v) :: argE r (i + 1)
def kfin {R : Type} (P : Program) (fn : Func) (K : SV → Option R) : Out → St → Option R
 |.nor, s => (match rD P fn s with
  |some v => K v
  |none => none)
 |.ret, s => (match rD P fn s with
  |some v => K v
  |none => none)
 |_, _ => none
def evF {R : Type} (P : Program) (cl : Cls) (fn : Func) (cuts : List Nat) (n : Nat) (args : List PV) (K : SV → Option R) : Option R := match fn.body with
 |some c => cnd (Nat.beq fn.params.size args.length && Nat.ble args.length fn.ntmps) (evC P fn.ntmps cl (resB fn) cuts c (resB fn) [] n ⟨argE args 0, [], 0⟩ (kfin P fn K)) <| none
 |none => none
def evIn {R : Type} (P : Program) (cl : Cls) (fn : Func) (cuts : List Nat) (p fs : List Nat) (n : Nat) (s : St) (K : SV → Option R) : Option R := match fn.body with
 |some c => evAt P fn.ntmps cl (resB fn) cuts p c (resB fn) [] fs n s (kfin P fn K)
 |none => none
def kE {R : Type} (P : Program) (cl : Cls) (fn : Func) (cuts : List Nat) (p fs : List Nat) (n : Nat) (s : St) (K : SV → Option R) : Option R := match fn.body with
 |some c => evJ (fun s => evAt P fn.ntmps cl (resB fn) cuts p c (resB fn) [] fs n s (kfin P fn K)) s
 |none => none
/- The reckoner's values are the machine's; what yields a value yields it whatever the memory. -/

theorem BE.aAC {α : Type _} (b : BE) (t e : α) : b.ite t e = if b.d = true then t else e := by
 have dec : ∀ (c : Prop) [Decidable c], (if c then t else e) = if decide c = true then t else e := fun c _ => by by_cases h : c <;> simp [h]
 induction b generalizing t e with
 |tt => rfl
 |ff => rfl
 |q b => rfl
 |lt x y => exact dec (x < y)
 |le x y => exact dec (x ≤ y)
 |eq x y =>
  show (if x = y then t else e) = if (x == y) = true then t else e
  by_cases h : x = y <;> simp [h]
 |no b ih =>
  show b.ite e t = if (!b.d) = true then t else e
  rw [ih e t (fun c _ => by by_cases h : c <;> simp [h])]
  by_cases h : b.d = true <;> simp [h]
theorem BE.r9 (b : BE) : b.neg.d = !b.d := by cases b <;> simp [BE.neg, BE.d]
theorem BE.sD (b : Bool) : (BE.lit b).d = b := by cases b <;> rfl
theorem IE.rY (a b : IE) (n : Int) : (IE.mk2 a b n).d = n := by cases a <;> cases b <;> rfl
theorem IE.cmp_d (a b : IE) (e : BE) : (IE.cmp a b e).d = e.d := by cases a <;> cases b <;> simp [IE.cmp, BE.sD]
theorem IE.nz_d (a : IE) : a.nz.d = (a.d == 0) := by cases a <;> simp [IE.nz, IE.d, BE.sD, BE.d]
theorem IE.ge0_d (a : IE) : a.ge0.d = decide (0 ≤ a.d) := by
 cases a
 ·exact BE.sD _
 ·rfl
theorem fA (k : IntKind) (n : Int) : iG k n = k.wrap n := by
 cases k <;> first | rfl | exact (i64_w n).symm | exact (i32_w n).symm | exact (IntKind.wrap_u32 n).symm | exact (IntKind.wrap_u8 n).symm
theorem eqB_d (a b : BE) : (eqB a b).d = (a.d == b.d) := by
 have h : ∀ x : Bool, (true == x) = x ∧ (false == x) = !x ∧ (x == true) = x ∧ (x == false) = !x := by decide
 unfold eqB
 split
 ·exact (h _).1.symm
 ·rw [BE.r9]; exact (h _).2.1.symm
 ·exact (h _).2.2.1.symm
 ·rw [BE.r9]; exact (h _).2.2.2.symm
 ·rfl

def C.v (m : Nat → Nat) : C → Value
 |.i k x => .int k x.d
 |.b x => .bool x.d
 |.p g o => .pointer (some ⟨m g, o, none⟩)
 |.pd g o j _ => .pointer (some ⟨m g, o + j.toNat, none⟩)
 |.sl g o n c => .slice (some ⟨m g, o, none⟩) n c
def S.v (m : Nat → Nat) : S → List Value
 |.c u => [u.v m]
 |.a k xs _ => xs.map (Value.int k)
def vals (m : Nat → Nat) : List S → List Value
 |[] => []
 |s :: r => s.v m ++ vals m r
def PV.v (m : Nat → Nat) : PV → Value
 |.one c => c.v m
 |.agg ss => .agg (vals m ss).toArray
def SV.v (m : Nat → Nat) : SV → Value
 |.pv u => u.v m
 |.tup vs => .tuple (vs.map (PV.v m)).toArray
 |.und => undef
def C.ok (N : Nat) : C → Prop
 |.p g _ => g < N
 |.pd g _ j n => g < N ∧ 0 ≤ j ∧ j < n
 |.sl g _ _ _ => g < N
 |_ => True
def S.ok (N : Nat) : S → Prop
 |.c u => u.ok N
 |.a _ xs n => xs.length = n
def oks (N : Nat) : List S → Prop
 |[] => True
 |s :: r => s.ok N ∧ oks N r
def PV.ok (N : Nat) : PV → Prop
 |.one c => c.ok N
 |.agg ss => oks N ss
def SV.ok (N : Nat) : SV → Prop
 |.pv u => u.ok N
 |.tup vs => ∀ v ∈ vs, v.ok N
 |.und => True

theorem C.one (m : Nat → Nat) (c : C) : (c.v m).oneCell' = true := by cases c <;> rfl
theorem C.cells (m : Nat → Nat) (c : C) : (c.v m).cells = #[c.v m] := by cases c <;> rfl
theorem eF (m : Nat → Nat) (a b : List S) : vals m (a ++ b) = vals m a ++ vals m b := by
 induction a with
 |nil => rfl
 |cons s r ih => simp [vals, ih]
theorem jB {N : Nat} {a b : List S} : oks N (a ++ b) ↔ oks N a ∧ oks N b := by
 induction a with
 |nil => simp [oks]
 |cons s r ih => simp [oks, ih, and_assoc]
theorem S.length (m : Nat → Nat) {N : Nat} (s : S) (h : s.ok N) : (s.v m).length = s.len := by
 cases s with
 |c u => rfl
 |a k xs n =>
  show (xs.map (Value.int k)).length = n
  rw [List.length_map]; exact h
theorem cZ (m : Nat → Nat) {N : Nat} (ss : List S) (h : oks N ss) : (vals m ss).length = nO ss := by
 induction ss with
 |nil => rfl
 |cons s r ih => simp [vals, nO, S.length m s h.1, ih h.2]
theorem pX (m : Nat → Nat) (ss : List S) : ∀ v ∈ vals m ss, v.oneCell' = true := by
 induction ss with
 |nil => simp [vals]
 |cons s r ih =>
  intro v hv
  rcases List.mem_append.1 hv with h | h
  ·cases s with
   |c u =>
    obtain rfl : v = u.v m := by simpa [S.v] using h
    exact C.one m u
   |a k xs n =>
    obtain ⟨x, _, rfl⟩ : ∃ x ∈ xs, Value.int k x = v := by simpa [S.v] using h
    rfl
  ·exact ih v h

theorem pI {α : Type _} {b : Bool} {x y z : α} (h : (cnd (b) (x) <| y) = z) : (b = true ∧ x = z) ∨ (b = false ∧ y = z) := by
 cases b
 ·exact .inr ⟨rfl, h⟩
 ·exact .inl ⟨rfl, h⟩
theorem fI {α : Type _} {b : Bool} {x : Option α} {r : α} (h : (cnd (b) (x) <| none) = some r) : b = true ∧ x = some r := by
 cases b
 ·cases h
 ·exact ⟨rfl, h⟩

theorem nG {vs : List Value} {ss : List S} (m : Nat → Nat) (N : Nat) (h : kJ vs = some ss) : vals m ss = vs ∧ oks N ss := by
 induction vs generalizing ss with
 |nil => cases h; exact ⟨rfl, trivial⟩
 |cons v r ih =>
  unfold kJ at h
  split at h
  ·next c cs h1 h2 =>
   cases h
   obtain ⟨e, o⟩ := ih h2
   have : c.v m = [v] ∧ c.ok N := by
    unfold qL at h1
    split at h1
    ·cases h1; exact ⟨rfl, trivial⟩
    ·next b => cases h1; exact ⟨by cases b <;> rfl, trivial⟩
    ·cases h1
   exact ⟨by simp [vals, this.1, e], this.2, o⟩
  ·cases h
theorem ofV_v {c : Value} {v : SV} (m : Nat → Nat) (N : Nat) (h : ofV c = some v) : v.v m = c ∧ v.ok N := by
 unfold ofV at h
 split at h
 ·cases h; exact ⟨rfl, trivial⟩
 ·next b => cases h; exact ⟨by cases b <;> rfl, trivial⟩
 ·next cs =>
  split at h
  ·next ss h1 =>
   cases h
   obtain ⟨e, o⟩ := nG m N h1
   refine ⟨?_, o⟩
   show Value.agg (vals m ss).toArray = _
   rw [e]
  ·cases h
 ·cases h

def Knows (m : Nat → Nat) (N : Nat) (env : List (Nat × SV)) (a : Act) : Prop := ∀ t v, look env t = some v → v.ok N ∧ a.tmps.getD t undef = v.v m
theorem gY {m : Nat → Nat} {N : Nat} {env : List (Nat × SV)} {a : Act} (hk : Knows m N env a) {x : Operand} {v : SV} (h : ev env x = some v) : v.ok N ∧ a.eval x = v.v m := by
 cases x with
 |tmp t => exact hk t v h
 |const c => obtain ⟨e, o⟩ := ofV_v m N h; exact ⟨o, e.symm⟩
 |global g => cases h
 |func f => cases h
theorem rW {m : Nat → Nat} {N : Nat} {env : List (Nat × SV)} {a : Act} (hk : Knows m N env a) {xs : List Operand} {vs : List PV} (h : evs env xs = some vs) : (∀ v ∈ vs, v.ok N) ∧ xs.map a.eval = vs.map (PV.v m) := by
 induction xs generalizing vs with
 |nil => cases h; exact ⟨by simp, rfl⟩
 |cons x r ih =>
  unfold evs at h
  split at h
  ·next v ws h1 h2 =>
   cases h
   obtain ⟨o, e⟩ := gY hk h1
   obtain ⟨o', e'⟩ := ih h2
   refine ⟨fun u hu => ?_, by simp [e, e', SV.v]⟩
   rcases List.mem_cons.1 hu with rfl | hu
   ·exact o
   ·exact o' u hu
  ·cases h

theorem aAi {R : Type} (P : Program) (t : TypeId) {op : BinOp} {k k' : IntKind} {a b : IE} {K : C → Option R} {r : R} (m : Nat → Nat) (N : Nat) (h : binI op k k' a b K = some r) :
  ∃ c, K c = some r ∧ c.ok N ∧ ∀ w, (binOp op t (.int k a.d) (.int k' b.d)).run P w = .ok (c.v m) w := by
 have ite0 : ∀ {z : Option R}, b.ge0.ite z none = some r → 0 ≤ b.d ∧ z = some r := by
  intro z h
  rw [BE.aAC, IE.ge0_d] at h
  by_cases c : 0 ≤ b.d
  ·exact ⟨c, by simpa [c] using h⟩
  ·simp [c] at h
 have itz : ∀ {z : Option R}, b.nz.ite none z = some r → b.d ≠ 0 ∧ z = some r := by
  intro z h
  rw [BE.aAC, IE.nz_d] at h
  by_cases c : b.d = 0
  ·simp [c] at h
  ·exact ⟨c, by simpa [c] using h⟩
 cases op <;> unfold binI at h <;> simp only [] at h
 case shl =>
  obtain ⟨h0, h1⟩ := ite0 h
  exact ⟨_, h1, trivial, fun w => by simp [binOp, Op.shift, Int.not_lt.mpr h0, C.v, IE.rY, shl]⟩
 case shr =>
  obtain ⟨h0, h1⟩ := ite0 h
  have hp : ∀ n : Nat, (0 : Int) ≤ 2 ^ n := fun n => Int.pow_nonneg (by decide)
  exact ⟨_, h1, trivial, fun w => by simp [binOp, Op.shift, Int.not_lt.mpr h0, C.v, IE.rY, shr, Int.fdiv_eq_ediv_of_nonneg _ (hp _)]⟩
 all_goals (have hb := fI h; clear h; obtain ⟨hk, h⟩ := hb; have he := of_decide_eq_true hk; clear hk; subst he)
 case quo =>
  obtain ⟨h0, h1⟩ := itz h
  exact ⟨_, h1, trivial, fun w => by simp [binOp, Op.intDiv, h0, C.v, IE.rY, fA]⟩
 case rem =>
  obtain ⟨h0, h1⟩ := itz h
  exact ⟨_, h1, trivial, fun w => by simp [binOp, Op.intDiv, h0, C.v, IE.rY]⟩
 all_goals exact ⟨_, h, trivial, fun w => by simp [binOp, Op.intArith, Op.intBits, Op.intCmp, Go.bits, C.v, IE.rY, IE.cmp_d, BE.r9, BE.d, fA, bne, GT.gt, GE.ge]⟩
/- Cells of the reckoner and of the machine. -/

theorem nQ {ss : List S} : ∀ {n : Nat} {a b : List S}, nZ ss n = some (a, b) → ss = a ++ b ∧ nO a = n := by
 induction ss with
 |nil =>
  intro n a b h
  obtain ⟨h0, h1⟩ := fI h
  cases h1
  exact ⟨rfl, (Nat.eq_of_beq_eq_true h0).symm⟩
 |cons s r ih =>
  intro n a b h
  unfold nZ at h
  rcases pI h with ⟨h0, h1⟩ | ⟨_, h1⟩
  ·cases h1
   exact ⟨rfl, (Nat.eq_of_beq_eq_true h0).symm⟩
  ·obtain ⟨h2, h3⟩ := fI h1
   have h2 := Nat.le_of_ble_eq_true h2
   split at h3
   ·next a' b' h4 =>
    cases h3
    obtain ⟨e1, e2⟩ := ih h4
    exact ⟨by rw [e1]; rfl, by show s.len + nO a' = n; omega⟩
   ·cases h3
theorem sub_v (m : Nat → Nat) {N : Nat} {ss a : List S} {o n : Nat} (ho : oks N ss) (h : sub ss o n = some a) : oks N a ∧ nO a = n ∧ vals m a = ((vals m ss).drop o).take n ∧ o + n ≤ (vals m ss).length := by
 unfold sub at h
 split at h
 ·next p r h1 =>
  split at h
  ·next a' q h2 =>
   cases h
   obtain ⟨e1, l1⟩ := nQ h1
   obtain ⟨e2, l2⟩ := nQ h2
   subst e2
   subst e1
   rw [jB, jB] at ho
   obtain ⟨o1, o2, o3⟩ := ho
   have v1 := cZ m p o1
   have v2 := cZ m a o2
   refine ⟨o2, l2, ?_, ?_⟩
   ·rw [eF, eF, List.drop_append_of_le_length (by omega), List.drop_eq_nil_of_le (by omega), List.nil_append, List.take_append_of_le_length (by omega), List.take_of_length_le (by omega)]
   ·rw [eF, eF]; simp only [List.length_append]; omega
  ·cases h
 ·cases h
theorem yJ (m : Nat → Nat) {N : Nat} {ss : List S} : ∀ {o : Nat} {c : C}, oks N ss → cellAt ss o = some c → c.ok N ∧ (vals m ss)[o]? = some (c.v m) := by
 induction ss with
 |nil => intro o c _ h; cases h
 |cons s r ih =>
  intro o c ho h
  cases s with
  |c u =>
   unfold cellAt at h
   rcases pI h with ⟨h0, h1⟩ | ⟨h0, h1⟩
   ·cases h1
    obtain rfl := Nat.eq_of_beq_eq_true h0
    exact ⟨ho.1, rfl⟩
   ·obtain ⟨p, rfl⟩ : ∃ p, o = p + 1 := ⟨o - 1, by have := Nat.ne_of_beq_eq_false h0; omega⟩
    obtain ⟨a, b⟩ := ih ho.2 h1
    exact ⟨a, by simpa [vals, S.v] using b⟩
  |a k xs n =>
   have hl : xs.length = n := ho.1
   unfold cellAt at h
   rcases pI h with ⟨h0, h1⟩ | ⟨h0, h1⟩
   ·cases h1
    have h0 : o < n := Nat.le_of_ble_eq_true h0
    refine ⟨trivial, ?_⟩
    show (xs.map (Value.int k) ++ vals m r)[o]? = some (.int k (rd xs (Int.ofNat o)))
    rw [List.getElem?_append_left (by rw [List.length_map]; omega), List.getElem?_map, List.getElem?_eq_getElem (by omega)]
    simp [rd, show o < xs.length by omega]
   ·have h0 : ¬ o < n := fun hh => by
     have : Nat.blt o n = true := Nat.ble_eq.mpr hh
     rw [this] at h0; cases h0
    obtain ⟨a, b⟩ := ih ho.2 h1
    refine ⟨a, ?_⟩
    show (xs.map (Value.int k) ++ vals m r)[o]? = some (c.v m)
    rw [List.getElem?_append_right (by rw [List.length_map]; omega), List.length_map, hl]
    exact b
theorem aAs (m : Nat → Nat) {N : Nat} {ss : List S} : ∀ {o : Nat} {c : C} {ss' : List S}, oks N ss → c.ok N → setAt ss o c = some ss' → oks N ss' ∧ vals m ss' = (vals m ss).set o (c.v m) ∧ o < (vals m ss).length ∧ nO ss' = nO ss := by
 induction ss with
 |nil => intro o c ss' _ _ h; cases h
 |cons s r ih =>
  intro o c ss' ho hc h
  cases s with
  |c u =>
   unfold setAt at h
   rcases pI h with ⟨h0, h1⟩ | ⟨h0, h1⟩
   ·cases h1
    obtain rfl := Nat.eq_of_beq_eq_true h0
    exact ⟨⟨hc, ho.2⟩, rfl, by simp [vals, S.v], rfl⟩
   ·obtain ⟨p, rfl⟩ : ∃ p, o = p + 1 := ⟨o - 1, by have := Nat.ne_of_beq_eq_false h0; omega⟩
    split at h1
    ·next r' h2 =>
     cases h1
     obtain ⟨a, b, l, e⟩ := ih ho.2 hc h2
     exact ⟨⟨ho.1, a⟩, by simp only [Nat.add_sub_cancel] at b; simp [vals, S.v, b], by simp only [Nat.add_sub_cancel] at l; simp [vals, S.v]; omega, by simp [nO, e]⟩
    ·cases h1
  |a k xs n =>
   have hl : xs.length = n := ho.1
   unfold setAt at h
   rcases pI h with ⟨h0, h1⟩ | ⟨h0, h1⟩
   ·have h0 : o < n := Nat.le_of_ble_eq_true h0
    split at h1
    ·next k' v =>
     obtain ⟨h2, h3⟩ := fI h1
     cases h3
     obtain rfl := of_decide_eq_true h2
     refine ⟨⟨by show (xs.set o v.d).length = n; rw [List.length_set]; exact hl, ho.2⟩, ?_, ?_, rfl⟩
     ·show (xs.set o v.d).map (Value.int k') ++ vals m r = (xs.map (Value.int k') ++ vals m r).set o (.int k' v.d)
      rw [List.set_append_left _ _ (by rw [List.length_map]; omega), List.map_set]
     ·show o < (xs.map (Value.int k') ++ vals m r).length
      rw [List.length_append, List.length_map]; omega
    ·cases h1
   ·have h0 : ¬ o < n := fun hh => by
     have : Nat.blt o n = true := Nat.ble_eq.mpr hh
     rw [this] at h0; cases h0
    split at h1
    ·next r' h2 =>
     cases h1
     obtain ⟨a, b, l, e⟩ := ih ho.2 hc h2
     refine ⟨⟨ho.1, a⟩, ?_, ?_, by simp [nO, e]⟩
     ·show xs.map (Value.int k) ++ vals m r' = (xs.map (Value.int k) ++ vals m r).set o (c.v m)
      rw [List.set_append_right _ _ (by rw [List.length_map]; omega), List.length_map, hl, b]
     ·show o < (xs.map (Value.int k) ++ vals m r).length
      rw [List.length_append, List.length_map]; omega
    ·cases h1
theorem runAt_v (m : Nat → Nat) {N : Nat} {ss : List S} : ∀ {o n : Nat} {k : IntKind} {xs : List Int}, oks N ss → rX ss o = some (k, xs, n) → xs.length = n ∧ ∃ a b, vals m ss = a ++ (xs.map (Value.int k) ++ b) ∧ a.length = o := by
 induction ss with
 |nil => intro o n k xs _ h; cases h
 |cons s r ih =>
  intro o n k xs ho h
  cases s with
  |c u =>
   unfold rX at h
   rcases pI h with ⟨h0, h1⟩ | ⟨h0, h1⟩
   ·cases h1
   ·obtain ⟨p, rfl⟩ : ∃ p, o = p + 1 := ⟨o - 1, by have := Nat.ne_of_beq_eq_false h0; omega⟩
    obtain ⟨l, a, b, e, la⟩ := ih ho.2 h1
    exact ⟨l, u.v m :: a, b, by simp [vals, S.v, e], by simpa using la⟩
  |a k' xs' n' =>
   have hl : xs'.length = n' := ho.1
   unfold rX at h
   rcases pI h with ⟨h0, h1⟩ | ⟨h0, h1⟩
   ·cases h1
    obtain rfl := Nat.eq_of_beq_eq_true h0
    exact ⟨hl, [], vals m r, rfl, rfl⟩
   ·obtain ⟨h2, h3⟩ := fI h1
    have h2 := Nat.le_of_ble_eq_true h2
    obtain ⟨l, a, b, e, la⟩ := ih ho.2 h3
    exact ⟨l, xs'.map (Value.int k') ++ a, b, by simp [vals, S.v, e], by simp [la]; omega⟩
theorem setRun_v (m : Nat → Nat) {N : Nat} {ss : List S} : ∀ {o n i : Nat} {k : IntKind} {xs : List Int} {y : Int}, oks N ss → rX ss o = some (k, xs, n) → i < n →
  oks N (kG ss o (xs.set i y)) ∧ vals m (kG ss o (xs.set i y)) = (vals m ss).set (o + i) (.int k y) ∧ o + i < (vals m ss).length ∧ nO (kG ss o (xs.set i y)) = nO ss := by
 induction ss with
 |nil => intro o n i k xs y _ h; cases h
 |cons s r ih =>
  intro o n i k xs y ho h hi
  cases s with
  |c u =>
   unfold rX at h
   rcases pI h with ⟨h0, h1⟩ | ⟨h0, h1⟩
   ·cases h1
   ·obtain ⟨p, rfl⟩ : ∃ p, o = p + 1 := ⟨o - 1, by have := Nat.ne_of_beq_eq_false h0; omega⟩
    obtain ⟨a, b, l, e⟩ := ih (y := y) ho.2 h1 hi
    have hs : kG (.c u :: r) (p + 1) (xs.set i y) = .c u :: kG r p (xs.set i y) := rfl
    simp only [Nat.add_sub_cancel] at a b l e
    rw [hs]
    refine ⟨⟨ho.1, a⟩, ?_, ?_, by simp [nO, e]⟩
    ·show u.v m :: vals m (kG r p (xs.set i y)) = (u.v m :: vals m r).set (p + 1 + i) (.int k y)
     rw [b, show p + 1 + i = (p + i) + 1 by omega, List.set_cons_succ]
    ·show p + 1 + i < (u.v m :: vals m r).length
     rw [List.length_cons]; omega
  |a k' xs' n' =>
   have hl : xs'.length = n' := ho.1
   unfold rX at h
   rcases pI h with ⟨h0, h1⟩ | ⟨h0, h1⟩
   ·cases h1
    obtain rfl := Nat.eq_of_beq_eq_true h0
    have hs : kG (.a k xs n :: r) 0 (xs.set i y) = .a k (xs.set i y) n :: r := rfl
    rw [hs]
    refine ⟨⟨by show (xs.set i y).length = n; rw [List.length_set]; exact hl, ho.2⟩, ?_, ?_, rfl⟩
    ·show (xs.set i y).map (Value.int k) ++ vals m r = (xs.map (Value.int k) ++ vals m r).set (0 + i) (.int k y)
     rw [Nat.zero_add, List.set_append_left _ _ (by rw [List.length_map]; omega), List.map_set]
    ·show 0 + i < (xs.map (Value.int k) ++ vals m r).length
     rw [List.length_append, List.length_map]; omega
   ·obtain ⟨h2, h3⟩ := fI h1
    have h2 := Nat.le_of_ble_eq_true h2
    obtain ⟨a, b, l, e⟩ := ih (y := y) ho.2 h3 hi
    have hs : kG (.a k' xs' n' :: r) o (xs.set i y) = .a k' xs' n' :: kG r (o - n') (xs.set i y) := by simp [kG, h0]
    rw [hs]
    refine ⟨⟨ho.1, a⟩, ?_, ?_, by simp [nO, e]⟩
    ·show xs'.map (Value.int k') ++ vals m (kG r (o - n') (xs.set i y)) = (xs'.map (Value.int k') ++ vals m r).set (o + i) (.int k y)
     rw [List.set_append_right _ _ (by rw [List.length_map]; omega), List.length_map, b, hl, show o + i - n' = o - n' + i by omega]
    ·show o + i < (xs'.map (Value.int k') ++ vals m r).length
     rw [List.length_append, List.length_map]; omega
theorem wF (a b : List S) : nO (a ++ b) = nO a + nO b := by
 induction a with
 |nil => simp [nO]
 |cons s r ih => simp [nO, ih, Nat.add_assoc]
theorem yP (m : Nat → Nat) {N : Nat} {ss new ss' : List S} {o : Nat} (ho : oks N ss) (hn : oks N new) (h : yK ss o new = some ss') :
  oks N ss' ∧ vals m ss' = (vals m ss).take o ++ (vals m new ++ (vals m ss).drop (o + nO new)) ∧ o + nO new ≤ (vals m ss).length ∧ nO ss' = nO ss := by
 unfold yK at h
 split at h
 ·next a r h1 =>
  split at h
  ·next q b h2 =>
   cases h
   obtain ⟨e1, l1⟩ := nQ h1
   obtain ⟨e2, l2⟩ := nQ h2
   subst e2
   subst e1
   rw [jB, jB] at ho
   obtain ⟨o1, o2, o3⟩ := ho
   have v1 := cZ m a o1
   have v2 := cZ m q o2
   refine ⟨by rw [jB, jB]; exact ⟨o1, hn, o3⟩, ?_, ?_, by simp only [wF]; omega⟩
   ·have t1 : (vals m a ++ (vals m q ++ vals m b)).take o = vals m a := List.take_left' (by omega)
    have t2 : (vals m a ++ (vals m q ++ vals m b)).drop (o + nO new) = vals m b := by
     rw [← List.append_assoc]; exact List.drop_left' (by rw [List.length_append]; omega)
    rw [eF, eF, eF, eF, t1, t2]
   ·rw [eF, eF]; simp only [List.length_append]; omega
  ·cases h
 ·cases h
theorem isLit_go {k : IntKind} : ∀ {xs : List Int} {n : Nat} {vs q : List Value}, isLit.go k xs n vs = some q → vs = xs.map (Value.int k) ++ q ∧ xs.length = n := by
 intro xs
 induction xs with
 |nil =>
  intro n vs q h
  cases n with
  |zero => cases h; exact ⟨rfl, rfl⟩
  |succ n => cases h
 |cons x xs ih =>
  intro n vs q h
  cases n with
  |zero => cases h
  |succ n =>
   cases vs with
   |nil => cases h
   |cons v vs =>
    cases v with
    |int k' y =>
     unfold isLit.go at h
     obtain ⟨h0, h1⟩ := fI h
     rw [Bool.and_eq_true] at h0
     obtain rfl := of_decide_eq_true h0.1
     obtain rfl := eq_of_beq h0.2
     obtain ⟨e, l⟩ := ih h1
     exact ⟨by rw [e]; rfl, by simp [l]⟩
    |_ => cases h
theorem isLit_v (m : Nat → Nat) (N : Nat) {s : S} {vs q : List Value} (h : isLit s vs = some q) : vs = s.v m ++ q ∧ s.ok N := by
 unfold isLit at h
 split at h
 ·obtain ⟨h0, h1⟩ := fI h
  cases h1
  rw [Bool.and_eq_true] at h0
  obtain rfl := of_decide_eq_true h0.1
  obtain rfl := eq_of_beq h0.2
  exact ⟨rfl, trivial⟩
 ·cases h; exact ⟨rfl, trivial⟩
 ·exact isLit_go h
 ·cases h
theorem yA (m : Nat → Nat) (N : Nat) {ss : List S} : ∀ {vs : List Value}, xY ss vs = true → vals m ss = vs ∧ oks N ss := by
 induction ss with
 |nil =>
  intro vs h
  cases vs with
  |nil => exact ⟨rfl, trivial⟩
  |cons v vs => cases h
 |cons s r ih =>
  intro vs h
  unfold xY at h
  split at h
  ·next q h1 =>
   obtain ⟨e, o⟩ := isLit_v m N h1
   obtain ⟨e', o'⟩ := ih h
   exact ⟨by rw [e, ← e']; rfl, o, o'⟩
  ·cases h

section
variable {P : Program}
theorem zeroS_v (m : Nat → Nat) (N : Nat) {t : Nat} {ss : List S} (h : lT P t = some ss) : oks N ss ∧ ∃ v, v.cells.toList = vals m ss ∧ ∀ w, (zeroValue t).run P w = .ok v w := by
 unfold lT at h
 split at h
 ·next i h1 =>
  split at h
  ·next v h2 =>
   split at h
   ·next ss' _ =>
    obtain ⟨h3, h4⟩ := fI h
    cases h4
    obtain ⟨e, o⟩ := yA m N h3
    exact ⟨o, v, e.symm, fun w => by simp [zeroValue, typeInfo, h1, h2]⟩
   ·cases h
  ·cases h
 ·cases h
theorem fO {t n : Nat} (h : gZ P t = some n) (w : World) : (sizeOf t).run P w = .ok n w := by
 unfold gZ at h
 split at h
 ·next i h1 => cases h; simp [sizeOf, typeInfo, h1]
 ·cases h
theorem kW {t n : Nat} (h : gZ P t = some n) : (P.info? t).map (·.size) = some n := by
 unfold gZ at h
 split at h
 ·next i h1 => cases h; rw [h1]; rfl
 ·cases h
theorem gX {t : Nat} {b : Bool} (h : iK P t = some b) (w : World) : (isAgg t).run P w = .ok b w := by
 unfold iK at h
 cases hu : P.underlying t with
 |none => rw [hu] at h; cases h
 |some d =>
  rw [hu] at h
  cases d <;> cases h <;> simp [isAgg, underlying, hu]
theorem uL (m : Nat → Nat) {N : Nat} {t o : Nat} {ss : List S} {v : PV} (ho : oks N ss) (h : pM P t ss o = some v) : v.ok N ∧ ∀ w, (part t (vals m ss).toArray o).run P w = .ok (v.v m) w := by
 unfold pM at h
 split at h
 ·next n h1 h2 =>
  split at h
  ·next r h3 =>
   cases h
   obtain ⟨a, b, c, d⟩ := sub_v m ho h3
   refine ⟨a, fun w => ?_⟩
   have h1 := gX h1
   have h2 := fO h2
   simp [part, h1, h2, PV.v]
   exact c.symm
  ·cases h
 ·next n h1 h2 =>
  split at h
  ·next c h3 =>
   cases h
   obtain ⟨a, b⟩ := yJ m ho h3
   have h1 := gX h1
   exact ⟨a, fun w => by simp [part, h1, b, PV.v]⟩
  ·cases h
 ·cases h
end
/- What yields a value yields it whatever the memory. -/

section
variable {P : Program}
theorem jO {t o : Nat} {vs : List Value} {v : Value} (ha : iK P t = some false) (h : vs[o]? = some v) (w : World) : (part t vs.toArray o).run P w = .ok v w := by
 have ha := gX ha
 simp [part, ha, h]
theorem eqF_v (m : Nat → Nat) {d : Nat} {fs : List Field} : ∀ {i : Nat} {a b : List S} {e : Bool} (pa pb : List Value), pa.length = i → pb.length = i → eqF P fs i a b = some e →
  ∀ w, (Op.eqFields (d + 1) (pa ++ vals m a).toArray (pb ++ vals m b).toArray fs).run P w = .ok e w := by
 induction fs with
 |nil =>
  intro i a b e pa pb _ _ h w
  unfold eqF at h
  split at h
  ·cases h
   have : pa ++ vals m [] = pa := by simp [vals]
   exact eqf_nil
  ·cases h
 |cons f fs ih =>
  intro i a b e pa pb la lb h w
  unfold eqF at h
  split at h
  ·next k x r k' y q =>
   split at h
   ·next kk hu =>
    split at h
    ·next t ht =>
     obtain ⟨h4, h5⟩ := fI h
     cases h5
     simp only [Bool.and_eq_true] at h4
     obtain ⟨⟨h6, h7⟩, h8⟩ := h4
     obtain rfl := of_decide_eq_true h8
     have h7 := Nat.eq_of_beq_eq_true h7
     have hag : iK P f.type = some false := by simp [iK, hu]
     have e1 : ∀ (p : List Value) (z : IE) (s : List S), p ++ vals m (.c (.i k z) :: s) = (p ++ [Value.int k z.d]) ++ vals m s := fun p z s => by simp [vals, S.v, C.v]
     refine eqf_cons (by simpa using h6) (jO hag (v := .int k x.d) ?_ w) (jO hag (v := .int k y.d) ?_ w) (run_equalIn_int w _ _ _ _ _ _ hu) ?_
     ·rw [h7, e1, List.getElem?_append_left (by simp; omega), List.getElem?_append_right (by omega), la, Nat.sub_self]; rfl
     ·rw [h7, e1, List.getElem?_append_left (by simp; omega), List.getElem?_append_right (by omega), lb, Nat.sub_self]; rfl
     ·rw [e1, e1]
      exact ih (pa ++ [Value.int k x.d]) (pb ++ [Value.int k y.d]) (by simp [la]) (by simp [lb]) ht w
    ·cases h
   ·cases h
  ·next x r y q =>
   split at h
   ·next hu =>
    split at h
    ·next t ht =>
     obtain ⟨h4, h5⟩ := fI h
     cases h5
     simp only [Bool.and_eq_true] at h4
     obtain ⟨h6, h7⟩ := h4
     have h7 := Nat.eq_of_beq_eq_true h7
     have hag : iK P f.type = some false := by simp [iK, hu]
     have e1 : ∀ (p : List Value) (z : BE) (s : List S), p ++ vals m (.c (.b z) :: s) = (p ++ [Value.bool z.d]) ++ vals m s := fun p z s => by simp [vals, S.v, C.v]
     refine eqf_cons (by simpa using h6) (jO hag (v := .bool x.d) ?_ w) (jO hag (v := .bool y.d) ?_ w) (run_equalIn_bool' w _ _ _ _ hu) ?_
     ·rw [h7, e1, List.getElem?_append_left (by simp; omega), List.getElem?_append_right (by omega), la, Nat.sub_self]; rfl
     ·rw [h7, e1, List.getElem?_append_left (by simp; omega), List.getElem?_append_right (by omega), lb, Nat.sub_self]; rfl
     ·rw [e1, e1]
      exact ih (pa ++ [Value.bool x.d]) (pb ++ [Value.bool y.d]) (by simp [la]) (by simp [lb]) ht w
    ·cases h
   ·cases h
  ·cases h
theorem rQ (m : Nat → Nat) {k : IntKind} {ss : List S} : ∀ {xs : List Int}, uJ k ss = some xs → vals m ss = xs.map (Value.int k) := by
 induction ss with
 |nil => intro xs h; cases h; rfl
 |cons s r ih =>
  intro xs h
  cases s with
  |c u =>
   cases u with
   |i k' x =>
    unfold uJ at h
    split at h
    ·next ys hy =>
     obtain ⟨h1, h2⟩ := fI h
     cases h2
     obtain rfl := of_decide_eq_true h1
     simp [vals, S.v, C.v, ih hy]
    ·cases h
   |_ => cases h
  |a k' zs n =>
   unfold uJ at h
   split at h
   ·next ys hy =>
    obtain ⟨h1, h2⟩ := fI h
    cases h2
    obtain rfl := of_decide_eq_true h1
    simp [vals, S.v, ih hy]
   ·cases h
theorem aAm {e : Nat} {k k0 : IntKind} (hu : P.underlying e = some (.int k0)) (xs ys : List Int) {d : Nat} (w : World) : ∀ (n i : Nat), i + n = xs.length → i + n = ys.length →
  (Op.eqItems (d + 1) e 1 (xs.map (Value.int k)).toArray (ys.map (Value.int k)).toArray (List.range' i n)).run P w = .ok (xs.drop i == ys.drop i) w := by
 have hag : iK P e = some false := by simp [iK, hu]
 intro n
 induction n with
 |zero =>
  intro i hx hy
  rw [List.drop_eq_nil_of_le (by omega), List.drop_eq_nil_of_le (by omega)]
  simp [Op.eqItems]
 |succ n ih =>
  intro i hx hy
  have hi : i < xs.length := by omega
  have hj : i < ys.length := by omega
  have p1 : (part e (xs.map (Value.int k)).toArray i).run P w = .ok (.int k xs[i]) w := jO hag (by rw [List.getElem?_map, List.getElem?_eq_getElem hi]; rfl) w
  have p2 : (part e (ys.map (Value.int k)).toArray i).run P w = .ok (.int k ys[i]) w := jO hag (by rw [List.getElem?_map, List.getElem?_eq_getElem hj]; rfl) w
  have p3 := run_equalIn_int (P := P) w d e k k0 xs[i] ys[i] hu
  have hr := ih (i + 1) (by omega) (by omega)
  rw [List.range'_succ, List.drop_eq_getElem_cons hi, List.drop_eq_getElem_cons hj]
  simp only [Op.eqItems, Nat.mul_one, Sem.run_bind, p1, p2, p3, Result.andThen_ok]
  generalize xs[i] = x
  generalize ys[i] = y
  generalize xs.drop (i + 1) = A at *
  generalize ys.drop (i + 1) = B at *
  rw [List.cons_beq_cons]
  by_cases c : x = y
  ·simp only [c, beq_self_eq_true, Bool.not_true, Bool.false_eq_true, if_false, Bool.true_and]; exact hr
  ·have : (x == y) = false := by simpa using c
   simp only [this, Bool.not_false, if_true, Bool.false_and]; rfl
theorem eqT_v (m : Nat → Nat) {N t : Nat} {a b : List S} {e : Bool} (oa : oks N a) (ob : oks N b) (h : eqT P t a b = some e) : P.eqGuardType P.depth t = false ∧ ∀ w, (Op.equalIn 10000 t (.agg (vals m a).toArray) (.agg (vals m b).toArray)).run P w = .ok e w := by
 unfold eqT at h
 split at h
 ·next fs hu =>
  obtain ⟨h1, h2⟩ := fI h
  simp only [Bool.and_eq_true, Bool.not_eq_true'] at h1
  refine ⟨h1.2, fun w => eqA_of (d := 9999) hu h1.1 ?_⟩
  exact eqF_v m (d := 9998) [] [] rfl rfl h2 w
 ·next n e' hu =>
  split at h
  ·next k hk hs =>
   obtain ⟨h1, h2⟩ := fI h
   simp only [Bool.not_eq_true'] at h1
   split at h2
   ·next xs ys hx hy =>
    obtain ⟨h3, h4⟩ := fI h2
    cases h4
    rw [Bool.and_eq_true] at h3
    have l1 : xs.length = n := by
     have h5 := cZ m a oa
     rw [rQ m hx, List.length_map] at h5
     exact h5.trans (Nat.eq_of_beq_eq_true h3.1)
    have l2 : ys.length = n := by
     have h5 := cZ m b ob
     rw [rQ m hy, List.length_map] at h5
     exact h5.trans (Nat.eq_of_beq_eq_true h3.2)
    refine ⟨h1, fun w => ?_⟩
    rw [rQ m hx, rQ m hy]
    have hc : P.cellsOf e' = 1 := by
     have := kW hs
     unfold Program.cellsOf
     cases hq : P.info? e' with
     |none => rw [hq] at this; cases this
     |some i => rw [hq] at this; simpa using this
    have hsome : ∃ i, P.info? e' = some i := by
     have := kW hs
     cases hq : P.info? e' with
     |none => rw [hq] at this; cases this
     |some i => exact ⟨i, rfl⟩
    obtain ⟨i, hi⟩ := hsome
    rw [run_equalIn_array w 9999 _ _ hu hi, hc, List.range_eq_range']
    have := aAm (k := k) hk xs ys (d := 9998) w n 0 (by omega) (by omega)
    simpa using this
   ·cases h2
  ·cases h
 ·cases h
end
/- What yields a value yields it whatever the memory: each operation. -/

theorem tN (off : Nat) : ∀ (new : List Value) (k : Nat) (cells : Array Value), off + k + new.length ≤ cells.size →
  (new.zipIdx k).foldl (fun cs (x : Value × Nat) => cs.setIfInBounds (off + x.2) x.1) cells = (cells.toList.take (off + k) ++ (new ++ cells.toList.drop (off + k + new.length))).toArray := by
 intro new
 induction new with
 |nil => intro k cells h; simp
 |cons v new ih =>
  intro k cells h
  rw [List.length_cons] at h
  rw [List.zipIdx_cons, List.foldl_cons, ih (k + 1) _ (by rw [Array.size_setIfInBounds]; omega)]
  apply congrArg
  rw [Array.toList_setIfInBounds]
  have hl : off + k < cells.toList.length := by rw [Array.length_toList]; omega
  rw [List.drop_set_of_lt (by omega), show off + (k + 1) = off + k + 1 by omega, List.take_add_one, List.getElem?_set_self hl, List.take_set_of_le (Nat.le_refl _)]
  simp [Nat.add_assoc, Nat.add_comm 1]
theorem lS {place : Nat → Option (Nat × Nat)} {cells : Array Value} {i off size : Nat} {v : Value} {rest : List (Nat × Value)} (hp : place i = some (off, size)) (h1 : v.cells.size = size) (h2 : off + v.cells.size ≤ cells.size) :
  Instr.fill place cells ((i, v) :: rest) = Instr.fill place ((v.cells.toList.zipIdx 0).foldl (fun cs (x : Value × Nat) => cs.setIfInBounds (off + x.2) x.1) cells) rest := by
 have h3 : ¬ (v.cells.size ≠ size || off + v.cells.size > cells.size) = true := by
  simp only [Bool.or_eq_true, decide_eq_true_eq, not_or, Decidable.not_not]
  exact ⟨h1, by omega⟩
 rw [Instr.fill, hp]
 dsimp only
 rw [if_neg h3, ← Array.foldl_toList]
 simp
section
variable {P : Program}
theorem gL (m : Nat → Nat) (N : Nat) {t : Nat} {ss : List S} (h : lT P t = some ss) : oks N ss ∧ ∃ i v, P.info? t = some i ∧ i.zero = some v ∧ v.cells = (vals m ss).toArray := by
 unfold lT at h
 split at h
 ·next i h1 =>
  split at h
  ·next v h2 =>
   split at h
   ·next ss' _ =>
    obtain ⟨h3, h4⟩ := fI h
    cases h4
    obtain ⟨e, o⟩ := yA m N h3
    exact ⟨o, i, v, h1, h2, by rw [e]⟩
   ·cases h
  ·cases h
 ·cases h
theorem oH {m : Nat → Nat} {N : Nat} {env : List (Nat × SV)} {a : Act} (hk : Knows m N env a) {places : List (Nat × Nat)} {pl : Nat → Option (Nat × Nat)} (hpl : ∀ j x, places[j]? = some x → pl j = some x) {ps : List (Nat × Operand)} : ∀ {ss ss' : List S}, oks N ss → mX env places ss ps = some ss' →
  oks N ss' ∧ Instr.fill pl (vals m ss).toArray (ps.map fun x => (x.1, a.eval x.2)) = some (vals m ss').toArray := by
 induction ps with
 |nil => intro ss ss' ho h; cases h; exact ⟨ho, rfl⟩
 |cons p r ih =>
  obtain ⟨j, x⟩ := p
  intro ss ss' ho h
  unfold mX at h
  split at h
  ·next o c h1 h2 =>
   split at h
   ·next s1 h3 =>
    obtain ⟨ok, e⟩ := gY hk h2
    obtain ⟨o1, v1, l1, _⟩ := aAs m ho ok h3
    obtain ⟨o2, f2⟩ := ih o1 h
    refine ⟨o2, ?_⟩
    have hp : pl j = some (o, 1) := hpl _ _ h1
    have e' : a.eval x = c.v m := e
    rw [List.map_cons, lS (v := a.eval x) hp (by rw [e', C.cells]; rfl) (by rw [e', C.cells]; simp; omega), e', C.cells, ← f2, v1]
    show Instr.fill _ ((vals m ss).toArray.setIfInBounds (o + 0) (c.v m)) _ = _
    rw [Nat.add_zero, List.setIfInBounds_toArray]
   ·cases h
  ·next _ o n new h1 h2 =>
   obtain ⟨h3, h4⟩ := fI h
   have h3 := Nat.eq_of_beq_eq_true h3
   split at h4
   ·next s1 h5 =>
    obtain ⟨ok, e⟩ := gY hk h2
    obtain ⟨o1, v1, l1, _⟩ := yP m ho ok h5
    obtain ⟨o2, f2⟩ := ih o1 h4
    refine ⟨o2, ?_⟩
    have hp : pl j = some (o, n) := hpl _ _ h1
    have e' : a.eval x = .agg (vals m new).toArray := e
    have hl := cZ m new ok
    have h6 : (Value.agg (vals m new).toArray).cells.toList = vals m new := rfl
    have h7 : (Value.agg (vals m new).toArray).cells.size = n := by show (vals m new).toArray.size = n; rw [List.size_toArray]; omega
    rw [List.map_cons, lS (v := a.eval x) hp (by rw [e']; exact h7) (by rw [e', h7, List.size_toArray]; omega), e', h6, ← f2, v1]
    have := tN o (vals m new) 0 (vals m ss).toArray (by simp; omega)
    simp only [Nat.add_zero] at this
    rw [this, hl]
   ·cases h4
  ·cases h
theorem iR {s : Sem Value} {x : Value} {w w' : World} (h : s.run P w = .ok x w') : (do let y ← s; pure (Next.value y) : Sem Next).run P w = .ok (.value x) w' := by
 simp [h]
theorem rF {R : Type} {o : Oper} {env : List (Nat × SV)} {K : SV → Option R} {r : R} {m : Nat → Nat} {N : Nat} {a : Act} (hk : Knows m N env a) (h : rV P o.op env K = some r) :
  ∃ v, K v = some r ∧ v.ok N ∧ ∀ w, (execOp a.eval o).run P w = .ok (.value (v.v m)) w := by
 obtain ⟨dst, op, ty, pos, after, guard⟩ := o
 simp only at h
 unfold rV at h
 split at h
 ·next x =>
  split at h
  ·next v hv =>
   obtain ⟨ok, e⟩ := gY hk hv
   exact ⟨v, h, ok, fun w => by simp [execOp, e]⟩
  ·cases h
 ·next x =>
  split at h
  ·next v hv =>
   obtain ⟨ok, e⟩ := gY hk hv
   exact ⟨v, h, ok, fun w => by simp [execOp, e]⟩
  ·cases h
 ·next c x y =>
  split at h
  ·next b hb =>
   obtain ⟨_, eb⟩ := gY hk hb
   have eb' : a.eval c = .bool b.d := eb
   rw [BE.aAC] at h
   split at h
   ·next hd =>
    split at h
    ·next v hv =>
     obtain ⟨ok, e⟩ := gY hk hv
     exact ⟨v, h, ok, fun w => by simp [execOp, eb', asBool, hd, e]⟩
    ·cases h
   ·next hd =>
    split at h
    ·next v hv =>
     obtain ⟨ok, e⟩ := gY hk hv
     exact ⟨v, h, ok, fun w => by simp [execOp, eb', asBool, hd, e]⟩
    ·cases h
  ·cases h
 ·next bo t x y yt =>
  split at h
  ·next k x1 k' y1 hx hy =>
   obtain ⟨_, ex⟩ := gY hk hx
   obtain ⟨_, ey⟩ := gY hk hy
   have ex' : a.eval x = .int k x1.d := ex
   have ey' : a.eval y = .int k' y1.d := ey
   obtain ⟨c, h1, h2, h3⟩ := aAi P t m N h
   exact ⟨_, h1, h2, fun w => iR (by simp [ex', ey', eqGuard_at_int, h3, SV.v, PV.v])⟩
  ·next x1 y1 hx hy =>
   obtain ⟨_, ex⟩ := gY hk hx
   obtain ⟨_, ey⟩ := gY hk hy
   have ex' : a.eval x = .bool x1.d := ex
   have ey' : a.eval y = .bool y1.d := ey
   split at h
   ·next hu =>
    have hb : ∀ w, (Op.equal t (.bool x1.d) (.bool y1.d)).run P w = .ok (x1.d == y1.d) w := fun w => run_equalIn_bool' w 9999 t _ _ hu
    split at h
    ·exact ⟨_, h, trivial, fun w => iR (by simp [ex', ey', eqGuard_at_bool, binOp, hb, SV.v, PV.v, C.v, eqB_d])⟩
    ·exact ⟨_, h, trivial, fun w => iR (by simp [ex', ey', eqGuard_at_bool, binOp, hb, SV.v, PV.v, C.v, eqB_d, BE.r9])⟩
    ·cases h
   ·cases h
  ·next x1 y1 hx hy =>
   obtain ⟨ox, ex⟩ := gY hk hx
   obtain ⟨oy, ey⟩ := gY hk hy
   have ex' : a.eval x = .agg (vals m x1).toArray := ex
   have ey' : a.eval y = .agg (vals m y1).toArray := ey
   split at h
   ·next e he =>
    obtain ⟨g, hq⟩ := eqT_v m (ox : oks _ x1) (oy : oks _ y1) he
    split at h
    ·exact ⟨_, h, trivial, fun w => iR (by simp only [ex', ey', Sem.run_bind, run_eqGuard_agg w _ t x y _ _ g, Result.andThen_ok, run_eql_struct, hq]; rfl)⟩
    ·exact ⟨_, h, trivial, fun w => iR (by simp only [ex', ey', Sem.run_bind, run_eqGuard_agg w _ t x y _ _ g, Result.andThen_ok, run_neq_struct, hq]; rfl)⟩
    ·cases h
   ·cases h
  ·cases h
 ·next uo ut x =>
  split at h
  ·next k x1 hx =>
   obtain ⟨_, ex⟩ := gY hk hx
   have ex' : a.eval x = .int k x1.d := ex
   exact ⟨_, h, trivial, fun w => iR (by simp [ex', Op.unary, Op.intArith, SV.v, PV.v, C.v, IE.rY, fA])⟩
  ·next k x1 hx =>
   obtain ⟨_, ex⟩ := gY hk hx
   have ex' : a.eval x = .int k x1.d := ex
   exact ⟨_, h, trivial, fun w => iR (by simp [ex', Op.unary, Op.intBits, Go.bits, SV.v, PV.v, C.v, IE.rY])⟩
  ·next x1 hx =>
   obtain ⟨_, ex⟩ := gY hk hx
   have ex' : a.eval x = .bool x1.d := ex
   exact ⟨_, h, trivial, fun w => iR (by simp [ex', Op.unary, SV.v, PV.v, C.v, BE.r9])⟩
  ·cases h
 ·next src dst' x =>
  split at h
  ·next d1 k k1 x1 hs hd hx =>
   obtain ⟨_, ex⟩ := gY hk hx
   have ex' : a.eval x = .int k1 x1.d := ex
   exact ⟨_, h, trivial, fun w => iR (by simp [ex', convert, underlying, hs, hd, Conv.intToInt, SV.v, PV.v, C.v, IE.rY, fA])⟩
  ·cases h
 ·next t x f =>
  split at h
  ·next fs g o hu hx =>
   obtain ⟨ok, ex⟩ := gY hk hx
   have ex' : a.eval x = .pointer (some ⟨m g, o, none⟩) := ex
   split at h
   ·next fd hf =>
    split at h
    ·next z hz =>
     have hz' := fO hz
     refine ⟨_, h, ok, fun w => iR ?_⟩
     have : (⟨m g, o, none⟩ : Addr).add fd.offset = ⟨m g, o + fd.offset, none⟩ := by unfold Addr.add; split <;> simp_all
     simp [ex', Instr.fieldAt, Instr.sureAddr, fieldPlace, underlying, hu, hf, hz', SV.v, PV.v, C.v, this]
    ·cases h
   ·cases h
  ·cases h
 ·next t x f =>
  split at h
  ·next fs ss hu hx =>
   obtain ⟨ok, ex⟩ := gY hk hx
   have ex' : a.eval x = .agg (vals m ss).toArray := ex
   split at h
   ·next fd hf =>
    split at h
    ·next v hv =>
     obtain ⟨o1, e1⟩ := uL m ok hv
     exact ⟨_, h, o1, fun w => iR (by simp [ex', Instr.field, asAgg, underlying, hu, hf, e1, SV.v])⟩
    ·cases h
   ·cases h
  ·cases h
 ·next t x i =>
  split at h
  ·next n e g o k j hu hx hi =>
   obtain ⟨ok, ex⟩ := gY hk hx
   obtain ⟨_, ei⟩ := gY hk hi
   have ex' : a.eval x = .pointer (some ⟨m g, o, none⟩) := ex
   have ei' : a.eval i = .int k j := ei
   split at h
   ·next z hz =>
    obtain ⟨h1, h2⟩ := fI h
    rw [Bool.and_eq_true] at h1
    have g1 := of_decide_eq_true h1.1
    have g2 := of_decide_eq_true h1.2
    have hz' := fO hz
    have : (⟨m g, o, none⟩ : Addr).add (j.toNat * z) = ⟨m g, o + j.toNat * z, none⟩ := by unfold Addr.add; split <;> simp_all
    exact ⟨_, h2, ok, fun w => iR (by simp [ex', ei', Instr.indexAt, Instr.sureAddr, asIntOf, underlying, hu, hz', g1, g2, this, SV.v, PV.v, C.v])⟩
   ·cases h
  ·next n e g o k j hu hx hi =>
   obtain ⟨ok, ex⟩ := gY hk hx
   obtain ⟨_, ei⟩ := gY hk hi
   have ex' : a.eval x = .pointer (some ⟨m g, o, none⟩) := ex
   have ei' : a.eval i = .int k j := ei
   split at h
   ·next hz =>
    split at h
    ·next g1 =>
     split at h
     ·next g2 =>
      have hz' := fO hz
      have : (⟨m g, o, none⟩ : Addr).add j.toNat = ⟨m g, o + j.toNat, none⟩ := by unfold Addr.add; split <;> simp_all
      exact ⟨_, h, ⟨ok, g1, g2⟩, fun w => iR (by simp [ex', ei', Instr.indexAt, Instr.sureAddr, asIntOf, underlying, hu, hz', g1, g2, this, SV.v, PV.v, C.v])⟩
     ·cases h
    ·cases h
   ·cases h
  ·next e g o n c k j hu hx hi =>
   obtain ⟨ok, ex⟩ := gY hk hx
   obtain ⟨_, ei⟩ := gY hk hi
   have ex' : a.eval x = .slice (some ⟨m g, o, none⟩) n c := ex
   have ei' : a.eval i = .int k j.d := ei
   split at h
   ·next hz =>
    split at h
    ·next g1 =>
     split at h
     ·next g2 =>
      have hz' := fO hz
      have : (⟨m g, o, none⟩ : Addr).add j.d.toNat = ⟨m g, o + j.d.toNat, none⟩ := by unfold Addr.add; split <;> simp_all
      exact ⟨_, h, ⟨ok, g1, g2⟩, fun w => iR (by simp [ex', ei', Instr.indexAt, Instr.sureAddr, asIntOf, underlying, hu, hz', g1, g2, this, SV.v, PV.v, C.v])⟩
     ·cases h
    ·cases h
   ·cases h
  ·cases h
 ·next t x i =>
  split at h
  ·next n e ss k j hu hx hi =>
   obtain ⟨ok, ex⟩ := gY hk hx
   obtain ⟨_, ei⟩ := gY hk hi
   have ex' : a.eval x = .agg (vals m ss).toArray := ex
   have ei' : a.eval i = .int k j.d := ei
   split at h
   ·next k1 xs n1 ha =>
    obtain ⟨h0, h1⟩ := fI h
    have h0 := Nat.eq_of_beq_eq_true h0
    split at h1
    ·next hz =>
     split at h1
     ·next g1 =>
      split at h1
      ·next g2 =>
       have hl : xs.length = n1 := ok.1
       have hz' := fO hz
       have hp := jO (P := P) (vs := vals m [.a k1 xs n1]) (v := .int k1 (rd xs j.d)) (o := j.d.toNat) ha (by
        have : j.d.toNat < xs.length := by omega
        show (xs.map (Value.int k1) ++ [])[j.d.toNat]? = some (.int k1 (xs.getD j.d.toNat 0))
        rw [List.append_nil, List.getElem?_map, List.getD_eq_getElem?_getD, List.getElem?_eq_getElem this]; rfl)
       have dx : ∀ n : Int, IE.d (.x n) = n := fun _ => rfl
       exact ⟨_, h1, trivial, fun w => iR (by simp [ex', ei', Instr.index, asIntOf, underlying, hu, hz', g1, g2, hp, SV.v, PV.v, C.v, dx])⟩
      ·cases h1
     ·cases h1
    ·cases h1
   ·cases h
  ·cases h
 ·next x i =>
  split at h
  ·next vs hx =>
   obtain ⟨ok, ex⟩ := gY hk hx
   have ex' : a.eval x = .tuple (vs.map (PV.v m)).toArray := ex
   split at h
   ·next v hv =>
    refine ⟨_, h, ok v (List.mem_of_getElem? hv), fun w => iR ?_⟩
    simp [ex', Instr.extract, hv, SV.v]
   ·cases h
  ·cases h
 ·next x =>
  split at h
  ·next g o hx =>
   obtain ⟨ok, ex⟩ := gY hk hx
   have ex' : a.eval x = .pointer (some ⟨m g, o, none⟩) := ex
   exact ⟨_, h, ok, fun w => by simp [execOp, ex', SV.v, PV.v, C.v]⟩
  ·cases h
 ·next t ps =>
  split at h
  ·next fs ss hu hz =>
   split at h
   ·next places hp =>
    split at h
    ·next ss' hf =>
     obtain ⟨o0, i0, v0, hi, hz0, hc⟩ := gL m N hz
     obtain ⟨o1, f1⟩ := oH hk (pl := (places.toArray[·]?)) (fun j x hx => by simpa using hx) o0 hf
     refine ⟨_, h, o1, fun w => iR (run_build w t _ _ ?_)⟩
     unfold Program.built
     simp only [hi, hu, hz0, hp]
     rw [hc, ← f1]
     congr 1
     simp
    ·cases h
   ·cases h
  ·next n e ss hu hz =>
   split at h
   ·next ie hie =>
    split at h
    ·next ss' hf =>
     obtain ⟨o0, i0, v0, hi, hz0, hc⟩ := gL m N hz
     obtain ⟨o1, f1⟩ := oH hk (pl := fun i => some (i * ie.size, ie.size)) (fun j x hx => by
      rw [List.getElem?_map] at hx
      obtain ⟨y, hy, rfl⟩ := Option.map_eq_some_iff.mp hx
      have hj : y = j := by
       obtain ⟨hlt, he⟩ := List.getElem?_eq_some_iff.1 hy
       rw [List.getElem_range] at he; exact he.symm
      subst hj
      rfl) o0 hf
     refine ⟨_, h, o1, fun w => iR (run_build w t _ _ ?_)⟩
     unfold Program.built
     simp only [hi, hu, hz0, hie]
     rw [hc, ← f1]
     congr 1
     simp
    ·cases h
   ·cases h
  ·cases h
 ·next args argTypes =>
  split at h
  ·next t x h1 h2 =>
   split at h
   ·next e g o n c hu hx =>
    obtain ⟨ok, ex⟩ := gY hk hx
    have ex' : a.eval x = .slice (some ⟨m g, o, none⟩) n c := ex
    exact ⟨_, h, trivial, fun w => by simp [execOp, resolve, invoke, builtin, Builtin.len_, h1, h2, ex', underlying, hu, goInt, SV.v, PV.v, C.v, IE.d]⟩
   ·cases h
  ·cases h
 ·next args at' =>
  split at h
  ·next k x1 k' y1 hx =>
   obtain ⟨h1, h2⟩ := fI h
   obtain rfl := of_decide_eq_true h1
   obtain ⟨_, ex⟩ := rW hk hx
   refine ⟨_, h2, trivial, fun w => ?_⟩
   have e2 : args.map a.eval = #[.int k x1.d, .int k y1.d] := by
    apply Array.ext'
    rw [Array.toList_map, ex]; rfl
   simp [execOp, resolve, invoke, builtin, Builtin.min_, Builtin.min2, e2, SV.v, PV.v, C.v, IE.rY, mn]
  ·cases h
 ·next args at' =>
  split at h
  ·next k x1 k' y1 hx =>
   obtain ⟨h1, h2⟩ := fI h
   obtain rfl := of_decide_eq_true h1
   obtain ⟨_, ex⟩ := rW hk hx
   refine ⟨_, h2, trivial, fun w => ?_⟩
   have e2 : args.map a.eval = #[.int k x1.d, .int k y1.d] := by
    apply Array.ext'
    rw [Array.toList_map, ex]; rfl
   simp [execOp, resolve, invoke, builtin, Builtin.max_, Builtin.max2, e2, SV.v, PV.v, C.v, IE.rY, mx]
  ·cases h
 ·cases h
end
/- The reckoner's states stand for the machine's; each operation keeps that. -/

theorem C.fC {N N' : Nat} (h : N ≤ N') {c : C} (k : c.ok N) : c.ok N' := by
 cases c <;> first | exact Nat.lt_of_lt_of_le k h | exact ⟨Nat.lt_of_lt_of_le k.1 h, k.2⟩ | exact k
theorem S.fC {N N' : Nat} (h : N ≤ N') {s : S} (k : s.ok N) : s.ok N' := by
 cases s with
 |c u => exact C.fC h k
 |a => exact k
theorem iD {N N' : Nat} (h : N ≤ N') {ss : List S} (k : oks N ss) : oks N' ss := by
 induction ss with
 |nil => trivial
 |cons s r ih => exact ⟨S.fC h k.1, ih k.2⟩
theorem PV.fC {N N' : Nat} (h : N ≤ N') {v : PV} (k : v.ok N) : v.ok N' := by
 cases v with
 |one c => exact C.fC h k
 |agg ss => exact iD h k
theorem SV.fC {N N' : Nat} (h : N ≤ N') {v : SV} (k : v.ok N) : v.ok N' := by
 cases v with
 |pv u => exact PV.fC h k
 |tup vs => exact fun u hu => PV.fC h (k u hu)
 |und => trivial
section
variable {m m' : Nat → Nat} {N : Nat}
theorem C.fQ (h : ∀ g, g < N → m' g = m g) {c : C} (k : c.ok N) : c.v m' = c.v m := by
 cases c with
 |p g o => show Value.pointer (some ⟨m' g, o, none⟩) = _; rw [h g k]; rfl
 |pd g o j n => show Value.pointer (some ⟨m' g, o + j.toNat, none⟩) = _; rw [h g k.1]; rfl
 |sl g o n c => show Value.slice (some ⟨m' g, o, none⟩) n c = _; rw [h g k]; rfl
 |_ => rfl
theorem gM (h : ∀ g, g < N → m' g = m g) {ss : List S} (k : oks N ss) : vals m' ss = vals m ss := by
 induction ss with
 |nil => rfl
 |cons s r ih =>
  have e : s.v m' = s.v m := by
   cases s with
   |c u => show [u.v m'] = [u.v m]; rw [C.fQ h k.1]
   |a => rfl
  show s.v m' ++ vals m' r = s.v m ++ vals m r
  rw [e, ih k.2]
theorem PV.fQ (h : ∀ g, g < N → m' g = m g) {v : PV} (k : v.ok N) : v.v m' = v.v m := by
 cases v with
 |one c => exact C.fQ h k
 |agg ss => show Value.agg _ = Value.agg _; rw [gM h k]
theorem SV.fQ (h : ∀ g, g < N → m' g = m g) {v : SV} (k : v.ok N) : v.v m' = v.v m := by
 cases v with
 |pv u => exact PV.fQ h k
 |tup vs =>
  show Value.tuple _ = Value.tuple _
  congr 2
  exact List.map_congr_left fun u hu => PV.fQ h (k u hu)
 |und => rfl
end

structure Rel (w0 : World) (nt : Nat) (m : Nat → Nat) (s : St) (a : Act) (w : World) : Prop where
 size : a.tmps.size = nt
 dfr : a.defers = []
 env : Knows m s.next s.env a
 heap : ∀ g e ss, look s.heap g = some (e, ss) → g < s.next ∧ oks s.next ss ∧ w.heap[m g]? = some (.cells (vals m ss).toArray e (0, 0)) ∧ w0.heap.size ≤ m g
 inj : ∀ g g', (look s.heap g).isSome = true → (look s.heap g').isSome = true → m g = m g' → g = g'
 bel : Below w0.heap.size w0 w

theorem nbeq {a b : Nat} (h : ¬ a = b) : Nat.beq a b = false := by
 cases hh : Nat.beq a b
 ·rfl
 ·exact absurd (Nat.eq_of_beq_eq_true hh) h
theorem eP {α : Type _} (k t : Nat) (v : α) (r : List (Nat × α)) : look ((k, v) :: r) t = if k = t then some v else look r t := by
 by_cases h : k = t
 ·subst h; simp [look]
 ·have : Nat.beq k t = false := nbeq h
  simp [look, this, h]
theorem jG {m : Nat → Nat} {N : Nat} {env : List (Nat × SV)} {a : Act} (hk : Knows m N env a) {d : Nat} (hd : d < a.tmps.size) {v : SV} (hv : v.ok N) : Knows m N ((d, v) :: env) (a.put (some d) (v.v m)) := by
 intro t u h
 rw [eP] at h
 show u.ok N ∧ (a.tmps.setIfInBounds d (v.v m)).getD t undef = u.v m
 by_cases c : d = t
 ·rw [if_pos c] at h
  cases h
  subst c
  exact ⟨hv, by simp [hd]⟩
 ·rw [if_neg c] at h
  obtain ⟨o, e⟩ := hk t u h
  refine ⟨o, ?_⟩
  rw [← e]
  simp [Array.getD_eq_getD_getElem?, Array.getElem?_setIfInBounds_ne c]
theorem okD_lt {nt d : Nat} (h : okD nt (some d) = true) : d < nt := Nat.le_of_ble_eq_true h
theorem Rel.put {w0 : World} {nt : Nat} {m : Nat → Nat} {s : St} {a : Act} {w : World} (h : Rel w0 nt m s a w) {d : Option Nat} (hd : okD nt d = true) {v : SV} (hv : v.ok s.next) : Rel w0 nt m (s.put d v) (a.put d (v.v m)) w := by
 cases d with
 |none => exact h
 |some d =>
  have hl := okD_lt hd
  exact ⟨by show (a.tmps.setIfInBounds d _).size = nt; rw [Array.size_setIfInBounds]; exact h.size, h.dfr, jG h.env (by rw [h.size]; exact hl) hv, h.heap, h.inj, h.bel⟩
theorem Rel.grow {w0 : World} {nt : Nat} {m : Nat → Nat} {s : St} {a : Act} {w w' : World} (h : Rel w0 nt m s a w) (hb : Below w.heap.size w w') : Rel w0 nt m s a w' :=
 ⟨h.size, h.dfr, h.env, fun g e ss hg => by
  obtain ⟨a1, a2, a3, a4⟩ := h.heap g e ss hg
  exact ⟨a1, a2, (hb.block _ (blk_lt a3)).trans a3, a4⟩, h.inj, below_then h.bel h.bel.size hb⟩
theorem Rel.new {w0 : World} {nt : Nat} {m : Nat → Nat} {s : St} {a : Act} {w : World} (h : Rel w0 nt m s a w) {d : Option Nat} (hd : okD nt d = true) {e : Nat} {ss : List S} (ho : oks s.next ss) {v : C}
  (hv : v.ok (s.next + 1)) :
  Rel w0 nt (fun g => if g = s.next then w.heap.size else m g) ⟨match d with
   |some d => (d, .pv (.one v)) :: s.env
   |none => s.env, (s.next, e, ss) :: s.heap, s.next + 1⟩ (a.put d (v.v (fun g => if g = s.next then w.heap.size else m g))) (w.alloc (.cells (vals m ss).toArray e (0, 0))) := by
 have hm : ∀ g, g < s.next → (fun g => if g = s.next then w.heap.size else m g) g = m g := fun g hg => if_neg (Nat.ne_of_lt hg)
 have hk : Knows (fun g => if g = s.next then w.heap.size else m g) (s.next + 1) s.env a := fun t u hu => by
  obtain ⟨o, e⟩ := h.env t u hu
  exact ⟨SV.fC (Nat.le_succ _) o, by rw [e, SV.fQ hm o]⟩
 have hlt : ∀ g, (look s.heap g).isSome = true → g < s.next ∧ m g < w.heap.size := fun g hg => by
  obtain ⟨⟨e, ss⟩, he⟩ := Option.isSome_iff_exists.mp hg
  obtain ⟨a1, a2, a3, a4⟩ := h.heap g e ss he
  exact ⟨a1, blk_lt a3⟩
 refine ⟨?_, ?_, ?_, ?_, ?_, below_then h.bel h.bel.size (below_alloc (Below.refl _ _) _)⟩
 ·cases d with
  |none => exact h.size
  |some d => show (a.tmps.setIfInBounds d _).size = nt; rw [Array.size_setIfInBounds]; exact h.size
 ·cases d with
  |none => exact h.dfr
  |some d => exact h.dfr
 ·cases d with
  |none => exact hk
  |some d => exact jG (v := .pv (.one v)) hk (by rw [h.size]; exact okD_lt hd) hv
 ·intro g e' ss' hg
  rw [eP] at hg
  by_cases c : s.next = g
  ·rw [if_pos c] at hg
   cases hg
   subst c
   refine ⟨Nat.lt_succ_self _, iD (Nat.le_succ _) ho, ?_, ?_⟩
   ·rw [gM hm ho]
    simp only [if_true]
    exact blk_new w _
   ·simp only [if_true]
    exact h.bel.size
  ·rw [if_neg c] at hg
   obtain ⟨a1, a2, a3, a4⟩ := h.heap g e' ss' hg
   refine ⟨Nat.lt_succ_of_lt a1, iD (Nat.le_succ _) a2, ?_, ?_⟩
   ·rw [gM hm a2]
    simp only [if_neg (Ne.symm c)]
    exact blk_alloc a3 _
   ·simp only [if_neg (Ne.symm c)]
    exact a4
 ·intro g g' h1 h2 h3
  simp only [eP] at h1 h2
  by_cases c : s.next = g
  ·by_cases c' : s.next = g'
   ·omega
   ·rw [if_neg c'] at h2
    have := hlt g' h2
    simp only [if_pos c.symm, if_neg (Ne.symm c')] at h3
    omega
  ·rw [if_neg c] at h1
   by_cases c' : s.next = g'
   ·have := hlt g h1
    simp only [if_neg (Ne.symm c), if_pos c'.symm] at h3
    omega
   ·rw [if_neg c'] at h2
    simp only [if_neg (Ne.symm c), if_neg (Ne.symm c')] at h3
    exact h.inj g g' h1 h2 h3
theorem yG {α : Type _} {l : List (Nat × α)} {g : Nat} {u : α} : ∀ t, look (upd l g u) t = if t = g ∧ (look l g).isSome = true then some u else look l t := by
 induction l with
 |nil => intro t; simp [upd, look]
 |cons p r ih =>
  obtain ⟨k, v⟩ := p
  intro t
  by_cases c : k = g
  ·subst c
   have e : upd ((k, v) :: r) k u = (k, u) :: r := by simp [upd]
   rw [e, eP, eP, eP]
   by_cases c' : k = t
   ·simp [c']
   ·simp [c', Ne.symm c']
  ·have hb : Nat.beq k g = false := nbeq c
   have e : upd ((k, v) :: r) g u = (k, v) :: upd r g u := by simp [upd, hb]
   rw [e, eP, eP, eP, ih t]
   by_cases c' : k = t
   ·subst c'; simp [c]
   ·simp [c', c]
theorem Rel.write {w0 : World} {nt : Nat} {m : Nat → Nat} {s : St} {a : Act} {w w' : World} (h : Rel w0 nt m s a w) {g e : Nat} {ss ss' : List S} (hg : look s.heap g = some (e, ss)) (ho : oks s.next ss')
  (h1 : w'.heap[m g]? = some (.cells (vals m ss').toArray e (0, 0))) (h2 : ∀ k, k ≠ m g → w'.heap[k]? = w.heap[k]?) (h3 : w'.heap.size = w.heap.size) (h4 : w'.os = w.os ∧ w'.tape = w.tape ∧ w'.output = w.output) :
  Rel w0 nt m ⟨s.env, upd s.heap g (e, ss'), s.next⟩ a w' := by
 have hs : ∀ k, (look (upd s.heap g (e, ss')) k).isSome = true → (look s.heap k).isSome = true := fun k hk => by
  rw [yG] at hk
  by_cases c : k = g ∧ (look s.heap g).isSome = true
  ·rw [c.1]; exact c.2
  ·rw [if_neg c] at hk; exact hk
 refine ⟨h.size, h.dfr, h.env, ?_, fun k k' hk hk' he => h.inj k k' (hs k hk) (hs k' hk') he, ?_⟩
 ·intro k e' q hk
  have hk : look (upd s.heap g (e, ss')) k = some (e', q) := hk
  rw [yG] at hk
  obtain ⟨a1, a2, a3, a4⟩ := h.heap g e ss hg
  by_cases c : k = g
  ·subst c
   rw [if_pos ⟨rfl, by rw [hg]; rfl⟩] at hk
   cases hk
   exact ⟨a1, ho, h1, a4⟩
  ·rw [if_neg (fun x => c x.1)] at hk
   obtain ⟨b1, b2, b3, b4⟩ := h.heap k e' q hk
   refine ⟨b1, b2, (h2 _ (fun hh => c ?_)).trans b3, b4⟩
   exact h.inj k g (by rw [hk]; rfl) (by rw [hg]; rfl) hh
 ·obtain ⟨_, _, _, a4⟩ := h.heap g e ss hg
  exact ⟨h4.1.trans h.bel.os, h4.2.1.trans h.bel.tape, h4.2.2.trans h.bel.output, by rw [h3]; exact h.bel.size, fun k hk => (h2 k (by omega)).trans (h.bel.block k hk)⟩
/- One operation of the machine, by the reckoner's. -/

theorem add0 (g o n : Nat) : (⟨g, o, none⟩ : Addr).add n = ⟨g, o + n, none⟩ := by unfold Addr.add; split <;> simp_all
section
variable {P : Program}
theorem nC {m : Nat → Nat} {N t : Nat} {heap : List (Nat × Nat × List S)} {c : C} {v : PV} {w : World} (hc : c.ok N)
  (hh : ∀ g e ss, look heap g = some (e, ss) → oks N ss ∧ w.heap[m g]? = some (.cells (vals m ss).toArray e (0, 0))) (h : pF P t heap c = some v) :
  v.ok N ∧ (Instr.loadAt t (c.v m)).run P w = .ok (v.v m) w := by
 unfold pF at h
 split at h
 ·next g o =>
  split at h
  ·next e ss hg =>
   obtain ⟨ho, hw⟩ := hh g e ss hg
   unfold pM at h
   split at h
   ·next n h1 h2 =>
    split at h
    ·next r h3 =>
     cases h
     obtain ⟨a, b, cc, d⟩ := sub_v m ho h3
     refine ⟨a, ?_⟩
     have h1 := gX h1 w
     have h2 := fO h2 w
     have hl : (vals m r).length = n := by rw [cZ m r a]; exact b
     have hload := run_loadCells_list (P := P) (w := w) ⟨m g, o, none⟩ (vals m r) (fun j u hj => by
      rw [add0, cell_of_row w _ _ _ _ _ hw]
      rw [cc] at hj
      rw [List.getElem?_take] at hj
      split at hj
      ·rw [List.getElem?_drop] at hj
       simpa using hj
      ·cases hj)
     rw [hl] at hload
     have e1 : (loadVar t ⟨m g, o, none⟩).run P w = .ok (.agg (vals m r).toArray) w := by
      simp [loadVar, h1, h2, hload]
     simp [Instr.loadAt, Instr.sureAddr, C.v, e1, PV.v]
    ·cases h
   ·next n h1 h2 =>
    split at h
    ·next u h3 =>
     cases h
     obtain ⟨a, b⟩ := yJ m ho h3
     refine ⟨a, ?_⟩
     have h1 := gX h1 w
     have hcell : w.cell? ⟨m g, o, none⟩ = some (u.v m) := by
      rw [cell_of_row w _ _ _ _ _ hw]; simpa using b
     simp [Instr.loadAt, Instr.sureAddr, C.v, loadVar, h1, hcell, PV.v]
    ·cases h
   ·cases h
  ·cases h
 ·next g o j n =>
  split at h
  ·next e ss h1 hg =>
   obtain ⟨ho, hw⟩ := hh g e ss hg
   split at h
   ·next k xs n' h3 =>
    obtain ⟨h4, h5⟩ := fI h
    cases h5
    have h4 := Nat.eq_of_beq_eq_true h4
    obtain ⟨hl, p, q, hv, lp⟩ := runAt_v m ho h3
    refine ⟨trivial, ?_⟩
    obtain ⟨_, j0, j1⟩ := hc
    have hj : j.toNat < xs.length := by omega
    have h1 := gX h1 w
    have hcell : w.cell? ⟨m g, o + j.toNat, none⟩ = some (.int k (rd xs j)) := by
     rw [cell_of_row w _ _ _ _ _ hw, hv]
     show (p ++ (xs.map (Value.int k) ++ q)).toArray[o + j.toNat]? = some (.int k (xs.getD j.toNat 0))
     rw [List.getElem?_toArray, List.getElem?_append_right (by omega), lp, show o + j.toNat - o = j.toNat by omega, List.getElem?_append_left (by rw [List.length_map]; exact hj), List.getElem?_map, List.getD_eq_getElem?_getD, List.getElem?_eq_getElem hj]
     rfl
    simp [Instr.loadAt, Instr.sureAddr, C.v, loadVar, h1, hcell, PV.v, IE.d]
   ·cases h
  ·cases h
 ·cases h
theorem jJ {g e o : Nat} : ∀ (vs : List Value) (i : Nat) (old : List Value) (w : World), w.heap[g]? = some (.cells old.toArray e (0, 0)) → o + i + vs.length ≤ old.length → (∀ v ∈ vs, v.oneCell' = true) →
  ∃ w', (storeCells ⟨g, o, none⟩ vs i).run P w = .ok () w' ∧ w'.heap[g]? = some (.cells (old.take (o + i) ++ (vs ++ old.drop (o + i + vs.length))).toArray e (0, 0)) ∧ (∀ k, k ≠ g → w'.heap[k]? = w.heap[k]?) ∧ w'.heap.size = w.heap.size ∧ w'.os = w.os ∧ w'.tape = w.tape ∧ w'.output = w.output := by
 intro vs
 induction vs with
 |nil =>
  intro i old w hw _ _
  exact ⟨w, by simp [storeCells], by simpa using hw, fun _ _ => rfl, rfl, rfl, rfl, rfl⟩
 |cons v vs ih =>
  intro i old w hw hl h1
  rw [List.length_cons] at hl
  have hi : o + i < old.length := by omega
  have hcell : w.cell? ⟨g, o + i, none⟩ = some old[o + i] := by
   rw [cell_of_row w _ _ _ _ _ hw]; simp [hi]
  have hfz : w.frozen? ⟨g, o + i, none⟩ = false := blk_frozen hw _
  have hset := blk_set hw (o + i) v
  have hset' : (w.setCell ⟨g, o + i, none⟩ v).heap[g]? = some (.cells (old.set (o + i) v).toArray e (0, 0)) := by rw [hset]; simp
  obtain ⟨w', r1, r2, r3, r4, r5⟩ := ih (i + 1) (old.set (o + i) v) _ hset' (by rw [List.length_set]; omega) (fun u hu => h1 u (List.mem_cons_of_mem _ hu))
  refine ⟨w', ?_, ?_, fun k hk => (r3 k hk).trans (Below.heap_setCell w _ v k (by simpa using hk)), ?_, r5⟩
  ·have hrun := run_store P w ⟨g, o + i, none⟩ v .plain (h1 v (List.mem_cons_self ..))
   rw [hcell] at hrun
   simp only [hfz, Bool.false_eq_true, if_false] at hrun
   simp [storeCells, add0, hrun, r1]
  ·rw [r2]
   congr 3
   rw [show o + (i + 1) = o + i + 1 by omega, List.drop_set_of_lt (by omega), List.take_add_one, List.getElem?_set_self hi, List.take_set_of_le (Nat.le_refl _)]
   simp [Nat.add_assoc, Nat.add_comm 1]
  ·rw [r4]
   simp [World.setCell]
theorem storeS_v {w0 : World} {nt : Nat} {m : Nat → Nat} {s : St} {a : Act} {w : World} {t : Nat} {c : C} {v : PV} {heap' : List (Nat × Nat × List S)} (hr : Rel w0 nt m s a w) (hc : c.ok s.next) (hv : v.ok s.next)
  (h : aBw P t s.heap v c = some heap') : ∃ w', (Instr.storeAt t (c.v m) (v.v m)).run P w = .ok () w' ∧ Rel w0 nt m ⟨s.env, heap', s.next⟩ a w' := by
 unfold aBw at h
 split at h
 ·next g o =>
  split at h
  ·next e ss u hg hz =>
   split at h
   ·next ss' hs =>
    cases h
    obtain ⟨a1, a2, a3, a4⟩ := hr.heap g e ss hg
    obtain ⟨b1, b2, b3, b4⟩ := aAs m a2 hv hs
    have hz' := fO hz w
    obtain ⟨w', r1, r2, r3, r4, r5⟩ := jJ (P := P) (o := o) [u.v m] 0 (vals m ss) w a3 (by simp; omega) (by simp [C.one])
    refine ⟨w', ?_, hr.write hg b1 (by
     rw [r2, b2]
     congr 3
     rw [Nat.add_zero, List.set_eq_take_append_cons_drop, if_pos b3]; rfl) r3 r4 r5⟩
    show (Instr.storeAt t (.pointer (some ⟨m g, o, none⟩)) (u.v m)).run P w = _
    simp [Instr.storeAt, Instr.sureAddr, storeVar, C.cells, hz', r1]
   ·cases h
  ·next _ e ss n new hg hz =>
   obtain ⟨h1, h2⟩ := fI h
   have h1 := Nat.eq_of_beq_eq_true h1
   split at h2
   ·next ss' hs =>
    cases h2
    obtain ⟨a1, a2, a3, a4⟩ := hr.heap g e ss hg
    have hv' : oks s.next new := hv
    obtain ⟨b1, b2, b3, b4⟩ := yP m a2 hv' hs
    have hz' := fO hz w
    have hl := cZ m new hv'
    obtain ⟨w', r1, r2, r3, r4, r5⟩ := jJ (P := P) (o := o) (vals m new) 0 (vals m ss) w a3 (by omega) (pX m new)
    refine ⟨w', ?_, hr.write hg b1 (by rw [r2, b2, Nat.add_zero, hl]) r3 r4 r5⟩
    have hn : (vals m new).length = n := by omega
    simp [Instr.storeAt, Instr.sureAddr, C.v, PV.v, storeVar, Value.cells, hz', hn, r1]
   ·cases h2
  ·cases h
 ·next g o j n =>
  split at h
  ·next e ss k x hg hz =>
   split at h
   ·next k' xs n' h3 =>
    obtain ⟨h4, h5⟩ := fI h
    cases h5
    rw [Bool.and_eq_true] at h4
    have h6 := Nat.eq_of_beq_eq_true h4.1
    obtain rfl := of_decide_eq_true h4.2
    obtain ⟨a1, a2, a3, a4⟩ := hr.heap g e ss hg
    obtain ⟨_, j0, j1⟩ := hc
    have hj : j.toNat < n' := by omega
    obtain ⟨b1, b2, b3, b4⟩ := setRun_v m (y := x.d) a2 h3 hj
    have hz' := fO hz w
    obtain ⟨w', r1, r2, r3, r4, r5⟩ := jJ (P := P) (o := o + j.toNat) [Value.int k x.d] 0 (vals m ss) w a3 (by simp; omega) (by simp [Value.oneCell'])
    refine ⟨w', ?_, hr.write hg b1 (by
     rw [r2, b2]
     congr 3
     rw [Nat.add_zero, List.set_eq_take_append_cons_drop, if_pos b3]; rfl) r3 r4 r5⟩
    simp [Instr.storeAt, Instr.sureAddr, C.v, PV.v, storeVar, Value.cells, hz', r1]
   ·cases h
  ·cases h
 ·cases h
theorem ints_v (m : Nat → Nat) {k : IntKind} {vs : List PV} : ∀ {xs : List Int}, ints k vs = some xs → vs.map (PV.v m) = xs.map (Value.int k) := by
 induction vs with
 |nil => intro xs h; cases h; rfl
 |cons v r ih =>
  intro xs h
  cases v with
  |one u =>
   cases u with
   |i k' x =>
    unfold ints at h
    split at h
    ·next ys hy =>
     obtain ⟨h1, h2⟩ := fI h
     cases h2
     obtain rfl := of_decide_eq_true h1
     simp [PV.v, C.v, ih hy]
    ·cases h
   |_ => cases h
  |agg ss => cases h
theorem fill_all : ∀ (vs : List Value) (i : Nat) (cells : List Value), (∀ v ∈ vs, v.cells = #[v]) → cells.length = i + vs.length →
  Instr.fill (fun j => some (j * 1, 1)) cells.toArray ((List.range' i vs.length).zip vs) = some (cells.take i ++ vs).toArray := by
 intro vs
 induction vs with
 |nil => intro i cells _ h; simp [Instr.fill]; rw [List.take_of_length_le (by simp at h; omega)]
 |cons v vs ih =>
  intro i cells h1 hl
  rw [List.length_cons] at hl
  have hc := h1 v (List.mem_cons_self ..)
  have hi : i < cells.length := by omega
  rw [List.length_cons, List.range'_succ, List.zip_cons_cons, lS (off := i * 1) (size := 1) rfl (by rw [hc]; rfl) (by rw [hc, List.size_toArray, Nat.mul_one]; exact hi), hc]
  show Instr.fill _ (cells.toArray.setIfInBounds (i * 1 + 0) v) _ = _
  rw [Nat.mul_one, Nat.add_zero, List.setIfInBounds_toArray, ih (i + 1) (cells.set i v) (fun u hu => h1 u (List.mem_cons_of_mem _ hu)) (by rw [List.length_set]; omega)]
  congr 2
  rw [List.take_add_one, List.getElem?_set_self hi, List.take_set_of_le (Nat.le_refl _)]
  simp

def aBF (m : Nat → Nat) (h : List (Nat × Nat × List S)) (w : World) : Prop := ∃ N, ∀ g e ss, look h g = some (e, ss) → oks N ss ∧ w.heap[m g]? = some (.cells (vals m ss).toArray e (0, 0))
structure gI (P : Program) (f : FuncId) (c : Fc) : Prop where
 fn : ∃ fn, P.funcs[f]? = some fn ∧ fn.body.isSome = true ∧ (fn.name == "runtime.NumGoroutine") = false
 run : ∀ (R : Type) (n N : Nat) (h : List (Nat × Nat × List S)) (vs : List PV) (K : SV → Option R) (r : R), (∀ v ∈ vs, v.ok N) → c.run R n h vs K = some r → ∃ v, K v = some r ∧ v.ok 0 ∧ ∀ (m : Nat → Nat) (w : World), aBF m h w → Calls P f (vs.map (PV.v m)).toArray w fun e w' => e = .returned (v.v m) ∧ Below w.heap.size w w'
def dG (P : Program) (cl : Cls) : Prop := ∀ f c, look cl f = some c → gI P f c

theorem wB {cl : Cls} (hcl : dG P cl) {R : Type} {w0 : World} {nt n : Nat} {o : Oper} {s : St} {K : St → Option R} {r : R} {m : Nat → Nat} {a : Act} {w : World} (hr : Rel w0 nt m s a w) (h : evOp P nt cl n o s K = some r) :
  ∃ s', K s' = some r ∧ ∀ (next : Act → World → Prop) (Q : Exit → Act → World → Prop), (∀ m' a' w', Rel w0 nt m' s' a' w' → (∀ g, g < s.next → m' g = m g) → s.next ≤ s'.next → (gV o.op = false → Below w.heap.size w w') → next a' w') → o.wp P a w next Q := by
 unfold evOp at h
 have hb := fI h
 clear h
 obtain ⟨hd, h⟩ := hb
 obtain ⟨dst, op, ty, pos, after, guard⟩ := o
 simp only at h hd
 have hm : ∀ g, g < s.next → (fun g => if g = s.next then w.heap.size else m g) g = m g := fun g hg => if_neg (Nat.ne_of_lt hg)
 split at h
 ·next t =>
  split at h
  ·next ss hz =>
   obtain ⟨ho, v, hv, hrun⟩ := zeroS_v m s.next hz
   refine ⟨_, h, fun next Q hn => ?_⟩
   have hrel := hr.new (d := dst) (v := .p s.next 0) hd (e := t) ho (Nat.lt_succ_self _)
   have hex : (execOp a.eval ⟨dst, .alloc t, ty, pos, after, guard⟩).run P w = .ok (.value (.pointer (some ⟨w.heap.size, 0, none⟩))) (w.alloc (.cells (vals m ss).toArray t (0, 0))) := by
    have e : v.cells = (vals m ss).toArray := by rw [← hv]
    simp [execOp, Instr.alloc, hrun, newVar, newRow, e]
   unfold Oper.wp
   rw [hex]
   refine hn _ _ _ ?_ hm (Nat.le_succ _) (fun _ => below_alloc (Below.refl _ _) _)
   have e3 : (C.p s.next 0).v (fun g => if g = s.next then w.heap.size else m g) = .pointer (some ⟨w.heap.size, 0, none⟩) := by simp [C.v]
   rw [e3] at hrel
   exact hrel
  ·cases h
 ·next t x =>
  split at h
  ·next v hx =>
   obtain ⟨ok, ex⟩ := gY hr.env hx
   refine ⟨_, h, fun next Q hn => ?_⟩
   have ho : oks s.next v.segs := by
    cases v with
    |one c => exact ⟨ok, trivial⟩
    |agg ss => exact ok
   have hrel := hr.new (d := dst) (v := .p s.next 0) hd (e := t) ho (Nat.lt_succ_self _)
   have hc : (a.eval x).cells = (vals m v.segs).toArray := by
    rw [ex]
    cases v with
    |one c => show (c.v m).cells = (c.v m :: []).toArray; rw [C.cells]
    |agg ss => rfl
   have hex : (execOp a.eval ⟨dst, .box t x, ty, pos, after, guard⟩).run P w = .ok (.value (.pointer (some ⟨w.heap.size, 0, none⟩))) (w.alloc (.cells (vals m v.segs).toArray t (0, 0))) := by
    simp [execOp, Instr.box, newVar, newRow, hc]
   unfold Oper.wp
   rw [hex]
   refine hn _ _ _ ?_ hm (Nat.le_succ _) (fun _ => below_alloc (Below.refl _ _) _)
   have e3 : (C.p s.next 0).v (fun g => if g = s.next then w.heap.size else m g) = .pointer (some ⟨w.heap.size, 0, none⟩) := by simp [C.v]
   rw [e3] at hrel
   exact hrel
  ·cases h
 ·next t x =>
  split at h
  ·next c hx =>
   obtain ⟨ok, ex⟩ := gY hr.env hx
   split at h
   ·next v hv =>
    obtain ⟨vo, vr⟩ := nC (w := w) ok (fun g e ss hg => ⟨(hr.heap g e ss hg).2.1, (hr.heap g e ss hg).2.2.1⟩) hv
    refine ⟨_, h, fun next Q hn => ?_⟩
    have ex' : a.eval x = c.v m := ex
    have hex : (execOp a.eval ⟨dst, .load t x, ty, pos, after, guard⟩).run P w = .ok (.value (v.v m)) w := iR (by rw [ex']; exact vr)
    unfold Oper.wp
    rw [hex]
    exact hn _ _ _ (hr.put (v := .pv v) hd vo) (fun _ _ => rfl) (by cases dst <;> exact Nat.le_refl _) (fun _ => Below.refl _ _)
   ·cases h
  ·cases h
 ·next t x y =>
  split at h
  ·next c v hx hy =>
   obtain ⟨ok, ex⟩ := gY hr.env hx
   obtain ⟨oky, ey⟩ := gY hr.env hy
   split at h
   ·next hp hs =>
    obtain ⟨w', r1, r2⟩ := storeS_v hr ok oky hs
    refine ⟨_, h, fun next Q hn => ?_⟩
    have ex' : a.eval x = c.v m := ex
    have ey' : a.eval y = v.v m := ey
    have hex : (execOp a.eval ⟨dst, .store t x y, ty, pos, after, guard⟩).run P w = .ok .skip w' := by
     simp [execOp, ex', ey', r1]
    unfold Oper.wp
    rw [hex]
    exact hn _ _ _ (r2.put (v := .und) hd trivial) (fun _ _ => rfl) (by cases dst <;> exact Nat.le_refl _) (fun hf => by cases hf)
   ·cases h
  ·cases h
 ·next t len ps =>
  split at h
  ·next e vs hu hx =>
   split at h
   ·next k k' hk hz =>
    split at h
    ·next xs hi =>
     obtain ⟨h1, h2⟩ := fI h
     simp only [Bool.and_eq_true] at h1
     obtain ⟨⟨⟨⟨g1, g2⟩, g3⟩, g4⟩, g5⟩ := h1
     obtain rfl := of_decide_eq_true g1
     have g2 := eq_of_beq g2
     have g3 := Nat.le_of_ble_eq_true g3
     have g4 : 0 < len := Nat.le_of_ble_eq_true g4
     have hz1 : gZ P e = some 1 := by
      revert g5
      cases hs : gZ P e with
      |none => simp
      |some z => match z with
       |0 => simp
       |1 => simp
       |z + 2 => simp
     obtain ⟨_, ex⟩ := rW hr.env hx
     rw [ints_v m hi] at ex
     have hlx : xs.length = len := by
      have := congrArg List.length ex
      simp only [List.length_map] at this
      have h6 := congrArg List.length g2
      simp only [List.length_map, List.length_range] at h6
      omega
     obtain ⟨z0, zi, zv, zi1, zi2, zi3⟩ := gL m s.next hz
     have hrel := hr.new (d := dst) (v := .sl s.next 0 len len) hd (e := e) (ss := [.a k xs len]) ⟨hlx, trivial⟩ (Nat.lt_succ_self _)
     have hv0 : vals m [.a k xs len] = xs.map (Value.int k) := by simp [vals, S.v]
     have hps : ps.toList.map (fun x => (x.1, a.eval x.2)) = (List.range' 0 (xs.map (Value.int k)).length).zip (xs.map (Value.int k)) := by
      rw [← ex, List.length_map, ← List.range_eq_range']
      have h7 : (List.map (·.2) ps.toList).length = len := by
       have h6 := congrArg List.length g2
       simp only [List.length_map, List.length_range] at h6 ⊢
       omega
      rw [h7, ← g2]
      generalize ps.toList = l
      induction l with
      |nil => rfl
      |cons p l ih => simp [ih]
     refine ⟨_, h2, fun next Q hn => ?_⟩
     have hz' := fO hz1 w
     have hzero : (zeroValue e).run P w = .ok zv w := by simp [zeroValue, typeInfo, zi1, zi2]
     have hf := fill_all (xs.map (Value.int k)) 0 (((Array.range len).map (zv.cells[· % zv.cells.size]!)).toList) (by simp [Value.cells]) (by simp [hlx])
     have hex : (execOp a.eval ⟨dst, .buildSlice t len ps, ty, pos, after, guard⟩).run P w = .ok (.value (.slice (some ⟨w.heap.size, 0, none⟩) len len)) (w.alloc (.cells (vals m [.a k xs len]).toArray e (0, 0))) := by
      show (do let y ← Instr.buildSlice t len (ps.map fun x => (x.1, a.eval x.2)); pure (Next.value y) : Sem Next).run P w = _
      refine iR ?_
      have hps' : (ps.map fun x => (x.1, a.eval x.2)).toList = ps.toList.map (fun x => (x.1, a.eval x.2)) := by simp
      simp only [Array.toArray_toList, List.take_zero, List.nil_append] at hf
      have hne : ¬ len * 1 = 0 := by omega
      have hbig : ¬ len * 1 > 2 ^ 24 := by omega
      simp only [Instr.buildSlice, Sem.run_bind, underlying, run_program, Result.andThen_ok, hu, Sem.run_pure, hz', Sem.run_ite, if_neg hbig, if_neg hne, hzero, Nat.mul_one]
      rw [hps', hps, hv0]
      simp only [Nat.mul_one] at hf
      rw [hf]
      simp [newRow, show ¬ 16777216 < len by omega, show ¬ len = 0 by omega]
     unfold Oper.wp
     rw [hex]
     refine hn _ _ _ ?_ hm (Nat.le_succ _) (fun _ => below_alloc (Below.refl _ _) _)
     have e3 : (C.sl s.next 0 len len).v (fun g => if g = s.next then w.heap.size else m g) = .slice (some ⟨w.heap.size, 0, none⟩) len len := by simp [C.v]
     rw [e3] at hrel
     exact hrel
    ·cases h
   ·cases h
  ·cases h
 ·next f args argTypes =>
  split at h
  ·next c vs hc hv =>
   obtain ⟨⟨fn, f1, f2, f3⟩, hrun⟩ := hcl f c hc
   obtain ⟨hvo, ex⟩ := rW hr.env hv
   obtain ⟨v, hK, vo, hcalls⟩ := hrun _ _ _ _ _ _ _ hvo h
   refine ⟨_, hK, fun next Q hn => ?_⟩
   have hex : (execOp a.eval ⟨dst, .call { callee := .value (.func f), args := args, argTypes := argTypes }, ty, pos, after, guard⟩).run P w = .ok (.enter f (vs.map (PV.v m)).toArray) w := by
    have e2 : args.map a.eval = (vs.map (PV.v m)).toArray := by
     apply Array.ext'
     rw [Array.toList_map, ex]
    have f2' : ¬ fn.body = none := by intro hb; rw [hb] at f2; cases f2
    have f3' : ¬ fn.name = "runtime.NumGoroutine" := by intro hb; rw [hb] at f3; simp at f3
    simp [execOp, resolve, Act.eval, Deferred.ofValue, invoke, callFunc, f1, f3', f2', e2]
   unfold Oper.wp
   rw [hex]
   refine (hcalls m w ⟨_, fun g e ss hg => ⟨(hr.heap g e ss hg).2.1, (hr.heap g e ss hg).2.2.1⟩⟩).mono fun e w' he => ?_
   obtain ⟨rfl, hb⟩ := he
   exact hn _ _ _ ((hr.grow hb).put hd (SV.fC (Nat.zero_le _) vo)) (fun _ _ => rfl) (by cases dst <;> exact Nat.le_refl _) (fun _ => hb)
  ·cases h
 ·obtain ⟨v, h1, h2, h3⟩ := rF (o := ⟨dst, op, ty, pos, after, guard⟩) hr.env h
  refine ⟨_, h1, fun next Q hn => ?_⟩
  unfold Oper.wp
  rw [h3 w]
  exact hn _ _ _ (hr.put hd h2) (fun _ _ => rfl) (by cases dst <;> exact Nat.le_refl _) (fun _ => Below.refl _ _)
end
/- Operations behind one another, and in any order, by the reckoner's. -/

section
variable {P : Program}
theorem getD_some {a : Array Value} {t : Nat} {v : Value} (h : a.getD t undef = v) (hv : v ≠ undef) : a[t]? = some v := by
 rw [Array.getD_eq_getD_getElem?] at h
 cases hq : a[t]? with
 |none => rw [hq] at h; exact absurd h.symm hv
 |some u => rw [hq] at h; exact congrArg some h
theorem iN {R : Type} {w0 : World} {nt : Nat} {ops : Array Oper} {o : Oper} {s : St} {yes no : St → Option R} {r : R} {m : Nat → Nat} {a : Act} {w : World} (hr : Rel w0 nt m s a w) (h : guarded ops o s yes no = some r) :
  ∃ s', Rel w0 nt m s' a w ∧ s'.next = s.next ∧ s'.heap = s.heap ∧ ((Region.wanted o (yielded ops a.tmps) = true ∧ yes s' = some r) ∨ (Region.wanted o (yielded ops a.tmps) = false ∧ no s' = some r)) := by
 unfold guarded at h
 split at h
 ·next hg => exact ⟨s, hr, rfl, rfl, .inl ⟨by simp [Region.wanted, hg], h⟩⟩
 ·next j want hg =>
  split at h
  ·cases h
  ·next t ht =>
   have hw : Region.wanted o (yielded ops a.tmps) = ((match a.tmps[t]? with
     |some (.bool b) => some b
     |_ => none) == some want) := by
    have ht' : (ops[j]?).bind (fun x => x.dst) = some t := ht
    simp only [Region.wanted, hg, yielded, ht', Option.bind_some]
    cases a.tmps[t]? with
    |none => rfl
    |some v => cases v <;> rfl
   split at h
   ·next hl =>
    obtain ⟨_, e⟩ := hr.env t _ hl
    refine ⟨s, hr, rfl, rfl, .inr ⟨?_, h⟩⟩
    rw [hw]
    have e' : a.tmps.getD t undef = undef := e
    rw [Array.getD_eq_getD_getElem?] at e'
    cases hq : a.tmps[t]? with
    |none => rfl
    |some u => rw [hq] at e'; have e2 : u = undef := e'; subst e2; rfl
   ·next e hl =>
    obtain ⟨_, eb⟩ := hr.env t _ hl
    have eb' : a.tmps.getD t undef = .bool e.d := eb
    have hq := getD_some eb' (by intro hh; cases hh)
    rw [hq] at hw
    have hw' : Region.wanted o (yielded ops a.tmps) = (e.d == want) := by rw [hw]; rfl
    rw [BE.aAC] at h
    have rel : ∀ b : BE, b.d = e.d → Rel w0 nt m ⟨(t, .pv (.one (.b b))) :: s.env, s.heap, s.next⟩ a w := fun b hb =>
     ⟨hr.size, hr.dfr, fun t' v hv => by
      rw [eP] at hv
      by_cases c : t = t'
      ·subst c
       rw [if_pos rfl] at hv
       cases hv
       exact ⟨trivial, by rw [eb']; show Value.bool e.d = Value.bool b.d; rw [hb]⟩
      ·rw [if_neg c] at hv
       exact hr.env t' v hv, hr.heap, hr.inj, hr.bel⟩
    split at h
    ·next hd =>
     refine ⟨_, rel .tt hd.symm, rfl, rfl, ?_⟩
     rw [hw', hd]
     cases want
     ·exact .inr ⟨rfl, h⟩
     ·exact .inl ⟨rfl, h⟩
    ·next hd =>
     have hd' : e.d = false := by simpa using hd
     refine ⟨_, rel .ff hd'.symm, rfl, rfl, ?_⟩
     rw [hw', hd']
     cases want
     ·exact .inl ⟨rfl, h⟩
     ·exact .inr ⟨rfl, h⟩
   ·cases h
theorem jQ {R : Type} {w0 : World} {nt : Nat} {o : Oper} {s : St} {K : St → Option R} {r : R} {m : Nat → Nat} {a : Act} {w : World} (hr : Rel w0 nt m s a w) (h : kN nt o s K = some r) :
  K (s.put o.dst .und) = some r ∧ Rel w0 nt m (s.put o.dst .und) (a.put o.dst undef) w := by
 unfold kN at h
 obtain ⟨hd, h1⟩ := fI h
 exact ⟨h1, hr.put (v := .und) hd trivial⟩

variable {cl : Cls} (hcl : dG P cl)
 include hcl
theorem xQ {R : Type} {w0 : World} {nt n : Nat} {ops : Array Oper} {r : R} {Q : Exit → Act → World → Prop} : ∀ {l : List Oper} {s : St} {K : St → Option R} {m : Nat → Nat} {a : Act} {w : World}, Rel w0 nt m s a w → qX P nt cl n ops l s K = some r →
  (∀ s' m' a' w', K s' = some r → Rel w0 nt m' s' a' w' → Q .normal a' w') → wpList P ops Q l a w := by
 intro l
 induction l with
 |nil =>
  intro s K m a w hr h hK
  exact hK _ _ _ _ h hr
 |cons o l ih =>
  intro s K m a w hr h hK
  unfold qX at h
  obtain ⟨s', hr', _, _, hc⟩ := iN hr h
  unfold wpList
  rcases hc with ⟨hw, hy⟩ | ⟨hw, hn⟩
  ·rw [if_pos hw]
   obtain ⟨s2, h2, h3⟩ := wB hcl hr' hy
   exact .inl (h3 _ Q fun m' a' w' hr2 _ _ _ => ih hr2 h2 hK)
  ·rw [if_neg (by rw [hw]; decide)]
   obtain ⟨h2, hr2⟩ := jQ hr' hn
   exact ih hr2 h2 hK

omit hcl in
theorem lD {op : Op} (h : rC op = true) : gV op = false := by
 cases op <;> first | rfl | cases h
set_option maxHeartbeats 1000000 in
theorem wC {R : Type} {w0 : World} {nt n : Nat} {ops : Array Oper} {r : R} {Q : Exit → Act → World → Prop} {B : List Nat} (hT : waitsOk (rtab .any ops).2 B = true) {heap0 : List (Nat × Nat × List S)} {next0 : Nat} {m0 : Nat → Nat}
  (ho0 : ∀ g e ss, look heap0 g = some (e, ss) → g < next0 ∧ oks next0 ss) (hQ : ∀ c a w, ¬ Q (.panic c) a w) :
  ∀ {f : Nat} {l : Array Bool} {s : St} {K : St → Option R} {m : Nat → Nat} {a : Act} {w : World}, Rel w0 nt m s a w → next0 ≤ s.next → (∀ g, g < next0 → m g = m0 g) →
  kL P nt cl n ops (rtab .any ops) B (dW ops) heap0 f l.toList s K = some r →
  ((∀ d ∈ dW ops, l.getD d true = false) → ∀ g e ss, look heap0 g = some (e, ss) → w.heap[m0 g]? = some (.cells (vals m0 ss).toArray e (0, 0))) →
  (∀ s' m' a' w', K s' = some r → Rel w0 nt m' s' a' w' → Q .normal a' w') →
  wpAnyLast P .any ops Q (fun w => ∀ g e ss, look heap0 g = some (e, ss) → w.heap[m0 g]? = some (.cells (vals m0 ss).toArray e (0, 0))) (dW ops) f l a w := by
 intro f
 induction f with
 |zero =>
  intro l s K m a w hr hn0 hm0 h hS hK
  unfold kL at h
  split at h
  ·next hrd => exact ⟨by rw [ready_eq]; exact hrd, hK _ _ _ _ h hr⟩
  ·cases h
 |succ f ih =>
  intro l s K m a w hr hn0 hm0 h hS hK
  unfold kL at h
  split at h
  ·next hrd => exact wpAnyLast_done (by rw [ready_eq]; exact hrd) (hK _ _ _ _ h hr) _
  ·next hne =>
   split at h
   ·next i hi =>
    have hi' := List.find?_some hi
    simp only [Bool.and_eq_true] at hi'
    obtain ⟨hp, ha⟩ := hi'
    split at h
    ·next o ho =>
     have hany : anyB .any ops l (l.setIfInBounds i true) i = true := any_of rfl (by simpa using ha)
     have hlist : (l.setIfInBounds i true).toList = l.toList.set i true := by simp
     obtain ⟨s', hr', hnx, _, hc⟩ := iN hr h
     have hstore : ∀ d ∈ dW ops, d ≠ i := by
      intro d hd hdi
      subst hdi
      unfold dW at hd
      have h5 := (List.mem_filter.1 hd).2
      rw [ho] at h5
      have h6 : rC o.op = true := by unfold vB at hp; rw [ho] at hp; exact hp
      have h5' : gV o.op = true := h5
      rw [lD h6] at h5'
      cases h5'
     have hS' : ∀ (w : World), ((∀ d ∈ dW ops, l.getD d true = false) → ∀ g e ss, look heap0 g = some (e, ss) → w.heap[m0 g]? = some (.cells (vals m0 ss).toArray e (0, 0))) →
       (∀ d ∈ dW ops, (l.setIfInBounds i true).getD d true = false) → ∀ g e ss, look heap0 g = some (e, ss) → w.heap[m0 g]? = some (.cells (vals m0 ss).toArray e (0, 0)) := by
      intro w hw hd
      refine hw fun d hdm => ?_
      rw [← hd d hdm, getD_set_ne true (Ne.symm (hstore d hdm))]
     rcases hc with ⟨hw, hy⟩ | ⟨hw, hno⟩
     ·obtain ⟨hd, hy⟩ := fI hy
      obtain ⟨v, h1, h2, h3⟩ := rF hr'.env hy
      refine pure_ (l.setIfInBounds i true) ho rfl hany (fun c a w hq => absurd hq (hQ c _ w)) (.inl ⟨hw, h3⟩) rfl ?_
      exact ih (hr'.put hd h2) (by cases o.dst <;> (show next0 ≤ s'.next; omega)) hm0 (by rw [hlist]; exact h1) (hS' w hS) hK
     ·obtain ⟨h2, hr2⟩ := jQ hr' hno
      refine pure_ (l.setIfInBounds i true) ho rfl hany (fun c a w hq => absurd hq (hQ c _ w)) (.inr ⟨hw, rfl⟩) rfl ?_
      exact ih hr2 (by cases o.dst <;> (show next0 ≤ s'.next; omega)) hm0 (by rw [hlist]; exact h2) (hS' w hS) hK
    ·cases h
   ·next =>
    split at h
    ·next i hi =>
     have hi' := List.find?_some hi
     simp only [Bool.and_eq_true] at hi'
     obtain ⟨⟨hp, ha⟩, hds⟩ := hi'
     have hds' : ∀ d ∈ dW ops, l.getD d true = false := by
      intro d hd
      have := List.all_eq_true.1 hds d hd
      have e : l.toList.getD d true = l.getD d true := (gd l d true).symm
      rw [e] at this
      simpa using this
     have hSw := hS hds'
     split at h
     ·next o ho =>
      have htake : takeB .any ops (dW ops) l (l.setIfInBounds i true) i = true := take_ofW rfl hT (by simpa using ha)
      have hlist : (l.setIfInBounds i true).toList = l.toList.set i true := by simp
      obtain ⟨s', hr', hnx, _, hc⟩ := iN hr h
      rcases hc with ⟨hw, hy⟩ | ⟨hw, hno⟩
      ·obtain ⟨hd, hy⟩ := fI hy
       split at hy
       ·next t x hop =>
        split at hy
        ·next c hx =>
         split at hy
         ·next v hv =>
          obtain ⟨ok, ex⟩ := gY hr'.env hx
          have ex' : a.eval x = c.v m := ex
          have hval : ∀ w : World, (∀ g e ss, look heap0 g = some (e, ss) → w.heap[m0 g]? = some (.cells (vals m0 ss).toArray e (0, 0))) → v.ok s'.next ∧ (execOp a.eval o).run P w = .ok (.value (v.v m)) w := by
           intro w hw
           obtain ⟨q1, q2⟩ := nC (m := m) (w := w) (heap := heap0) ok (fun g e ss hg => by
            obtain ⟨b1, b2⟩ := ho0 g e ss hg
            refine ⟨iD (by rw [hnx]; exact hn0) b2, ?_⟩
            rw [hm0 g b1, gM hm0 b2]
            exact hw g e ss hg) hv
           refine ⟨q1, ?_⟩
           obtain ⟨dst, op, ty, pos, after, guard⟩ := o
           simp only at hop
           subst hop
           exact iR (by rw [ex']; exact q2)
          refine take_ (v := v.v m) (l.setIfInBounds i true) ho rfl htake (fun c a w hq => absurd hq (hQ c _ w)) (.inl ⟨hw, fun w hw => (hval w hw).2⟩) hSw rfl ?_
          refine ih (hr'.put (v := .pv v) hd (hval w hSw).1) (by cases o.dst <;> (show next0 ≤ s'.next; omega)) hm0 (by rw [hlist]; exact hy) (fun _ => hSw) hK
         ·cases hy
        ·cases hy
       ·cases hy
      ·obtain ⟨h2, hr2⟩ := jQ hr' hno
       refine take_ (l.setIfInBounds i true) ho rfl htake (fun c a w hq => absurd hq (hQ c _ w)) (.inr ⟨hw, rfl⟩) hSw rfl ?_
       exact ih hr2 (by cases o.dst <;> (show next0 ≤ s'.next; omega)) hm0 (by rw [hlist]; exact h2) (fun _ => hSw) hK
     ·cases h
    ·split at h
     ·next i hrd =>
      split at h
      ·next o ho =>
       have hlist : (l.setIfInBounds i true).toList = l.toList.set i true := by simp
       have hready : Region.ready .any ops l = [i] := by rw [ready_eq]; exact hrd
       have hun : l.getD i true = false := (mem_ready.1 (by rw [hready]; exact List.mem_cons_self ..)).1
       refine wpAnyLast_all hready (by simp) fun j hj => ?_
       obtain rfl : j = i := by simpa using hj
       have hmem : j ∈ dW ops ↔ gV o.op = true := by
        unfold dW
        rw [List.mem_filter, List.mem_range, ho]
        exact ⟨fun hh => hh.2, fun hh => ⟨(Array.getElem?_eq_some_iff.1 ho).1, hh⟩⟩
       have hSn : ∀ w' : World, (j ∉ dW ops → Below w.heap.size w w') → (∀ d ∈ dW ops, (l.setIfInBounds j true).getD d true = false) → ∀ g e ss, look heap0 g = some (e, ss) → w'.heap[m0 g]? = some (.cells (vals m0 ss).toArray e (0, 0)) := by
        intro w' hb hd g e ss hg
        have hnot : j ∉ dW ops := fun hh => by
         have := hd j hh
         have hlt : j < l.size := by
          rcases Nat.lt_or_ge j l.size with h' | h'
          ·exact h'
          ·rw [Array.getD_eq_getD_getElem?, Array.getElem?_eq_none h'] at hun; cases hun
         simp [hlt] at this
        have h0 := hS (fun d hdm => by
         have hne : j ≠ d := fun hh => hnot (by rw [hh]; exact hdm)
         rw [← hd d hdm, getD_set_ne true hne]) g e ss hg
        exact (hb hnot).block _ (blk_lt h0) |>.trans h0
       obtain ⟨s', hr', hnx, _, hc⟩ := iN hr h
       unfold wpOp
       rw [ho]
       show if Region.wanted o (yielded ops a.tmps) = true then _ else _
       rcases hc with ⟨hw, hy⟩ | ⟨hw, hno⟩
       ·rw [if_pos hw]
        obtain ⟨s2, h2, h3⟩ := wB hcl hr' hy
        refine .inl (h3 _ Q fun m' a' w' hr2 hmm hnn hb => ?_)
        have hb' : j ∉ dW ops → Below w.heap.size w w' := fun hh => hb (by
         cases hst : gV o.op
         ·rfl
         ·exact absurd (hmem.2 hst) hh)
        exact ⟨fun hnot hSw g e ss hg => ((hb' hnot).block _ (blk_lt (hSw g e ss hg))).trans (hSw g e ss hg), ih hr2 (by omega) (fun g hg => (hmm g (by omega)).trans (hm0 g hg)) (by rw [hlist]; exact h2) (hSn w' hb') hK⟩
       ·rw [if_neg (by rw [hw]; decide)]
        obtain ⟨h2, hr2⟩ := jQ hr' hno
        exact ⟨fun _ hSw => hSw, ih hr2 (by cases o.dst <;> (show next0 ≤ s'.next; omega)) hm0 (by rw [hlist]; exact h2) (hSn w (fun _ => Below.refl _ _)) hK⟩
      ·cases h
     ·cases h
theorem wP {R : Type} {w0 : World} {nt n id : Nat} {ops : Array Oper} {draw : Bool} {s : St} {K : St → Option R} {r : R} {m : Nat → Nat} {a : Act} {w : World} {Q : Exit → Act → World → Prop} (hr : Rel w0 nt m s a w) (hQ : ∀ c a w, ¬ Q (.panic c) a w)
  (h : xR P nt cl n ops draw s K = some r) (hK : ∀ s' m' a' w', K s' = some r → Rel w0 nt m' s' a' w' → Q .normal a' w') : (Code.region id ops draw).wp P Q a w := by
 unfold xR at h
 cases draw with
 |false => exact wp_region_list (xQ hcl hr h hK)
 |true =>
  obtain ⟨h1, h2⟩ := fI h
  rw [Bool.and_eq_true] at h1
  have hw : Below w.heap.size w w.drew := below_drew (Below.refl _ _)
  refine wp_region_last (S := fun w => ∀ g e ss, look s.heap g = some (e, ss) → w.heap[m g]? = some (.cells (vals m ss).toArray e (0, 0))) (ds := dW ops) h1.1 ?_
  refine wC hcl h1.2 (next0 := s.next) (fun g e ss hg => ⟨(hr.heap g e ss hg).1, (hr.heap g e ss hg).2.1⟩) hQ (hr.grow hw) (Nat.le_refl _) (fun _ _ => rfl) (by rw [Array.toList_replicate]; exact h2) (fun _ g e ss hg => (hr.heap g e ss hg).2.2.1) hK
end
end Go.Proofs.YtolpdiifmacdbaaGreat.Ek
