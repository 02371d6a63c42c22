import Derived.Test.YtolpdiifmacdbaaGreatQcoM3
import Derived.Test.YtolpdiifmacdbaaGreatQcoWMore
/- Code, and functions: what the reckoner answers, the machine answers. -/
set_option linter.unusedVariables false
set_option linter.unusedSimpArgs false
namespace Go.Proofs.YtolpdiifmacdbaaGreat.Ek
open Go.RowKit Go.Proofs.YtolpdiifmacdbaaGreatW.PrintWords Go.Proofs.YtolpdiifmacdbaaGreatW.PrintLast Go.Proofs.YtolpdiifmacdbaaGreatW.PrintMore

section
variable (m : Nat → Nat)
theorem C.uP (c : C) : c.gen.v m = c.v m := by cases c <;> rfl
theorem S.uP (s : S) : s.gen.v m = s.v m := by
 cases s with
 |c u => show [u.gen.v m] = [u.v m]; rw [C.uP]
 |a => rfl
theorem yU (ss : List S) : vals m (ss.map S.gen) = vals m ss := by
 induction ss with
 |nil => rfl
 |cons s r ih => show s.gen.v m ++ vals m (r.map S.gen) = _; rw [S.uP, ih]; rfl
theorem PV.uP (v : PV) : v.gen.v m = v.v m := by
 cases v with
 |one c => exact C.uP m c
 |agg ss => show Value.agg _ = Value.agg _; rw [yU]
theorem SV.uP (v : SV) : v.gen.v m = v.v m := by
 cases v with
 |pv u => exact PV.uP m u
 |tup vs =>
  show Value.tuple _ = Value.tuple _
  rw [List.map_map]
  congr 2
  exact List.map_congr_left fun u _ => PV.uP m u
 |und => rfl
end
section
variable {N : Nat}
theorem C.nV {c : C} (h : c.ok N) : c.gen.ok N := by cases c <;> exact h
theorem S.nV {s : S} (h : s.ok N) : s.gen.ok N := by
 cases s with
 |c u => exact C.nV h
 |a => exact h
theorem aBv {ss : List S} (h : oks N ss) : oks N (ss.map S.gen) := by
 induction ss with
 |nil => trivial
 |cons s r ih => exact ⟨S.nV h.1, ih h.2⟩
theorem PV.nV {v : PV} (h : v.ok N) : v.gen.ok N := by
 cases v with
 |one c => exact C.nV h
 |agg ss => exact aBv h
theorem SV.nV {v : SV} (h : v.ok N) : v.gen.ok N := by
 cases v with
 |pv u => exact PV.nV h
 |tup vs =>
  intro u hu
  obtain ⟨x, hx, rfl⟩ := List.mem_map.1 hu
  exact PV.nV (h x hx)
 |und => trivial
end
theorem wX {env : List (Nat × SV)} {mk : Nat} : ∀ {n t : Nat} {v : SV}, look (tC env mk n) t = some v → ∃ u, look env t = some u ∧ v = u.gen := by
 intro n
 induction n with
 |zero => intro t v h; cases h
 |succ n ih =>
  intro t v h
  unfold tC at h
  cases hb : Nat.beq (Nat.land (Nat.shiftRight mk n) 1) 1
  ·rw [hb] at h; exact ih h
  ·rw [hb] at h
   simp only [cnd] at h
   split at h
   ·next u hu =>
    rw [eP] at h
    by_cases c : n = t
    ·rw [if_pos c] at h; cases h; subst c; exact ⟨u, hu, rfl⟩
    ·rw [if_neg c] at h; exact ih h
   ·exact ih h
theorem wT {mk : Nat} {heap : List (Nat × Nat × List S)} : ∀ {g e : Nat} {ss : List S}, look (o8 mk heap) g = some (e, ss) → ∃ q, look heap g = some (e, q) ∧ ss = q.map S.gen := by
 induction heap with
 |nil => intro g e ss h; cases h
 |cons p r ih =>
  obtain ⟨k, t, q⟩ := p
  intro g e ss h
  have keep : ∀ {g e ss}, k ≠ g → look (o8 mk r) g = some (e, ss) → ∃ q', look ((k, t, q) :: r) g = some (e, q') ∧ ss = q'.map S.gen := by
   intro g e ss hk h
   obtain ⟨q', h1, h2⟩ := ih h
   exact ⟨q', by rw [eP, if_neg hk]; exact h1, h2⟩
  unfold o8 at h
  cases hb : Nat.beq (Nat.land (Nat.shiftRight mk k) 1) 1
  ·rw [hb] at h
   simp only [cnd] at h
   by_cases c : k = g
   ·exfalso
    subst c
    -- a block whose bit isn't set isn't kept
    have : ∀ (l : List (Nat × Nat × List S)), look (o8 mk l) k = none := by
     intro l
     induction l with
     |nil => rfl
     |cons p l ihl =>
      obtain ⟨k', t', q'⟩ := p
      unfold o8
      cases hb' : Nat.beq (Nat.land (Nat.shiftRight mk k') 1) 1
      ·exact ihl
      ·simp only [cnd]
       rw [eP, if_neg (fun hh => by rw [hh, hb] at hb'; cases hb')]
       exact ihl
    rw [this] at h; cases h
   ·exact keep c h
  ·rw [hb] at h
   simp only [cnd] at h
   rw [eP] at h
   by_cases c : k = g
   ·rw [if_pos c] at h
    cases h
    exact ⟨q, by rw [eP, if_pos c], rfl⟩
   ·rw [if_neg c] at h; exact keep c h
theorem rJ (a b : Nat) : a ≤ aAP a b := by
 unfold aAP
 cases h : Nat.ble a b
 ·exact Nat.le_refl _
 ·exact Nat.le_of_ble_eq_true h
theorem oZ (a b : Nat) : b ≤ aAP a b := by
 unfold aAP
 cases h : Nat.ble a b
 ·have : ¬ a ≤ b := fun hh => by rw [Nat.ble_eq_true_of_le hh] at h; cases h
  show b ≤ a; omega
 ·exact Nat.le_refl _
section
variable {N : Nat}
theorem C.qM {c : C} (h : c.ok N) : c.ok c.top := by
 cases c with
 |pd g o j n => exact ⟨Nat.lt_succ_self _, h.2⟩
 |p g o => exact Nat.lt_succ_self _
 |sl g o n c => exact Nat.lt_succ_self _
 |_ => trivial
theorem aAy {ss : List S} (h : oks N ss) : oks (tops ss) ss := by
 induction ss with
 |nil => trivial
 |cons s r ih =>
  cases s with
  |c u => exact ⟨C.fC (rJ _ _) (C.qM h.1), iD (oZ _ _) (ih h.2)⟩
  |a k xs n => exact ⟨h.1, ih h.2⟩
theorem PV.qM {v : PV} (h : v.ok N) : v.ok (tops v.segs) := by
 cases v with
 |one c => exact C.fC (rJ _ _) (C.qM h)
 |agg ss => exact aAy h
theorem SV.qM {v : SV} (h : v.ok N) : v.ok v.top := by
 cases v with
 |pv u => exact PV.qM h
 |tup vs =>
  show ∀ v ∈ vs, v.ok (topsV vs)
  have h' : ∀ v ∈ vs, v.ok N := h
  clear h
  induction vs with
  |nil => intro v hv; cases hv
  |cons u r ih =>
   intro v hv
   rcases List.mem_cons.1 hv with rfl | hv
   ·exact PV.fC (rJ _ _) (PV.qM (h' v (List.mem_cons_self ..)))
   ·exact PV.fC (oZ _ _) (ih (fun w hw => h' w (List.mem_cons_of_mem _ hw)) v hv)
 |und => trivial
end
theorem topE_le {env : List (Nat × SV)} {t : Nat} {v : SV} (h : look env t = some v) : v.top ≤ topE env := by
 induction env with
 |nil => cases h
 |cons p r ih =>
  obtain ⟨k, u⟩ := p
  rw [eP] at h
  by_cases c : k = t
  ·rw [if_pos c] at h; cases h; exact rJ _ _
  ·rw [if_neg c] at h; exact Nat.le_trans (ih h) (oZ _ _)
theorem topH_le {heap : List (Nat × Nat × List S)} {g e : Nat} {ss : List S} (h : look heap g = some (e, ss)) : g < topH heap ∧ tops ss ≤ topH heap := by
 induction heap with
 |nil => cases h
 |cons p r ih =>
  obtain ⟨k, t, q⟩ := p
  rw [eP] at h
  by_cases c : k = g
  ·rw [if_pos c] at h
   cases h
   subst c
   exact ⟨rJ _ _, Nat.le_trans (rJ _ _) (oZ _ _)⟩
  ·rw [if_neg c] at h
   obtain ⟨h1, h2⟩ := ih h
   have := Nat.le_trans (oZ (tops q) (topH r)) (oZ (k + 1) (aAP (tops q) (topH r)))
   exact ⟨Nat.lt_of_lt_of_le h1 this, Nat.le_trans h2 this⟩
theorem xC {w0 : World} {nt mk : Nat} {m : Nat → Nat} {s : St} {a : Act} {w : World} (h : Rel w0 nt m s a w) : Rel w0 nt m (clean nt mk s) a w := by
 have k : ∀ {g e ss}, look (clean nt mk s).heap g = some (e, ss) → ∃ q, look s.heap g = some (e, q) ∧ ss = q.map S.gen := fun h => wT h
 refine ⟨h.size, h.dfr, ?_, ?_, ?_, h.bel⟩
 ·intro t v hv
  obtain ⟨u, hu, rfl⟩ := wX hv
  obtain ⟨o, e⟩ := h.env t u hu
  refine ⟨SV.fC (Nat.le_trans (topE_le hv) (rJ _ _)) (SV.qM (SV.nV o)), by rw [SV.uP]; exact e⟩
 ·intro g e ss hg
  obtain ⟨q, h1, rfl⟩ := k hg
  obtain ⟨a1, a2, a3, a4⟩ := h.heap g e q h1
  obtain ⟨c1, c2⟩ := topH_le hg
  exact ⟨Nat.lt_of_lt_of_le c1 (oZ _ _), iD (Nat.le_trans c2 (oZ _ _)) (aAy (aBv a2)), by rw [yU]; exact a3, a4⟩
 ·intro g g' h1 h2 h3
  have k' : ∀ g, (look (clean nt mk s).heap g).isSome = true → (look s.heap g).isSome = true := fun g hg => by
   obtain ⟨⟨e, ss⟩, he⟩ := Option.isSome_iff_exists.mp hg
   obtain ⟨q, h1, _⟩ := k he
   rw [h1]; rfl
  exact h.inj g g' (k' g h1) (k' g' h2) h3

def Out.exit : Out → Exit
 |.nor => .normal
 |.ret => .ret
 |.ex id => .exit id
section
variable {P : Program} {cl : Cls} (hcl : dG P cl) {R : Type} {w0 : World} {nt rm : Nat} {cuts : List Nat} {r : R}
def Does (P : Program) (w0 : World) (nt : Nat) (r : R) (c : Code) (f : St → (Out → St → Option R) → Option R) : Prop :=
 ∀ (s : St) (K : Out → St → Option R) (m : Nat → Nat) (a : Act) (w : World) (Q : Exit → Act → World → Prop), Rel w0 nt m s a w → (∀ c a w, ¬ Q (.panic c) a w) → f s K = some r →
  (∀ o s' m' a' w', K o s' = some r → Rel w0 nt m' s' a' w' → Q o.exit a' w') → c.wp P Q a w
theorem aAM {c : Code} {f : Nat → St → (Out → St → Option R) → Option R} {mk : Nat} (hf : ∀ n, Does P w0 nt r c (f n)) : ∀ (n : Nat) (s : St) (K : Out → St → Option R) (m : Nat → Nat) (a : Act) (w : World) (Q : Exit → Act → World → Prop), Rel w0 nt m s a w →
  (∀ c a w, ¬ Q (.panic c) a w) → rU nt f mk n s K = some r → (∀ o s' m' a' w', K o s' = some r → Rel w0 nt m' s' a' w' → Q o.exit a' w') → Code.rounds P c Q n a w := by
 intro n
 induction n with
 |zero => intro s K m a w Q _ _ h _; cases h
 |succ n ih =>
  intro s K m a w Q hr hQ h hK
  unfold rU at h
  refine hf n s _ m a w _ hr (fun c a w => hQ c a w) h fun o s' m' a' w' ho hr' => ?_
  cases o with
  |nor => exact ih _ _ m' a' w' Q (xC hr') hQ ho hK
  |ret => exact hK .ret _ _ _ _ ho hr'
  |ex id => exact hK (.ex id) _ _ _ _ ho hr'
include hcl in
theorem evC_v : ∀ (c : Code) (lv : Nat) (ex : List (Nat × Nat)) (n : Nat), Does P w0 nt r c (evC P nt cl rm cuts c lv ex n) := by
 intro c
 induction c with
 |skip => intro lv ex n s K m a w Q hr _ h hK; exact wp_skip (hK .nor _ _ _ _ h hr)
 |region id ops draw => intro lv ex n s K m a w Q hr hQ h hK; exact wP hcl hr hQ h (fun s' m' a' w' h' hr' => hK .nor _ _ _ _ h' hr')
 |seq x y ihx ihy =>
  intro lv ex n s K m a w Q hr hQ h hK
  refine wp_seq (ihx _ _ _ s _ m a w _ hr (fun c a w => hQ c a w) h fun o s' m' a' w' ho hr' => ?_)
  cases o with
  |nor =>
   have ho : (cnd (cutAt cuts y) (evJ (fun s => evC P nt cl rm cuts y lv ex n s K) (clean nt (lvC rm y lv ex) s')) <| evC P nt cl rm cuts y lv ex n s' K) = some r := ho
   show y.wp P Q a' w'
   rcases pI ho with ⟨_, h1⟩ | ⟨_, h1⟩
   ·exact ihy _ _ _ _ K m' a' w' Q (xC hr') hQ h1 hK
   ·exact ihy _ _ _ _ K m' a' w' Q hr' hQ h1 hK
  |ret => exact hK .ret _ _ _ _ ho hr'
  |ex id => exact hK (.ex id) _ _ _ _ ho hr'
 |cond x y z ihy ihz =>
  intro lv ex n s K m a w Q hr hQ h hK
  unfold evC at h
  split at h
  ·next e he =>
   obtain ⟨_, eb⟩ := gY hr.env he
   have eb' : a.eval x = .bool e.d := eb
   rw [BE.aAC] at h
   refine wp_cond_split eb' (fun hd => ?_) (fun hd => ?_)
   ·rw [if_pos hd] at h; exact ihy _ _ _ _ K m a w Q hr hQ h hK
   ·rw [if_neg (by rw [hd]; decide)] at h; exact ihz _ _ _ _ K m a w Q hr hQ h hK
  ·cases h
 |block id x ih =>
  intro lv ex n s K m a w Q hr hQ h hK
  refine wp_block (ih _ _ _ s _ m a w _ hr (fun c a w => hQ c a w) h fun o s' m' a' w' ho hr' => ?_)
  cases o with
  |nor => exact hK .nor _ _ _ _ ho hr'
  |ret => exact hK .ret _ _ _ _ ho hr'
  |ex j =>
   show if j = id then Q .normal a' w' else Q (.exit j) a' w'
   have ho : (cnd (Nat.beq j id) (K .nor s') <| K (.ex j) s') = some r := ho
   rcases pI ho with ⟨h0, h1⟩ | ⟨h0, h1⟩
   ·rw [if_pos (Nat.eq_of_beq_eq_true h0)]; exact hK .nor _ _ _ _ h1 hr'
   ·rw [if_neg (Nat.ne_of_beq_eq_false h0)]; exact hK (.ex j) _ _ _ _ h1 hr'
 |loop x ih =>
  intro lv ex n s K m a w Q hr hQ h hK
  exact wp_loop_rounds n (aAM (fun n => ih _ _ n) n _ K m a w Q (xC hr) hQ h hK)
 |exit id => intro lv ex n s K m a w Q hr _ h hK; exact wp_exit (hK (.ex id) _ _ _ _ h hr)
 |ret => intro lv ex n s K m a w Q hr _ h hK; exact wp_ret (hK .ret _ _ _ _ h hr)
 |_ => intro lv ex n s K m a w Q hr _ h hK; cases h

def lV (tmps : Array Value) : ResultVar → Sem Value
 |.tmp t => pure (tmps.getD t undef)
 |.cell b t => do loadVar t (← asAddr (tmps.getD b undef))
theorem oQ (fn : Func) (tmps : Array Value) : results fn tmps = (do
  let vs ← fn.results.mapM (lV tmps)
  pure (if h : vs.size = 1 then vs[0] else .tuple vs)) := by
 unfold results
 have : (fun x => match x with
   |ResultVar.tmp t => pure (tmps.getD t undef)
   |ResultVar.cell a t => do loadVar t (← asAddr (tmps.getD a undef))) = lV tmps := by funext x; cases x <;> rfl
 exact congrArg (fun f => (do
  let vs ← fn.results.mapM f
  pure (if h : vs.size = 1 then vs[0] else .tuple vs) : Sem Value)) this
theorem xG {m : Nat → Nat} {s : St} {a : Act} {w : World} (hr : Rel w0 nt m s a w) {x : ResultVar} {v : PV} (h : aBa P s x = some v) :
  v.ok s.next ∧ (lV a.tmps x).run P w = .ok (v.v m) w := by
 cases x with
 |tmp t =>
  have h : (match look s.env t with
   |some (.pv v) => some v
   |_ => none) = some v := h
  split at h
  ·next u hu =>
   cases h
   obtain ⟨o, e⟩ := hr.env t _ hu
   exact ⟨o, by show (pure (a.tmps.getD t undef) : Sem Value).run P w = _; rw [Sem.run_pure, e]; rfl⟩
  ·cases h
 |cell b t =>
  have h : (match look s.env b with
   |some (.pv (.one c)) => pF P t s.heap c
   |_ => none) = some v := h
  split at h
  ·next c hc =>
   obtain ⟨o, e⟩ := hr.env b _ hc
   obtain ⟨o1, e1⟩ := nC (w := w) o (fun g e ss hg => ⟨(hr.heap g e ss hg).2.1, (hr.heap g e ss hg).2.2.1⟩) h
   refine ⟨o1, ?_⟩
   have e' : a.tmps.getD b undef = c.v m := e
   have hp : ∃ ad, c.v m = .pointer (some ad) := by
    cases c with
    |p g o => exact ⟨_, rfl⟩
    |pd g o j n => exact ⟨_, rfl⟩
    |_ => cases h
   obtain ⟨ad, had⟩ := hp
   rw [had] at e1 e'
   have e1 : (loadVar t ad).run P w = .ok (v.v m) w := e1
   show (do loadVar t (← asAddr (a.tmps.getD b undef)) : Sem Value).run P w = _
   rw [e']
   exact e1
  ·cases h
theorem uA {m : Nat → Nat} {s : St} {a : Act} {w : World} (hr : Rel w0 nt m s a w) {xs : List ResultVar} : ∀ {vs : List PV}, l8 P s xs = some vs → (∀ v ∈ vs, v.ok s.next) ∧ (xs.mapM (lV a.tmps)).run P w = .ok (vs.map (PV.v m)) w := by
 induction xs with
 |nil => intro vs h; cases h; exact ⟨by simp, by simp⟩
 |cons x r ih =>
  intro vs h
  unfold l8 at h
  split at h
  ·next v ws h1 h2 =>
   cases h
   obtain ⟨o, e⟩ := xG hr h1
   obtain ⟨o', e'⟩ := ih h2
   refine ⟨fun u hu => ?_, ?_⟩
   ·rcases List.mem_cons.1 hu with rfl | hu
    ·exact o
    ·exact o' u hu
   ·rw [List.mapM_cons, Sem.run_bind, e]
    simp only [Result.andThen_ok, Sem.run_bind, e', Sem.run_pure, List.map_cons]
  ·cases h
theorem xS {m : Nat → Nat} {s : St} {a : Act} {w : World} (hr : Rel w0 nt m s a w) {fn : Func} {v : SV} (h : rD P fn s = some v) : v.ok s.next ∧ (results fn a.tmps).run P w = .ok (v.v m) w := by
 unfold rD at h
 have hrun : ∀ vs, l8 P s fn.results.toList = some vs → (∀ v ∈ vs, v.ok s.next) ∧ (results fn a.tmps).run P w = .ok (if h : (vs.map (PV.v m)).toArray.size = 1 then (vs.map (PV.v m)).toArray[0] else .tuple (vs.map (PV.v m)).toArray) w := by
  intro vs hvs
  obtain ⟨o, e⟩ := uA hr hvs
  refine ⟨o, ?_⟩
  have e2 : (fn.results.mapM (lV a.tmps)).run P w = .ok (vs.map (PV.v m)).toArray w := by
   rw [Array.mapM_eq_mapM_toList]
   simp [e]
  rw [oQ, Sem.run_bind, e2]
  rfl
 split at h
 ·next u hu =>
  cases h
  obtain ⟨o, e⟩ := hrun _ hu
  exact ⟨o u (List.mem_cons_self ..), by rw [e]; rfl⟩
 ·next vs hne hu =>
  cases h
  obtain ⟨o, e⟩ := hrun _ hu
  refine ⟨o, ?_⟩
  rw [e, dif_neg]
  ·rfl
  ·intro hl
   match vs, hl, hne with
   |[u], _, hne => exact hne u rfl
 ·cases h
theorem aA7 {vs : List PV} : ∀ {i t : Nat} {v : SV}, look (argE vs i) t = some v → ∃ u, i ≤ t ∧ vs[t - i]? = some u ∧ v = .pv u := by
 induction vs with
 |nil => intro i t v h; cases h
 |cons u r ih =>
  intro i t v h
  unfold argE at h
  rw [eP] at h
  by_cases c : i = t
  ·rw [if_pos c] at h; cases h; subst c; exact ⟨u, Nat.le_refl _, by simp, rfl⟩
  ·rw [if_neg c] at h
   obtain ⟨x, h1, h2, h3⟩ := ih h
   refine ⟨x, by omega, ?_, h3⟩
   rw [show t - i = (t - (i + 1)) + 1 by omega, List.getElem?_cons_succ]; exact h2
include hcl in
theorem evF_v {f n : Nat} {fn : Func} {vs : List PV} {K : SV → Option R} (hf : P.funcs[f]? = some fn) (ho : ∀ v ∈ vs, v.ok 0) (h : evF P cl fn cuts n vs K = some r) :
  ∀ (m : Nat → Nat) (w : World), Calls P f (vs.map (PV.v m)).toArray w fun e w' => ∃ v m', K v = some r ∧ e = .returned (v.v m') ∧ (∃ N, v.ok N) ∧ Below w.heap.size w w' := by
 intro m w
 unfold evF at h
 split at h
 ·next c hb =>
  obtain ⟨h0, h1⟩ := fI h
  rw [Bool.and_eq_true] at h0
  have h2 := Nat.eq_of_beq_eq_true h0.1
  have h3 := Nat.le_of_ble_eq_true h0.2
  have hrel : Rel w fn.ntmps m ⟨argE vs 0, [], 0⟩ { tmps := (vs.map (PV.v m)).toArray ++ Array.replicate (fn.ntmps - (vs.map (PV.v m)).toArray.size) undef, defers := [] } w := by
   refine ⟨by simp; omega, rfl, ?_, (fun g e ss hg => nomatch hg), (fun g g' hg => nomatch hg), Below.refl _ _⟩
   intro t v hv
   obtain ⟨u, _, hu, rfl⟩ := aA7 hv
   rw [Nat.sub_zero] at hu
   refine ⟨ho u (List.mem_of_getElem? hu), ?_⟩
   have hlt : t < vs.length := (List.getElem?_eq_some_iff.1 hu).1
   rw [Array.getD_eq_getD_getElem?, Array.getElem?_append_left (by simpa using hlt)]
   simp [hu]
   rfl
  refine calls_of_wp hf hb ?_
  refine wp_mono (Q := fun e a' w' => (∃ v m', K v = some r ∧ (∃ N, v.ok N) ∧ a'.defers = [] ∧ (results fn a'.tmps).run P w' = .ok (v.v m') w' ∧ Below w.heap.size w w') ∧ (e = .normal ∨ e = .ret)) (evC_v hcl c _ _ n _ _ m _ w _ hrel ?_ h1 ?_) ?_
  ·rintro c a w ⟨_, h | h⟩ <;> cases h
  ·intro o s' m' a' w' hk hr'
   have fin : (match rD P fn s' with
     |some v => K v
     |none => none) = some r → ∃ v m', K v = some r ∧ (∃ N, v.ok N) ∧ a'.defers = [] ∧ (results fn a'.tmps).run P w' = .ok (v.v m') w' ∧ Below w.heap.size w w' := by
    intro hk
    split at hk
    ·next v hv =>
     obtain ⟨o1, e1⟩ := xS hr' hv
     exact ⟨v, m', hk, ⟨_, o1⟩, hr'.dfr, e1, hr'.bel⟩
    ·cases hk
   cases o with
   |nor => exact ⟨fin hk, .inl rfl⟩
   |ret => exact ⟨fin hk, .inr rfl⟩
   |ex id => cases hk
  ·rintro e a' w' ⟨⟨v, m', g1, g2, g3, g4, g5⟩, he⟩
   rcases he with rfl | rfl
   ·exact ⟨g3, _, g4, v, m', g1, rfl, g2, g5⟩
   ·exact ⟨g3, _, g4, v, m', g1, rfl, g2, g5⟩
 ·cases h
end
/- Functions of numbers, truth values, structs and arrays of these: what they are given and answer, as plain values. -/

inductive Lf where
 |i (k : IntKind)
 |b
 |a (k : IntKind) (n : Nat)
def Lf.T : Lf → Type
 |.i _ => Int
 |.b => Bool
 |.a _ _ => List Int
def Tq : List Lf → Type
 |[] => Unit
 |l :: r => l.T × Tq r
def sP : (l : Lf) → l.T → S
 |.i k, x => .c (.i k (.x x))
 |.b, x => .c (.b (.q x))
 |.a k n, xs => .a k xs n
def sH : (ls : List Lf) → Tq ls → List S
 |[], _ => []
 |l :: r, x => sP l x.1 :: sH r x.2
def takeLf : (l : Lf) → List S → Option (l.T × List S)
 |.i k, .c (.i k' x) :: r => cnd (decide (k' = k)) (some (x.d, r)) <| none
 |.b, .c (.b x) :: r => some (x.d, r)
 |.a k n, .a k' xs n' :: r => cnd (decide (k' = k) && Nat.beq n' n) (some (xs, r)) <| none
 |.a k n, ss => match nZ ss n with
  |some (q, r) => match uJ k q with
   |some xs => some (xs, r)
   |none => none
  |none => none
 |_, _ => none
def vZ : (ls : List Lf) → List S → Option (Tq ls)
 |[], [] => some ()
 |[], _ :: _ => none
 |l :: r, ss => match takeLf l ss with
  |some (x, q) => match vZ r q with
   |some y => some (x, y)
   |none => none
  |none => none
inductive Sh where
 |one (l : Lf)
 |agg (ls : List Lf)
def Sh.lfs : Sh → List Lf
 |.one l => [l]
 |.agg ls => ls
def aBs (h : Sh) (v : PV) : Option (Tq h.lfs) := match h, v with
 |.one l, .one c => vZ [l] [.c c]
 |.agg ls, .agg ss => vZ ls ss
 |_, _ => none
def sN : (h : Sh) → Tq h.lfs → PV
 |.one l, x => match sP l x.1 with
  |.c c => .one c
  |s => .agg [s]
 |.agg ls, x => .agg (sH ls x)
def Ts : List Sh → Type
 |[] => Unit
 |h :: r => Tq h.lfs × Ts r
def takes : (hs : List Sh) → List PV → Option (Ts hs)
 |[], [] => some ()
 |[], _ :: _ => none
 |_ :: _, [] => none
 |h :: r, v :: q => match aBs h v, takes r q with
  |some x, some y => some (x, y)
  |_, _ => none
def gives : (hs : List Sh) → Ts hs → List PV
 |[], _ => []
 |h :: r, x => sN h x.1 :: gives r x.2
def Sh.plain : Sh → Bool
 |.one (.a _ _) => false
 |_ => true
def kT (hs : List Sh) : SV → Option (Ts hs)
 |.pv v => takes hs [v]
 |.tup vs => cnd (Nat.beq vs.length 1) (none) <| takes hs vs
 |.und => none
def kK (hs : List Sh) (x : Ts hs) : SV := match gives hs x with
 |[v] => .pv v
 |vs => .tup vs

theorem takeLf_v (m : Nat → Nat) {N : Nat} {l : Lf} {ss r : List S} {x : l.T} (ho : oks N ss) (h : takeLf l ss = some (x, r)) : oks N r ∧ (sP l x).ok 0 ∧ vals m ss = (sP l x).v m ++ vals m r := by
 cases l with
 |i k =>
  match ss, h with
  |.c (.i k' y) :: q, h =>
   obtain ⟨h1, h2⟩ := fI h
   cases h2
   obtain rfl := of_decide_eq_true h1
   exact ⟨ho.2, trivial, rfl⟩
 |b =>
  match ss, h with
  |.c (.b y) :: q, h => cases h; exact ⟨ho.2, trivial, rfl⟩
 |a k n =>
  have gen : (match nZ ss n with
    |some (q, r) => match uJ k q with
     |some xs => some (xs, r)
     |none => none
    |none => none) = some (x, r) → oks N r ∧ (sP (.a k n) x).ok 0 ∧ vals m ss = (sP (.a k n) x).v m ++ vals m r := by
   intro h
   split at h
   ·next q r' hs =>
    split at h
    ·next xs hi =>
     cases h
     obtain ⟨e, hl⟩ := nQ hs
     subst e
     rw [jB] at ho
     have hv := rQ m hi
     have hlen := cZ m q ho.1
     refine ⟨ho.2, ?_, ?_⟩
     ·have h1 : (vals m q).length = (show List Int from x).length := by rw [hv]; exact List.length_map ..
      show (show List Int from x).length = n
      omega
     ·rw [eF, hv]; rfl
    ·cases h
   ·cases h
  match ss, h with
  |.a k' xs n' :: q, h =>
   obtain ⟨h1, h2⟩ := fI h
   cases h2
   rw [Bool.and_eq_true] at h1
   obtain rfl := of_decide_eq_true h1.1
   obtain rfl := Nat.eq_of_beq_eq_true h1.2
   exact ⟨ho.2, ho.1, rfl⟩
  |[], h => exact gen h
  |.c u :: q, h => exact gen h
theorem yS (m : Nat → Nat) {N : Nat} : ∀ {ls : List Lf} {ss : List S} {x : Tq ls}, oks N ss → vZ ls ss = some x → oks 0 (sH ls x) ∧ vals m ss = vals m (sH ls x) := by
 intro ls
 induction ls with
 |nil =>
  intro ss x _ h
  cases ss with
  |nil => exact ⟨trivial, rfl⟩
  |cons s r => cases h
 |cons l ls ih =>
  intro ss x ho h
  unfold vZ at h
  split at h
  ·next y q hy =>
   split at h
   ·next z hz =>
    cases h
    obtain ⟨o1, o2, e⟩ := takeLf_v m ho hy
    obtain ⟨o3, e2⟩ := ih o1 hz
    exact ⟨⟨o2, o3⟩, by rw [e, e2]; rfl⟩
   ·cases h
  ·cases h
theorem uC (m : Nat → Nat) {N : Nat} {h : Sh} {v : PV} {x : Tq h.lfs} (hp : h.plain = true) (ho : v.ok N) (ht : aBs h v = some x) : (sN h x).ok 0 ∧ v.v m = (sN h x).v m := by
 cases h with
 |one l =>
  cases v with
  |agg ss => cases ht
  |one c =>
   obtain ⟨o1, e⟩ := yS m (ls := [l]) (ss := [.c c]) (N := N) ⟨ho, trivial⟩ ht
   have e : [c.v m] = vals m (sH [l] x) := e
   cases l with
   |a k n => cases hp
   |i k =>
    refine ⟨trivial, ?_⟩
    have : [c.v m] = [Value.int k x.1] := e
    exact (List.cons.inj this).1
   |b =>
    refine ⟨trivial, ?_⟩
    have : [c.v m] = [Value.bool x.1] := e
    exact (List.cons.inj this).1
 |agg ls =>
  cases v with
  |one c => cases ht
  |agg ss =>
   obtain ⟨o1, e⟩ := yS m ho ht
   exact ⟨o1, by show Value.agg _ = Value.agg _; rw [e]⟩
theorem xM {N : Nat} : ∀ {hs : List Sh} {vs : List PV} {x : Ts hs}, hs.all Sh.plain = true → (∀ v ∈ vs, v.ok N) → takes hs vs = some x → (∀ v ∈ gives hs x, v.ok 0) ∧ ∀ m, vs.map (PV.v m) = (gives hs x).map (PV.v m) := by
 intro hs
 induction hs with
 |nil =>
  intro vs x _ _ h
  cases vs with
  |nil => exact ⟨(fun v hv => nomatch hv), fun _ => rfl⟩
  |cons v r => cases h
 |cons h hs ih =>
  intro vs x hp ho ht
  cases vs with
  |nil => cases ht
  |cons v r =>
   rw [List.all_cons, Bool.and_eq_true] at hp
   unfold takes at ht
   split at ht
   ·next y z hy hz =>
    cases ht
    obtain ⟨o2, e2⟩ := ih hp.2 (fun u hu => ho u (List.mem_cons_of_mem _ hu)) hz
    have hv := ho v (List.mem_cons_self ..)
    refine ⟨fun u hu => ?_, fun m => ?_⟩
    ·have hu : u ∈ sN h y :: gives hs z := hu
     rcases List.mem_cons.1 hu with rfl | hu
     ·exact (uC id hp.1 hv hy).1
     ·exact o2 u hu
    ·show v.v m :: r.map (PV.v m) = (sN h y).v m :: (gives hs z).map (PV.v m)
     rw [(uC m hp.1 hv hy).2, e2 m]
   ·cases ht
theorem takeR_v {N : Nat} {hs : List Sh} {v : SV} {x : Ts hs} (hp : hs.all Sh.plain = true) (ho : v.ok N) (h : kT hs v = some x) : (kK hs x).ok 0 ∧ ∀ m m', v.v m' = (kK hs x).v m := by
 have cong : ∀ (vs : List PV), (∀ v ∈ vs, v.ok 0) → ∀ m m' : Nat → Nat, vs.map (PV.v m') = vs.map (PV.v m) := fun vs hv m m' =>
  List.map_congr_left fun u hu => PV.fQ (N := 0) (fun g hg => absurd hg (Nat.not_lt_zero _)) (hv u hu)
 have main : ∀ vs : List PV, (∀ v ∈ vs, v.ok N) → takes hs vs = some x → (∀ v ∈ gives hs x, v.ok 0) ∧ ∀ m m', vs.map (PV.v m') = (gives hs x).map (PV.v m) := fun vs hv ht => by
  obtain ⟨o, e⟩ := xM hp hv ht
  exact ⟨o, fun m m' => (e m').trans (cong _ o m m')⟩
 cases v with
 |und => cases h
 |pv u =>
  obtain ⟨o, e⟩ := main [u] (by intro v hv; rcases List.mem_cons.1 hv with rfl | hv; exact ho; cases hv) h
  unfold kK
  have hl : (gives hs x).length = 1 := by
   have := congrArg List.length (e id id); simpa using this.symm
  match hg : gives hs x, hl with
  |[w], _ =>
   rw [hg] at o e
   refine ⟨o w (List.mem_cons_self ..), fun m m' => ?_⟩
   have := e m m'
   exact (List.cons.inj this).1
 |tup vs =>
  have h0 : (cnd (Nat.beq vs.length 1) (none) <| takes hs vs) = some x := h
  have hne : vs.length ≠ 1 := by
   intro hl
   rw [hl] at h0
   cases h0
  have h' : takes hs vs = some x := by
   rcases pI h0 with ⟨_, h1⟩ | ⟨_, h1⟩
   ·cases h1
   ·exact h1
  obtain ⟨o, e⟩ := main vs ho h'
  have hl : (gives hs x).length ≠ 1 := by
   intro hl
   have := congrArg List.length (e id id)
   simp only [List.length_map] at this
   omega
  have hg : kK hs x = .tup (gives hs x) := by
   unfold kK
   split
   ·next u hu => rw [hu] at hl; exact absurd rfl hl
   ·rfl
  rw [hg]
  exact ⟨o, fun m m' => by show Value.tuple _ = Value.tuple _; rw [e m m']⟩

def Lf.na : Lf → Bool
 |.a _ _ => false
 |_ => true
theorem aAA : ∀ {ls : List Lf} (x : Tq ls), ls.all Lf.na = true → oks 0 (sH ls x) := by
 intro ls
 induction ls with
 |nil => intro x _; trivial
 |cons l ls ih =>
  intro x h
  rw [List.all_cons, Bool.and_eq_true] at h
  refine ⟨?_, ih x.2 h.2⟩
  cases l with
  |a k n => cases h.1
  |i k => trivial
  |b => trivial
theorem yR : ∀ {hs : List Sh} (x : Ts hs), hs.all (fun s => s.lfs.all Lf.na) = true → ∀ v ∈ gives hs x, v.ok 0 := by
 intro hs
 induction hs with
 |nil => intro x _ v hv; cases hv
 |cons h hs ih =>
  intro x hh v hv
  rw [List.all_cons, Bool.and_eq_true] at hh
  rcases List.mem_cons.1 hv with rfl | hv
  ·cases h with
   |agg ls => exact aAA x.1 hh.1
   |one l =>
    cases l with
    |a k n => have := hh.1; cases this
    |i k => trivial
    |b => trivial
  ·exact ih x.2 hh.2 v hv
theorem dJ {hs : List Sh} (h : hs.all (fun s => s.lfs.all Lf.na) = true) (x : Ts hs) : (kK hs x).ok 0 := by
 have k := yR x h
 unfold kK
 split
 ·next v hv => exact k v (by rw [hv]; exact List.mem_cons_self ..)
 ·exact k
def gT (as_ rs : List Sh) {T : Type} (un : T → Ts rs) (g : Nat → Ts as_ → Option T) : Fc := ⟨fun _ n _ vs K => match takes as_ vs with
 |some x => (g n x).bind fun y => K (kK rs (un y))
 |none => none⟩
theorem dG.nil {P : Program} : dG P [] := fun _ _ h => nomatch h
theorem dG.cons {P : Program} {f : FuncId} {c : Fc} {cl : Cls} (h : gI P f c) (k : dG P cl) : dG P ((f, c) :: cl) := fun f' c' hl => by
 rw [eP] at hl
 by_cases e : f = f'
 ·rw [if_pos e] at hl; cases hl; subst e; exact h
 ·rw [if_neg e] at hl; exact k f' c' hl
theorem d9 {P : Program} {f : FuncId} {fn : Func} {as_ rs : List Sh} {T : Type} {un : T → Ts rs} {g : Nat → Ts as_ → Option T} (hf : P.funcs[f]? = some fn) (hb : fn.body.isSome = true) (hn : (fn.name == "runtime.NumGoroutine") = false)
  (hp : (as_.all Sh.plain && rs.all Sh.plain) = true) (h0 : ∀ y, (kK rs (un y)).ok 0) (hc : ∀ n x y, g n x = some y → ∀ (m : Nat → Nat) (w : World), Calls P f ((gives as_ x).map (PV.v m)).toArray w fun e w' => e = .returned ((kK rs (un y)).v m) ∧ Below w.heap.size w w') : gI P f (gT as_ rs un g) := by
 rw [Bool.and_eq_true] at hp
 refine ⟨⟨fn, hf, hb, hn⟩, fun R n N _ vs K r ho h => ?_⟩
 have h : (match takes as_ vs with
  |some x => (g n x).bind fun y => K (kK rs (un y))
  |none => none) = some r := h
 split at h
 ·next x hx =>
  obtain ⟨y, hy, hK⟩ := Option.bind_eq_some_iff.mp h
  obtain ⟨o1, e1⟩ := xM hp.1 ho hx
  exact ⟨_, hK, h0 y, fun m w _ => by rw [e1 m]; exact hc n x y hy m w⟩
 ·cases h
theorem uT {P : Program} {cl : Cls} (hcl : dG P cl) {f : FuncId} {fn : Func} {cuts : List Nat} {as_ rs : List Sh} {T : Type} {cv : Ts rs → T} {un : T → Ts rs} {g : Nat → Ts as_ → Option T} (hf : P.funcs[f]? = some fn) (hb : fn.body.isSome = true) (hn : (fn.name == "runtime.NumGoroutine") = false)
  (hp : (as_.all Sh.plain && rs.all Sh.plain) = true) (hu : ∀ z, un (cv z) = z) (hg : ∀ n x, g n x = evF P cl fn cuts n (gives as_ x) (fun v => (kT rs v).map cv)) : gI P f (gT as_ rs un g) := by
 rw [Bool.and_eq_true] at hp
 refine ⟨⟨fn, hf, hb, hn⟩, fun R n N _ vs K r ho h => ?_⟩
 have h : (match takes as_ vs with
  |some x => (g n x).bind fun y => K (kK rs (un y))
  |none => none) = some r := h
 split at h
 ·next x hx =>
  obtain ⟨y, hy, hK⟩ := Option.bind_eq_some_iff.mp h
  rw [hg] at hy
  obtain ⟨o1, e1⟩ := xM hp.1 ho hx
  refine ⟨_, hK, ?_⟩
  have hc : ∀ m w, Calls P f (vs.map (PV.v m)).toArray w fun e w' => (kK rs (un y)).ok 0 ∧ e = .returned ((kK rs (un y)).v m) ∧ Below w.heap.size w w' := fun m w => by
   rw [e1 m]
   refine (evF_v hcl hf o1 hy m w).mono ?_
   rintro e w' ⟨v, m', h1, rfl, ⟨N, h2⟩, h3⟩
   obtain ⟨z, hz, rfl⟩ := Option.map_eq_some_iff.mp h1
   rw [hu]
   obtain ⟨k1, k2⟩ := takeR_v hp.2 h2 hz
   exact ⟨k1, by rw [k2 m m'], h3⟩
  refine ⟨?_, fun m w _ => (hc m w).mono fun e w' he => he.2⟩
  obtain ⟨e, w', fr, hR, _⟩ := hc id default []
  exact hR.1
 ·cases h
theorem kI {P : Program} {f : FuncId} {as_ rs : List Sh} {T : Type} {un : T → Ts rs} {g : Nat → Ts as_ → Option T} (hok : gI P f (gT as_ rs un g)) (n : Nat) (x : Ts as_) (y : T) (ht : takes as_ (gives as_ x) = some x) (h : g n x = some y) (w : World) (hp : as_.all (fun s => s.lfs.all Lf.na) = true := by decide) :
  Calls P f ((gives as_ x).map (PV.v id)).toArray w fun e w' => e = .returned ((kK rs (un y)).v id) ∧ Below w.heap.size w w' := by
 have hr : (gT as_ rs un g).run SV n [] (gives as_ x) some = some (kK rs (un y)) := by
  show (match takes as_ (gives as_ x) with
   |some x => (g n x).bind fun y => some (kK rs (un y))
   |none => none) = _
  rw [ht]
  show (g n x).bind _ = _
  rw [h]; rfl
 obtain ⟨v, hv, _, hc⟩ := hok.run SV n 0 [] (gives as_ x) some _ (yR x hp) hr
 cases hv
 exact hc id w ⟨0, fun g e ss h => nomatch h⟩
inductive Ar where
 |s (h : Sh)
 |sl (k : IntKind)
def Ta : List Ar → Type
 |[] => Unit
 |.s h :: r => Tq h.lfs × Ta r
 |.sl _ :: r => List Int × Ta r
def wS (h : List (Nat × Nat × List S)) (k : IntKind) : PV → Option (List Int)
 |.one (.sl g o n c) => match look h g with
  |some (_, [.a k' xs q]) => cnd (Nat.beq o 0 && Nat.beq q n && Nat.ble n c && Nat.ble n 1000 && decide (k' = k)) (some xs) <| none
  |_ => none
 |_ => none
def takeA (h : List (Nat × Nat × List S)) : (as_ : List Ar) → List PV → Option (Ta as_)
 |[], [] => some ()
 |[], _ :: _ => none
 |_ :: _, [] => none
 |.s p :: r, v :: q => match aBs p v, takeA h r q with
  |some x, some y => some (x, y)
  |_, _ => none
 |.sl k :: r, v :: q => match wS h k v, takeA h r q with
  |some x, some y => some (x, y)
  |_, _ => none
def Are (w : World) : (as_ : List Ar) → Ta as_ → List Value → Prop
 |[], _, vs => vs = []
 |.s p :: r, x, vs => ∃ q, vs = (sN p x.1).v id :: q ∧ Are w r x.2 q
 |.sl k :: r, x, vs => ∃ A c q, vs = .slice A x.1.length c :: q ∧ Kd.C (Kd.int k) w A x.1.length x.1 ∧ x.1.length ≤ c ∧ Are w r x.2 q
def Ar.plain : Ar → Bool
 |.s h => h.plain
 |_ => true
theorem aAu {h : List (Nat × Nat × List S)} {k : IntKind} {v : PV} {xs : List Int} (e : wS h k v = some xs) {m : Nat → Nat} {w : World} (hw : aBF m h w) : ∃ A c, v.v m = .slice A xs.length c ∧ Kd.C (Kd.int k) w A xs.length xs ∧ xs.length ≤ c := by
 unfold wS at e
 split at e
 ·next g o n c =>
  split at e
  ·next t k' ys q hl =>
   obtain ⟨h1, h2⟩ := fI e
   cases h2
   simp only [Bool.and_eq_true] at h1
   obtain ⟨⟨⟨⟨h1, h2⟩, h3⟩, h4⟩, h5⟩ := h1
   obtain rfl := Nat.eq_of_beq_eq_true h1
   obtain rfl := Nat.eq_of_beq_eq_true h2
   have h3 := Nat.le_of_ble_eq_true h3
   have h4 := Nat.le_of_ble_eq_true h4
   obtain rfl := of_decide_eq_true h5
   obtain ⟨N, hw⟩ := hw
   obtain ⟨o1, o2⟩ := hw g t _ hl
   have ol : xs.length = q := o1.1
   subst ol
   have o3 : vals m [S.a k' xs xs.length] = xs.map (Value.int k') := by show xs.map _ ++ [] = _; rw [List.append_nil]
   rw [o3] at o2
   refine ⟨some ⟨m g, 0, none⟩, c, rfl, ⟨rfl, by omega, fun _ => ⟨_, rfl, fun j p hj => ⟨[.int k' p], rfl, rfl, fun i u hu => ?_⟩⟩⟩, h3⟩
   have hi : i = 0 := by
    cases i with
    |zero => rfl
    |succ i => cases hu
   subst hi
   cases hu
   unfold World.cell? Addr.add
   have hk : (Kd.int k').sz = 1 := rfl
   by_cases j0 : j = 0
   ·subst j0; simp [hk, o2]; simpa using hj
   ·simp [hk, j0, o2]; simpa using hj
  ·cases e
 ·cases e
theorem takeA_v {h : List (Nat × Nat × List S)} {N : Nat} : ∀ {as_ : List Ar} {vs : List PV} {x : Ta as_}, as_.all Ar.plain = true → (∀ v ∈ vs, v.ok N) → takeA h as_ vs = some x → ∀ (m : Nat → Nat) (w : World), aBF m h w → Are w as_ x (vs.map (PV.v m)) := by
 intro as_
 induction as_ with
 |nil =>
  intro vs x _ _ e m w _
  cases vs with
  |nil => rfl
  |cons v r => cases e
 |cons p as_ ih =>
  intro vs x hp ho e m w hw
  rw [List.all_cons, Bool.and_eq_true] at hp
  cases vs with
  |nil => cases p <;> cases e
  |cons v r =>
   cases p with
   |s q =>
    unfold takeA at e
    split at e
    ·next y z hy hz =>
     cases e
     obtain ⟨o1, e1⟩ := uC m hp.1 (ho v (List.mem_cons_self ..)) hy
     refine ⟨r.map (PV.v m), ?_, ih hp.2 (fun u hu => ho u (List.mem_cons_of_mem _ hu)) hz m w hw⟩
     show v.v m :: _ = _
     rw [e1, PV.fQ (N := 0) (m := m) (m' := id) (fun g hg => absurd hg (Nat.not_lt_zero _)) o1]
    ·cases e
   |sl k =>
    unfold takeA at e
    split at e
    ·next y z hy hz =>
     cases e
     obtain ⟨A, c, e1, e2, e3⟩ := aAu hy hw
     refine ⟨A, c, r.map (PV.v m), ?_, e2, e3, ih hp.2 (fun u hu => ho u (List.mem_cons_of_mem _ hu)) hz m w hw⟩
     show v.v m :: _ = _
     rw [e1]
    ·cases e
def mkFcA (as_ : List Ar) (rs : List Sh) {T : Type} (un : T → Ts rs) (g : Nat → Ta as_ → Option T) : Fc := ⟨fun _ n h vs K => match takeA h as_ vs with
 |some x => (g n x).bind fun y => K (kK rs (un y))
 |none => none⟩
theorem xU {P : Program} {f : FuncId} {fn : Func} {as_ : List Ar} {rs : List Sh} {T : Type} {un : T → Ts rs} {g : Nat → Ta as_ → Option T} (hf : P.funcs[f]? = some fn) (hb : fn.body.isSome = true) (hn : (fn.name == "runtime.NumGoroutine") = false)
  (hp : (as_.all Ar.plain && rs.all Sh.plain) = true) (h0 : ∀ y, (kK rs (un y)).ok 0) (hc : ∀ n x y, g n x = some y → ∀ (m : Nat → Nat) (w : World) (vs : List Value), Are w as_ x vs → Calls P f vs.toArray w fun e w' => e = .returned ((kK rs (un y)).v m) ∧ Below w.heap.size w w') : gI P f (mkFcA as_ rs un g) := by
 rw [Bool.and_eq_true] at hp
 refine ⟨⟨fn, hf, hb, hn⟩, fun R n N hh vs K r ho h => ?_⟩
 have h : (match takeA hh as_ vs with
  |some x => (g n x).bind fun y => K (kK rs (un y))
  |none => none) = some r := h
 split at h
 ·next x hx =>
  obtain ⟨y, hy, hK⟩ := Option.bind_eq_some_iff.mp h
  exact ⟨_, hK, h0 y, fun m w hw => hc n x y hy m w _ (takeA_v hp.1 ho hx m w hw)⟩
 ·cases h
abbrev hI (k : IntKind) : Sh := .one (.i k)
abbrev hB : Sh := .one .b
abbrev vb (b : Bool) : SV := .pv (.one (.b (.q b)))
abbrev ci (k : IntKind) (x : Int) : S := .c (.i k (.x x))
abbrev cb (b : Bool) : S := .c (.b (.q b))
end Go.Proofs.YtolpdiifmacdbaaGreat.Ek

/- What one side answers the other answers. -/
namespace Go.Proofs.YtolpdiifmacdbaaGreat.P
open Go.RowKit Go.Proofs.YtolpdiifmacdbaaGreatW.PrintWords Go.Proofs.YtolpdiifmacdbaaGreatW.PrintLast Go.Proofs.YtolpdiifmacdbaaGreatW.PrintMore
theorem LeO.iI {α : Type} {c d : Prop} [Decidable c] [Decidable d] (e : c ↔ d) {a a' b b' : Option α} (h : c → LeO a a') (k : ¬ c → LeO b b') : LeO (if c then a else b) (if d then a' else b') := by
 by_cases x : c
 ·rw [if_pos x, if_pos (e.mp x)]; exact h x
 ·rw [if_neg x, if_neg (fun y => x (e.mpr y))]; exact k x
theorem LeO.pos {α : Type} {c : Prop} [Decidable c] (x : c) {a b b' : Option α} (h : LeO a b) : LeO a (if c then b else b') := by rw [if_pos x]; exact h
theorem LeO.neg {α : Type} {c : Prop} [Decidable c] (x : ¬ c) {a b b' : Option α} (h : LeO a b') : LeO a (if c then b else b') := by rw [if_neg x]; exact h
theorem LeO.mY {α : Type} {c : Prop} [Decidable c] (x : c) {a b b' : Option α} (h : LeO b a) : LeO (if c then b else b') a := by rw [if_pos x]; exact h
theorem LeO.mZ {α : Type} {c : Prop} [Decidable c] (x : ¬ c) {a b b' : Option α} (h : LeO b' a) : LeO (if c then b else b') a := by rw [if_neg x]; exact h
end Go.Proofs.YtolpdiifmacdbaaGreat.P
