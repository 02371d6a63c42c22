import Derived.Test.YtjlgmfgjleajfaaQsfM2
import Derived.Test.YtjlgmfgjleajfaaQsfZ
import Derived.Test.YtjlgmfgjleajfaaQsfM1
import Derived.Test.YtjlgmfgjleajfaaProg
/- Code, and functions: what the reckoner answers, the machine answers. -/
set_option linter.unusedVariables false
set_option linter.unusedSimpArgs false
namespace Go.Proofs.Ytjlgmfgjleajfaa.Ek
open Go.RowKit Go.Proofs.YtjlgmfgjleajfaaW.PrintWords Go.Proofs.YtjlgmfgjleajfaaW.PrintLast Go.Proofs.YtjlgmfgjleajfaaW.PrintMore

section
variable (m : Nat → Nat)
theorem C.gen_v (c : C) : c.gen.v m = c.v m := by cases c <;> rfl
theorem S.gen_v (s : S) : s.gen.v m = s.v m := by
 cases s with
 |c u => show [u.gen.v m] = [u.v m]; rw [C.gen_v]
 |a => rfl
theorem vals_gen (ss : List S) : vals m (ss.map S.gen) = vals m ss := by
 induction ss with
 |nil => rfl
 |cons s r ih => show s.gen.v m ++ vals m (r.map S.gen) = _; rw [S.gen_v, ih]; rfl
theorem PV.gen_v (v : PV) : v.gen.v m = v.v m := by
 cases v with
 |one c => exact C.gen_v m c
 |agg ss => show Value.agg _ = Value.agg _; rw [vals_gen]
theorem SV.gen_v (v : SV) : v.gen.v m = v.v m := by
 cases v with
 |pv u => exact PV.gen_v m u
 |tup vs =>
  show Value.tuple _ = Value.tuple _
  rw [List.map_map]
  congr 2
  exact List.map_congr_left fun u _ => PV.gen_v m u
 |und => rfl
end
section
variable {N : Nat}
theorem C.gen_ok {c : C} (h : c.ok N) : c.gen.ok N := by cases c <;> exact h
theorem S.gen_ok {s : S} (h : s.ok N) : s.gen.ok N := by
 cases s with
 |c u => exact C.gen_ok h
 |a => exact h
theorem oks_gen {ss : List S} (h : oks N ss) : oks N (ss.map S.gen) := by
 induction ss with
 |nil => trivial
 |cons s r ih => exact ⟨S.gen_ok h.1, ih h.2⟩
theorem PV.gen_ok {v : PV} (h : v.ok N) : v.gen.ok N := by
 cases v with
 |one c => exact C.gen_ok h
 |agg ss => exact oks_gen h
theorem SV.gen_ok {v : SV} (h : v.ok N) : v.gen.ok N := by
 cases v with
 |pv u => exact PV.gen_ok h
 |tup vs =>
  intro u hu
  obtain ⟨x, hx, rfl⟩ := List.mem_map.1 hu
  exact PV.gen_ok (h x hx)
 |und => trivial
end
theorem cleanE_look {env : List (Nat × SV)} {mk : Nat} : ∀ {n t : Nat} {v : SV}, look (cleanE env mk n) t = some v → ∃ u, look env t = some u ∧ v = u.gen := by
 intro n
 induction n with
 |zero => intro t v h; cases h
 |succ n ih =>
  intro t v h
  unfold cleanE at h
  cases hb : Nat.beq (Nat.land (Nat.shiftRight mk n) 1) 1
  ·rw [hb] at h; exact ih h
  ·rw [hb] at h
   simp only [cnd] at h
   split at h
   ·next u hu =>
    rw [look_cons] at h
    by_cases c : n = t
    ·rw [if_pos c] at h; cases h; subst c; exact ⟨u, hu, rfl⟩
    ·rw [if_neg c] at h; exact ih h
   ·exact ih h
theorem cleanH_look {mk : Nat} {heap : List (Nat × Nat × List S)} : ∀ {g e : Nat} {ss : List S}, look (cleanH mk heap) g = some (e, ss) → ∃ q, look heap g = some (e, q) ∧ ss = q.map S.gen := by
 induction heap with
 |nil => intro g e ss h; cases h
 |cons p r ih =>
  obtain ⟨k, t, q⟩ := p
  intro g e ss h
  have keep : ∀ {g e ss}, k ≠ g → look (cleanH mk r) g = some (e, ss) → ∃ q', look ((k, t, q) :: r) g = some (e, q') ∧ ss = q'.map S.gen := by
   intro g e ss hk h
   obtain ⟨q', h1, h2⟩ := ih h
   exact ⟨q', by rw [look_cons, if_neg hk]; exact h1, h2⟩
  unfold cleanH at h
  cases hb : Nat.beq (Nat.land (Nat.shiftRight mk k) 1) 1
  ·rw [hb] at h
   simp only [cnd] at h
   by_cases c : k = g
   ·exfalso
    subst c
    -- a block whose bit isn't set isn't kept
    have : ∀ (l : List (Nat × Nat × List S)), look (cleanH mk l) k = none := by
     intro l
     induction l with
     |nil => rfl
     |cons p l ihl =>
      obtain ⟨k', t', q'⟩ := p
      unfold cleanH
      cases hb' : Nat.beq (Nat.land (Nat.shiftRight mk k') 1) 1
      ·exact ihl
      ·simp only [cnd]
       rw [look_cons, if_neg (fun hh => by rw [hh, hb] at hb'; cases hb')]
       exact ihl
    rw [this] at h; cases h
   ·exact keep c h
  ·rw [hb] at h
   simp only [cnd] at h
   rw [look_cons] at h
   by_cases c : k = g
   ·rw [if_pos c] at h
    cases h
    exact ⟨q, by rw [look_cons, if_pos c], rfl⟩
   ·rw [if_neg c] at h; exact keep c h
theorem nmax_l (a b : Nat) : a ≤ nmax a b := by
 unfold nmax
 cases h : Nat.ble a b
 ·exact Nat.le_refl _
 ·exact Nat.le_of_ble_eq_true h
theorem nmax_r (a b : Nat) : b ≤ nmax a b := by
 unfold nmax
 cases h : Nat.ble a b
 ·have : ¬ a ≤ b := fun hh => by rw [Nat.ble_eq_true_of_le hh] at h; cases h
  show b ≤ a; omega
 ·exact Nat.le_refl _
section
variable {N : Nat}
theorem C.ok_top {c : C} (h : c.ok N) : c.ok c.top := by
 cases c with
 |pd g o j n => exact ⟨Nat.lt_succ_self _, h.2⟩
 |p g o => exact Nat.lt_succ_self _
 |sl g o n c => exact Nat.lt_succ_self _
 |_ => trivial
theorem oks_top {ss : List S} (h : oks N ss) : oks (tops ss) ss := by
 induction ss with
 |nil => trivial
 |cons s r ih =>
  cases s with
  |c u => exact ⟨C.ok_mono (nmax_l _ _) (C.ok_top h.1), oks_mono (nmax_r _ _) (ih h.2)⟩
  |a k xs n => exact ⟨h.1, ih h.2⟩
theorem PV.ok_top {v : PV} (h : v.ok N) : v.ok (tops v.segs) := by
 cases v with
 |one c => exact C.ok_mono (nmax_l _ _) (C.ok_top h)
 |agg ss => exact oks_top h
theorem SV.ok_top {v : SV} (h : v.ok N) : v.ok v.top := by
 cases v with
 |pv u => exact PV.ok_top h
 |tup vs =>
  show ∀ v ∈ vs, v.ok (topsV vs)
  have h' : ∀ v ∈ vs, v.ok N := h
  clear h
  induction vs with
  |nil => intro v hv; cases hv
  |cons u r ih =>
   intro v hv
   rcases List.mem_cons.1 hv with rfl | hv
   ·exact PV.ok_mono (nmax_l _ _) (PV.ok_top (h' v (List.mem_cons_self ..)))
   ·exact PV.ok_mono (nmax_r _ _) (ih (fun w hw => h' w (List.mem_cons_of_mem _ hw)) v hv)
 |und => trivial
end
theorem topE_le {env : List (Nat × SV)} {t : Nat} {v : SV} (h : look env t = some v) : v.top ≤ topE env := by
 induction env with
 |nil => cases h
 |cons p r ih =>
  obtain ⟨k, u⟩ := p
  rw [look_cons] at h
  by_cases c : k = t
  ·rw [if_pos c] at h; cases h; exact nmax_l _ _
  ·rw [if_neg c] at h; exact Nat.le_trans (ih h) (nmax_r _ _)
theorem topH_le {heap : List (Nat × Nat × List S)} {g e : Nat} {ss : List S} (h : look heap g = some (e, ss)) : g < topH heap ∧ tops ss ≤ topH heap := by
 induction heap with
 |nil => cases h
 |cons p r ih =>
  obtain ⟨k, t, q⟩ := p
  rw [look_cons] at h
  by_cases c : k = g
  ·rw [if_pos c] at h
   cases h
   subst c
   exact ⟨nmax_l _ _, Nat.le_trans (nmax_l _ _) (nmax_r _ _)⟩
  ·rw [if_neg c] at h
   obtain ⟨h1, h2⟩ := ih h
   have := Nat.le_trans (nmax_r (tops q) (topH r)) (nmax_r (k + 1) (nmax (tops q) (topH r)))
   exact ⟨Nat.lt_of_lt_of_le h1 this, Nat.le_trans h2 this⟩
theorem clean_v {w0 : World} {nt mk : Nat} {m : Nat → Nat} {s : St} {a : Act} {w : World} (h : Rel w0 nt m s a w) : Rel w0 nt m (clean nt mk s) a w := by
 have k : ∀ {g e ss}, look (clean nt mk s).heap g = some (e, ss) → ∃ q, look s.heap g = some (e, q) ∧ ss = q.map S.gen := fun h => cleanH_look h
 refine ⟨h.size, h.dfr, ?_, ?_, ?_, h.bel⟩
 ·intro t v hv
  obtain ⟨u, hu, rfl⟩ := cleanE_look hv
  obtain ⟨o, e⟩ := h.env t u hu
  refine ⟨SV.ok_mono (Nat.le_trans (topE_le hv) (nmax_l _ _)) (SV.ok_top (SV.gen_ok o)), by rw [SV.gen_v]; exact e⟩
 ·intro g e ss hg
  obtain ⟨q, h1, rfl⟩ := k hg
  obtain ⟨a1, a2, a3, a4⟩ := h.heap g e q h1
  obtain ⟨c1, c2⟩ := topH_le hg
  exact ⟨Nat.lt_of_lt_of_le c1 (nmax_r _ _), oks_mono (Nat.le_trans c2 (nmax_r _ _)) (oks_top (oks_gen a2)), by rw [vals_gen]; exact a3, a4⟩
 ·intro g g' h1 h2 h3
  have k' : ∀ g, (look (clean nt mk s).heap g).isSome = true → (look s.heap g).isSome = true := fun g hg => by
   obtain ⟨⟨e, ss⟩, he⟩ := Option.isSome_iff_exists.mp hg
   obtain ⟨q, h1, _⟩ := k he
   rw [h1]; rfl
  exact h.inj g g' (k' g h1) (k' g' h2) h3

def Out.exit : Out → Exit
 |.nor => .normal
 |.ret => .ret
 |.ex id => .exit id
section
variable {P : Program} {cl : Cls} (hcl : ClsOk P cl) {R : Type} {w0 : World} {nt rm : Nat} {cuts : List Nat} {r : R}
def Does (P : Program) (w0 : World) (nt : Nat) (r : R) (c : Code) (f : St → (Out → St → Option R) → Option R) : Prop :=
 ∀ (s : St) (K : Out → St → Option R) (m : Nat → Nat) (a : Act) (w : World) (Q : Exit → Act → World → Prop), Rel w0 nt m s a w → (∀ c a w, ¬ Q (.panic c) a w) → f s K = some r →
  (∀ o s' m' a' w', K o s' = some r → Rel w0 nt m' s' a' w' → Q o.exit a' w') → c.wp P Q a w
theorem loop_v {c : Code} {f : Nat → St → (Out → St → Option R) → Option R} {mk : Nat} (hf : ∀ n, Does P w0 nt r c (f n)) : ∀ (n : Nat) (s : St) (K : Out → St → Option R) (m : Nat → Nat) (a : Act) (w : World) (Q : Exit → Act → World → Prop), Rel w0 nt m s a w →
  (∀ c a w, ¬ Q (.panic c) a w) → loopN nt f mk n s K = some r → (∀ o s' m' a' w', K o s' = some r → Rel w0 nt m' s' a' w' → Q o.exit a' w') → Code.rounds P c Q n a w := by
 intro n
 induction n with
 |zero => intro s K m a w Q _ _ h _; cases h
 |succ n ih =>
  intro s K m a w Q hr hQ h hK
  unfold loopN at h
  refine hf n s _ m a w _ hr (fun c a w => hQ c a w) h fun o s' m' a' w' ho hr' => ?_
  cases o with
  |nor => exact ih _ _ m' a' w' Q (clean_v hr') hQ ho hK
  |ret => exact hK .ret _ _ _ _ ho hr'
  |ex id => exact hK (.ex id) _ _ _ _ ho hr'
include hcl in
theorem evC_v : ∀ (c : Code) (lv : Nat) (ex : List (Nat × Nat)) (n : Nat), Does P w0 nt r c (evC P nt cl rm cuts c lv ex n) := by
 intro c
 induction c with
 |skip => intro lv ex n s K m a w Q hr _ h hK; exact wp_skip (hK .nor _ _ _ _ h hr)
 |region id ops draw => intro lv ex n s K m a w Q hr hQ h hK; exact evReg_v hcl hr hQ h (fun s' m' a' w' h' hr' => hK .nor _ _ _ _ h' hr')
 |seq x y ihx ihy =>
  intro lv ex n s K m a w Q hr hQ h hK
  refine wp_seq (ihx _ _ _ s _ m a w _ hr (fun c a w => hQ c a w) h fun o s' m' a' w' ho hr' => ?_)
  cases o with
  |nor =>
   have ho : (cnd (cutAt cuts y) (evJ (fun s => evC P nt cl rm cuts y lv ex n s K) (clean nt (lvC rm y lv ex) s')) <| evC P nt cl rm cuts y lv ex n s' K) = some r := ho
   show y.wp P Q a' w'
   rcases bcond ho with ⟨_, h1⟩ | ⟨_, h1⟩
   ·exact ihy _ _ _ _ K m' a' w' Q (clean_v hr') hQ h1 hK
   ·exact ihy _ _ _ _ K m' a' w' Q hr' hQ h1 hK
  |ret => exact hK .ret _ _ _ _ ho hr'
  |ex id => exact hK (.ex id) _ _ _ _ ho hr'
 |cond x y z ihy ihz =>
  intro lv ex n s K m a w Q hr hQ h hK
  unfold evC at h
  split at h
  ·next e he =>
   obtain ⟨_, eb⟩ := ev_v hr.env he
   have eb' : a.eval x = .bool e.d := eb
   rw [BE.ite_d] at h
   refine wp_cond_split eb' (fun hd => ?_) (fun hd => ?_)
   ·rw [if_pos hd] at h; exact ihy _ _ _ _ K m a w Q hr hQ h hK
   ·rw [if_neg (by rw [hd]; decide)] at h; exact ihz _ _ _ _ K m a w Q hr hQ h hK
  ·cases h
 |block id x ih =>
  intro lv ex n s K m a w Q hr hQ h hK
  refine wp_block (ih _ _ _ s _ m a w _ hr (fun c a w => hQ c a w) h fun o s' m' a' w' ho hr' => ?_)
  cases o with
  |nor => exact hK .nor _ _ _ _ ho hr'
  |ret => exact hK .ret _ _ _ _ ho hr'
  |ex j =>
   show if j = id then Q .normal a' w' else Q (.exit j) a' w'
   have ho : (cnd (Nat.beq j id) (K .nor s') <| K (.ex j) s') = some r := ho
   rcases bcond ho with ⟨h0, h1⟩ | ⟨h0, h1⟩
   ·rw [if_pos (Nat.eq_of_beq_eq_true h0)]; exact hK .nor _ _ _ _ h1 hr'
   ·rw [if_neg (Nat.ne_of_beq_eq_false h0)]; exact hK (.ex j) _ _ _ _ h1 hr'
 |loop x ih =>
  intro lv ex n s K m a w Q hr hQ h hK
  exact wp_loop_rounds n (loop_v (fun n => ih _ _ n) n _ K m a w Q (clean_v hr) hQ h hK)
 |exit id => intro lv ex n s K m a w Q hr _ h hK; exact wp_exit (hK (.ex id) _ _ _ _ h hr)
 |ret => intro lv ex n s K m a w Q hr _ h hK; exact wp_ret (hK .ret _ _ _ _ h hr)
 |_ => intro lv ex n s K m a w Q hr _ h hK; cases h

def resSem (tmps : Array Value) : ResultVar → Sem Value
 |.tmp t => pure (tmps.getD t undef)
 |.cell b t => do loadVar t (← asAddr (tmps.getD b undef))
theorem results_eq (fn : Func) (tmps : Array Value) : results fn tmps = (do
  let vs ← fn.results.mapM (resSem tmps)
  pure (if h : vs.size = 1 then vs[0] else .tuple vs)) := by
 unfold results
 have : (fun x => match x with
   |ResultVar.tmp t => pure (tmps.getD t undef)
   |ResultVar.cell a t => do loadVar t (← asAddr (tmps.getD a undef))) = resSem tmps := by funext x; cases x <;> rfl
 exact congrArg (fun f => (do
  let vs ← fn.results.mapM f
  pure (if h : vs.size = 1 then vs[0] else .tuple vs) : Sem Value)) this
theorem resPV_v {m : Nat → Nat} {s : St} {a : Act} {w : World} (hr : Rel w0 nt m s a w) {x : ResultVar} {v : PV} (h : resPV P s x = some v) :
  v.ok s.next ∧ (resSem a.tmps x).run P w = .ok (v.v m) w := by
 cases x with
 |tmp t =>
  have h : (match look s.env t with
   |some (.pv v) => some v
   |_ => none) = some v := h
  split at h
  ·next u hu =>
   cases h
   obtain ⟨o, e⟩ := hr.env t _ hu
   exact ⟨o, by show (pure (a.tmps.getD t undef) : Sem Value).run P w = _; rw [Sem.run_pure, e]; rfl⟩
  ·cases h
 |cell b t =>
  have h : (match look s.env b with
   |some (.pv (.one c)) => loadS P t s.heap c
   |_ => none) = some v := h
  split at h
  ·next c hc =>
   obtain ⟨o, e⟩ := hr.env b _ hc
   obtain ⟨o1, e1⟩ := loadS_v (w := w) o (fun g e ss hg => ⟨(hr.heap g e ss hg).2.1, (hr.heap g e ss hg).2.2.1⟩) h
   refine ⟨o1, ?_⟩
   have e' : a.tmps.getD b undef = c.v m := e
   have hp : ∃ ad, c.v m = .pointer (some ad) := by
    cases c with
    |p g o => exact ⟨_, rfl⟩
    |pd g o j n => exact ⟨_, rfl⟩
    |_ => cases h
   obtain ⟨ad, had⟩ := hp
   rw [had] at e1 e'
   have e1 : (loadVar t ad).run P w = .ok (v.v m) w := e1
   show (do loadVar t (← asAddr (a.tmps.getD b undef)) : Sem Value).run P w = _
   rw [e']
   exact e1
  ·cases h
theorem resPVs_v {m : Nat → Nat} {s : St} {a : Act} {w : World} (hr : Rel w0 nt m s a w) {xs : List ResultVar} : ∀ {vs : List PV}, resPVs P s xs = some vs → (∀ v ∈ vs, v.ok s.next) ∧ (xs.mapM (resSem a.tmps)).run P w = .ok (vs.map (PV.v m)) w := by
 induction xs with
 |nil => intro vs h; cases h; exact ⟨by simp, by simp⟩
 |cons x r ih =>
  intro vs h
  unfold resPVs at h
  split at h
  ·next v ws h1 h2 =>
   cases h
   obtain ⟨o, e⟩ := resPV_v hr h1
   obtain ⟨o', e'⟩ := ih h2
   refine ⟨fun u hu => ?_, ?_⟩
   ·rcases List.mem_cons.1 hu with rfl | hu
    ·exact o
    ·exact o' u hu
   ·rw [List.mapM_cons, Sem.run_bind, e]
    simp only [Result.andThen_ok, Sem.run_bind, e', Sem.run_pure, List.map_cons]
  ·cases h
theorem resSV_v {m : Nat → Nat} {s : St} {a : Act} {w : World} (hr : Rel w0 nt m s a w) {fn : Func} {v : SV} (h : resSV P fn s = some v) : v.ok s.next ∧ (results fn a.tmps).run P w = .ok (v.v m) w := by
 unfold resSV at h
 have hrun : ∀ vs, resPVs P s fn.results.toList = some vs → (∀ v ∈ vs, v.ok s.next) ∧ (results fn a.tmps).run P w = .ok (if h : (vs.map (PV.v m)).toArray.size = 1 then (vs.map (PV.v m)).toArray[0] else .tuple (vs.map (PV.v m)).toArray) w := by
  intro vs hvs
  obtain ⟨o, e⟩ := resPVs_v hr hvs
  refine ⟨o, ?_⟩
  have e2 : (fn.results.mapM (resSem a.tmps)).run P w = .ok (vs.map (PV.v m)).toArray w := by
   rw [Array.mapM_eq_mapM_toList]
   simp [e]
  rw [results_eq, Sem.run_bind, e2]
  rfl
 split at h
 ·next u hu =>
  cases h
  obtain ⟨o, e⟩ := hrun _ hu
  exact ⟨o u (List.mem_cons_self ..), by rw [e]; rfl⟩
 ·next vs hne hu =>
  cases h
  obtain ⟨o, e⟩ := hrun _ hu
  refine ⟨o, ?_⟩
  rw [e, dif_neg]
  ·rfl
  ·intro hl
   match vs, hl, hne with
   |[u], _, hne => exact hne u rfl
 ·cases h
theorem argE_look {vs : List PV} : ∀ {i t : Nat} {v : SV}, look (argE vs i) t = some v → ∃ u, i ≤ t ∧ vs[t - i]? = some u ∧ v = .pv u := by
 induction vs with
 |nil => intro i t v h; cases h
 |cons u r ih =>
  intro i t v h
  unfold argE at h
  rw [look_cons] at h
  by_cases c : i = t
  ·rw [if_pos c] at h; cases h; subst c; exact ⟨u, Nat.le_refl _, by simp, rfl⟩
  ·rw [if_neg c] at h
   obtain ⟨x, h1, h2, h3⟩ := ih h
   refine ⟨x, by omega, ?_, h3⟩
   rw [show t - i = (t - (i + 1)) + 1 by omega, List.getElem?_cons_succ]; exact h2
include hcl in
theorem evF_v {f n : Nat} {fn : Func} {vs : List PV} {K : SV → Option R} (hf : P.funcs[f]? = some fn) (ho : ∀ v ∈ vs, v.ok 0) (h : evF P cl fn cuts n vs K = some r) :
  ∀ (m : Nat → Nat) (w : World), Calls P f (vs.map (PV.v m)).toArray w fun e w' => ∃ v m', K v = some r ∧ e = .returned (v.v m') ∧ (∃ N, v.ok N) ∧ Below w.heap.size w w' := by
 intro m w
 unfold evF at h
 split at h
 ·next c hb =>
  obtain ⟨h0, h1⟩ := bsome h
  rw [Bool.and_eq_true] at h0
  have h2 := Nat.eq_of_beq_eq_true h0.1
  have h3 := Nat.le_of_ble_eq_true h0.2
  have hrel : Rel w fn.ntmps m ⟨argE vs 0, [], 0⟩ { tmps := (vs.map (PV.v m)).toArray ++ Array.replicate (fn.ntmps - (vs.map (PV.v m)).toArray.size) undef, defers := [] } w := by
   refine ⟨by simp; omega, rfl, ?_, (fun g e ss hg => nomatch hg), (fun g g' hg => nomatch hg), Below.refl _ _⟩
   intro t v hv
   obtain ⟨u, _, hu, rfl⟩ := argE_look hv
   rw [Nat.sub_zero] at hu
   refine ⟨ho u (List.mem_of_getElem? hu), ?_⟩
   have hlt : t < vs.length := (List.getElem?_eq_some_iff.1 hu).1
   rw [Array.getD_eq_getD_getElem?, Array.getElem?_append_left (by simpa using hlt)]
   simp [hu]
   rfl
  refine calls_of_wp hf hb ?_
  refine wp_mono (Q := fun e a' w' => (∃ v m', K v = some r ∧ (∃ N, v.ok N) ∧ a'.defers = [] ∧ (results fn a'.tmps).run P w' = .ok (v.v m') w' ∧ Below w.heap.size w w') ∧ (e = .normal ∨ e = .ret)) (evC_v hcl c _ _ n _ _ m _ w _ hrel ?_ h1 ?_) ?_
  ·rintro c a w ⟨_, h | h⟩ <;> cases h
  ·intro o s' m' a' w' hk hr'
   have fin : (match resSV P fn s' with
     |some v => K v
     |none => none) = some r → ∃ v m', K v = some r ∧ (∃ N, v.ok N) ∧ a'.defers = [] ∧ (results fn a'.tmps).run P w' = .ok (v.v m') w' ∧ Below w.heap.size w w' := by
    intro hk
    split at hk
    ·next v hv =>
     obtain ⟨o1, e1⟩ := resSV_v hr' hv
     exact ⟨v, m', hk, ⟨_, o1⟩, hr'.dfr, e1, hr'.bel⟩
    ·cases hk
   cases o with
   |nor => exact ⟨fin hk, .inl rfl⟩
   |ret => exact ⟨fin hk, .inr rfl⟩
   |ex id => cases hk
  ·rintro e a' w' ⟨⟨v, m', g1, g2, g3, g4, g5⟩, he⟩
   rcases he with rfl | rfl
   ·exact ⟨g3, _, g4, v, m', g1, rfl, g2, g5⟩
   ·exact ⟨g3, _, g4, v, m', g1, rfl, g2, g5⟩
 ·cases h
end
/- Functions of numbers, truth values, structs and arrays of these: what they are given and answer, as plain values. -/

inductive Lf where
 |i (k : IntKind)
 |b
 |a (k : IntKind) (n : Nat)
def Lf.T : Lf → Type
 |.i _ => Int
 |.b => Bool
 |.a _ _ => List Int
def Tq : List Lf → Type
 |[] => Unit
 |l :: r => l.T × Tq r
def giveLf : (l : Lf) → l.T → S
 |.i k, x => .c (.i k (.x x))
 |.b, x => .c (.b (.q x))
 |.a k n, xs => .a k xs n
def giveLs : (ls : List Lf) → Tq ls → List S
 |[], _ => []
 |l :: r, x => giveLf l x.1 :: giveLs r x.2
def takeLf : (l : Lf) → List S → Option (l.T × List S)
 |.i k, .c (.i k' x) :: r => cnd (decide (k' = k)) (some (x.d, r)) <| none
 |.b, .c (.b x) :: r => some (x.d, r)
 |.a k n, .a k' xs n' :: r => cnd (decide (k' = k) && Nat.beq n' n) (some (xs, r)) <| none
 |.a k n, ss => match splitS ss n with
  |some (q, r) => match intsS k q with
   |some xs => some (xs, r)
   |none => none
  |none => none
 |_, _ => none
def takeLs : (ls : List Lf) → List S → Option (Tq ls)
 |[], [] => some ()
 |[], _ :: _ => none
 |l :: r, ss => match takeLf l ss with
  |some (x, q) => match takeLs r q with
   |some y => some (x, y)
   |none => none
  |none => none
inductive Sh where
 |one (l : Lf)
 |agg (ls : List Lf)
def Sh.lfs : Sh → List Lf
 |.one l => [l]
 |.agg ls => ls
def takeSh (h : Sh) (v : PV) : Option (Tq h.lfs) := match h, v with
 |.one l, .one c => takeLs [l] [.c c]
 |.agg ls, .agg ss => takeLs ls ss
 |_, _ => none
def giveSh : (h : Sh) → Tq h.lfs → PV
 |.one l, x => match giveLf l x.1 with
  |.c c => .one c
  |s => .agg [s]
 |.agg ls, x => .agg (giveLs ls x)
def Ts : List Sh → Type
 |[] => Unit
 |h :: r => Tq h.lfs × Ts r
def takes : (hs : List Sh) → List PV → Option (Ts hs)
 |[], [] => some ()
 |[], _ :: _ => none
 |_ :: _, [] => none
 |h :: r, v :: q => match takeSh h v, takes r q with
  |some x, some y => some (x, y)
  |_, _ => none
def gives : (hs : List Sh) → Ts hs → List PV
 |[], _ => []
 |h :: r, x => giveSh h x.1 :: gives r x.2
def Sh.plain : Sh → Bool
 |.one (.a _ _) => false
 |_ => true
def takeR (hs : List Sh) : SV → Option (Ts hs)
 |.pv v => takes hs [v]
 |.tup vs => cnd (Nat.beq vs.length 1) (none) <| takes hs vs
 |.und => none
def giveR (hs : List Sh) (x : Ts hs) : SV := match gives hs x with
 |[v] => .pv v
 |vs => .tup vs

theorem takeLf_v (m : Nat → Nat) {N : Nat} {l : Lf} {ss r : List S} {x : l.T} (ho : oks N ss) (h : takeLf l ss = some (x, r)) : oks N r ∧ (giveLf l x).ok 0 ∧ vals m ss = (giveLf l x).v m ++ vals m r := by
 cases l with
 |i k =>
  match ss, h with
  |.c (.i k' y) :: q, h =>
   obtain ⟨h1, h2⟩ := bsome h
   cases h2
   obtain rfl := of_decide_eq_true h1
   exact ⟨ho.2, trivial, rfl⟩
 |b =>
  match ss, h with
  |.c (.b y) :: q, h => cases h; exact ⟨ho.2, trivial, rfl⟩
 |a k n =>
  have gen : (match splitS ss n with
    |some (q, r) => match intsS k q with
     |some xs => some (xs, r)
     |none => none
    |none => none) = some (x, r) → oks N r ∧ (giveLf (.a k n) x).ok 0 ∧ vals m ss = (giveLf (.a k n) x).v m ++ vals m r := by
   intro h
   split at h
   ·next q r' hs =>
    split at h
    ·next xs hi =>
     cases h
     obtain ⟨e, hl⟩ := splitS_v hs
     subst e
     rw [oks_append] at ho
     have hv := intsS_v m hi
     have hlen := vals_length m q ho.1
     refine ⟨ho.2, ?_, ?_⟩
     ·have h1 : (vals m q).length = (show List Int from x).length := by rw [hv]; exact List.length_map ..
      show (show List Int from x).length = n
      omega
     ·rw [vals_append, hv]; rfl
    ·cases h
   ·cases h
  match ss, h with
  |.a k' xs n' :: q, h =>
   obtain ⟨h1, h2⟩ := bsome h
   cases h2
   rw [Bool.and_eq_true] at h1
   obtain rfl := of_decide_eq_true h1.1
   obtain rfl := Nat.eq_of_beq_eq_true h1.2
   exact ⟨ho.2, ho.1, rfl⟩
  |[], h => exact gen h
  |.c u :: q, h => exact gen h
theorem takeLs_v (m : Nat → Nat) {N : Nat} : ∀ {ls : List Lf} {ss : List S} {x : Tq ls}, oks N ss → takeLs ls ss = some x → oks 0 (giveLs ls x) ∧ vals m ss = vals m (giveLs ls x) := by
 intro ls
 induction ls with
 |nil =>
  intro ss x _ h
  cases ss with
  |nil => exact ⟨trivial, rfl⟩
  |cons s r => cases h
 |cons l ls ih =>
  intro ss x ho h
  unfold takeLs at h
  split at h
  ·next y q hy =>
   split at h
   ·next z hz =>
    cases h
    obtain ⟨o1, o2, e⟩ := takeLf_v m ho hy
    obtain ⟨o3, e2⟩ := ih o1 hz
    exact ⟨⟨o2, o3⟩, by rw [e, e2]; rfl⟩
   ·cases h
  ·cases h
theorem takeSh_v (m : Nat → Nat) {N : Nat} {h : Sh} {v : PV} {x : Tq h.lfs} (hp : h.plain = true) (ho : v.ok N) (ht : takeSh h v = some x) : (giveSh h x).ok 0 ∧ v.v m = (giveSh h x).v m := by
 cases h with
 |one l =>
  cases v with
  |agg ss => cases ht
  |one c =>
   obtain ⟨o1, e⟩ := takeLs_v m (ls := [l]) (ss := [.c c]) (N := N) ⟨ho, trivial⟩ ht
   have e : [c.v m] = vals m (giveLs [l] x) := e
   cases l with
   |a k n => cases hp
   |i k =>
    refine ⟨trivial, ?_⟩
    have : [c.v m] = [Value.int k x.1] := e
    exact (List.cons.inj this).1
   |b =>
    refine ⟨trivial, ?_⟩
    have : [c.v m] = [Value.bool x.1] := e
    exact (List.cons.inj this).1
 |agg ls =>
  cases v with
  |one c => cases ht
  |agg ss =>
   obtain ⟨o1, e⟩ := takeLs_v m ho ht
   exact ⟨o1, by show Value.agg _ = Value.agg _; rw [e]⟩
theorem takes_v {N : Nat} : ∀ {hs : List Sh} {vs : List PV} {x : Ts hs}, hs.all Sh.plain = true → (∀ v ∈ vs, v.ok N) → takes hs vs = some x → (∀ v ∈ gives hs x, v.ok 0) ∧ ∀ m, vs.map (PV.v m) = (gives hs x).map (PV.v m) := by
 intro hs
 induction hs with
 |nil =>
  intro vs x _ _ h
  cases vs with
  |nil => exact ⟨(fun v hv => nomatch hv), fun _ => rfl⟩
  |cons v r => cases h
 |cons h hs ih =>
  intro vs x hp ho ht
  cases vs with
  |nil => cases ht
  |cons v r =>
   rw [List.all_cons, Bool.and_eq_true] at hp
   unfold takes at ht
   split at ht
   ·next y z hy hz =>
    cases ht
    obtain ⟨o2, e2⟩ := ih hp.2 (fun u hu => ho u (List.mem_cons_of_mem _ hu)) hz
    have hv := ho v (List.mem_cons_self ..)
    refine ⟨fun u hu => ?_, fun m => ?_⟩
    ·have hu : u ∈ giveSh h y :: gives hs z := hu
     rcases List.mem_cons.1 hu with rfl | hu
     ·exact (takeSh_v id hp.1 hv hy).1
     ·exact o2 u hu
    ·show v.v m :: r.map (PV.v m) = (giveSh h y).v m :: (gives hs z).map (PV.v m)
     rw [(takeSh_v m hp.1 hv hy).2, e2 m]
   ·cases ht
theorem takeR_v {N : Nat} {hs : List Sh} {v : SV} {x : Ts hs} (hp : hs.all Sh.plain = true) (ho : v.ok N) (h : takeR hs v = some x) : (giveR hs x).ok 0 ∧ ∀ m m', v.v m' = (giveR hs x).v m := by
 have cong : ∀ (vs : List PV), (∀ v ∈ vs, v.ok 0) → ∀ m m' : Nat → Nat, vs.map (PV.v m') = vs.map (PV.v m) := fun vs hv m m' =>
  List.map_congr_left fun u hu => PV.v_congr (N := 0) (fun g hg => absurd hg (Nat.not_lt_zero _)) (hv u hu)
 have main : ∀ vs : List PV, (∀ v ∈ vs, v.ok N) → takes hs vs = some x → (∀ v ∈ gives hs x, v.ok 0) ∧ ∀ m m', vs.map (PV.v m') = (gives hs x).map (PV.v m) := fun vs hv ht => by
  obtain ⟨o, e⟩ := takes_v hp hv ht
  exact ⟨o, fun m m' => (e m').trans (cong _ o m m')⟩
 cases v with
 |und => cases h
 |pv u =>
  obtain ⟨o, e⟩ := main [u] (by intro v hv; rcases List.mem_cons.1 hv with rfl | hv; exact ho; cases hv) h
  unfold giveR
  have hl : (gives hs x).length = 1 := by
   have := congrArg List.length (e id id); simpa using this.symm
  match hg : gives hs x, hl with
  |[w], _ =>
   rw [hg] at o e
   refine ⟨o w (List.mem_cons_self ..), fun m m' => ?_⟩
   have := e m m'
   exact (List.cons.inj this).1
 |tup vs =>
  have h0 : (cnd (Nat.beq vs.length 1) (none) <| takes hs vs) = some x := h
  have hne : vs.length ≠ 1 := by
   intro hl
   rw [hl] at h0
   cases h0
  have h' : takes hs vs = some x := by
   rcases bcond h0 with ⟨_, h1⟩ | ⟨_, h1⟩
   ·cases h1
   ·exact h1
  obtain ⟨o, e⟩ := main vs ho h'
  have hl : (gives hs x).length ≠ 1 := by
   intro hl
   have := congrArg List.length (e id id)
   simp only [List.length_map] at this
   omega
  have hg : giveR hs x = .tup (gives hs x) := by
   unfold giveR
   split
   ·next u hu => rw [hu] at hl; exact absurd rfl hl
   ·rfl
  rw [hg]
  exact ⟨o, fun m m' => by show Value.tuple _ = Value.tuple _; rw [e m m']⟩

def Lf.na : Lf → Bool
 |.a _ _ => false
 |_ => true
theorem giveLs_ok : ∀ {ls : List Lf} (x : Tq ls), ls.all Lf.na = true → oks 0 (giveLs ls x) := by
 intro ls
 induction ls with
 |nil => intro x _; trivial
 |cons l ls ih =>
  intro x h
  rw [List.all_cons, Bool.and_eq_true] at h
  refine ⟨?_, ih x.2 h.2⟩
  cases l with
  |a k n => cases h.1
  |i k => trivial
  |b => trivial
theorem gives_ok : ∀ {hs : List Sh} (x : Ts hs), hs.all (fun s => s.lfs.all Lf.na) = true → ∀ v ∈ gives hs x, v.ok 0 := by
 intro hs
 induction hs with
 |nil => intro x _ v hv; cases hv
 |cons h hs ih =>
  intro x hh v hv
  rw [List.all_cons, Bool.and_eq_true] at hh
  rcases List.mem_cons.1 hv with rfl | hv
  ·cases h with
   |agg ls => exact giveLs_ok x.1 hh.1
   |one l =>
    cases l with
    |a k n => have := hh.1; cases this
    |i k => trivial
    |b => trivial
  ·exact ih x.2 hh.2 v hv
theorem giveR_ok {hs : List Sh} (h : hs.all (fun s => s.lfs.all Lf.na) = true) (x : Ts hs) : (giveR hs x).ok 0 := by
 have k := gives_ok x h
 unfold giveR
 split
 ·next v hv => exact k v (by rw [hv]; exact List.mem_cons_self ..)
 ·exact k
def mkFc (as_ rs : List Sh) {T : Type} (un : T → Ts rs) (g : Nat → Ts as_ → Option T) : Fc := ⟨fun _ n _ vs K => match takes as_ vs with
 |some x => (g n x).bind fun y => K (giveR rs (un y))
 |none => none⟩
theorem ClsOk.nil {P : Program} : ClsOk P [] := fun _ _ h => nomatch h
theorem ClsOk.cons {P : Program} {f : FuncId} {c : Fc} {cl : Cls} (h : FcOk P f c) (k : ClsOk P cl) : ClsOk P ((f, c) :: cl) := fun f' c' hl => by
 rw [look_cons] at hl
 by_cases e : f = f'
 ·rw [if_pos e] at hl; cases hl; subst e; exact h
 ·rw [if_neg e] at hl; exact k f' c' hl
theorem old_ok {P : Program} {f : FuncId} {fn : Func} {as_ rs : List Sh} {T : Type} {un : T → Ts rs} {g : Nat → Ts as_ → Option T} (hf : P.funcs[f]? = some fn) (hb : fn.body.isSome = true) (hn : (fn.name == "runtime.NumGoroutine") = false)
  (hp : (as_.all Sh.plain && rs.all Sh.plain) = true) (h0 : ∀ y, (giveR rs (un y)).ok 0) (hc : ∀ n x y, g n x = some y → ∀ (m : Nat → Nat) (w : World), Calls P f ((gives as_ x).map (PV.v m)).toArray w fun e w' => e = .returned ((giveR rs (un y)).v m) ∧ Below w.heap.size w w') : FcOk P f (mkFc as_ rs un g) := by
 rw [Bool.and_eq_true] at hp
 refine ⟨⟨fn, hf, hb, hn⟩, fun R n N _ vs K r ho h => ?_⟩
 have h : (match takes as_ vs with
  |some x => (g n x).bind fun y => K (giveR rs (un y))
  |none => none) = some r := h
 split at h
 ·next x hx =>
  obtain ⟨y, hy, hK⟩ := Option.bind_eq_some_iff.mp h
  obtain ⟨o1, e1⟩ := takes_v hp.1 ho hx
  exact ⟨_, hK, h0 y, fun m w _ => by rw [e1 m]; exact hc n x y hy m w⟩
 ·cases h
theorem mkOk {P : Program} {cl : Cls} (hcl : ClsOk P cl) {f : FuncId} {fn : Func} {cuts : List Nat} {as_ rs : List Sh} {T : Type} {cv : Ts rs → T} {un : T → Ts rs} {g : Nat → Ts as_ → Option T} (hf : P.funcs[f]? = some fn) (hb : fn.body.isSome = true) (hn : (fn.name == "runtime.NumGoroutine") = false)
  (hp : (as_.all Sh.plain && rs.all Sh.plain) = true) (hu : ∀ z, un (cv z) = z) (hg : ∀ n x, g n x = evF P cl fn cuts n (gives as_ x) (fun v => (takeR rs v).map cv)) : FcOk P f (mkFc as_ rs un g) := by
 rw [Bool.and_eq_true] at hp
 refine ⟨⟨fn, hf, hb, hn⟩, fun R n N _ vs K r ho h => ?_⟩
 have h : (match takes as_ vs with
  |some x => (g n x).bind fun y => K (giveR rs (un y))
  |none => none) = some r := h
 split at h
 ·next x hx =>
  obtain ⟨y, hy, hK⟩ := Option.bind_eq_some_iff.mp h
  rw [hg] at hy
  obtain ⟨o1, e1⟩ := takes_v hp.1 ho hx
  refine ⟨_, hK, ?_⟩
  have hc : ∀ m w, Calls P f (vs.map (PV.v m)).toArray w fun e w' => (giveR rs (un y)).ok 0 ∧ e = .returned ((giveR rs (un y)).v m) ∧ Below w.heap.size w w' := fun m w => by
   rw [e1 m]
   refine (evF_v hcl hf o1 hy m w).mono ?_
   rintro e w' ⟨v, m', h1, rfl, ⟨N, h2⟩, h3⟩
   obtain ⟨z, hz, rfl⟩ := Option.map_eq_some_iff.mp h1
   rw [hu]
   obtain ⟨k1, k2⟩ := takeR_v hp.2 h2 hz
   exact ⟨k1, by rw [k2 m m'], h3⟩
  refine ⟨?_, fun m w _ => (hc m w).mono fun e w' he => he.2⟩
  obtain ⟨e, w', fr, hR, _⟩ := hc id default []
  exact hR.1
 ·cases h
theorem calls_of {P : Program} {f : FuncId} {as_ rs : List Sh} {T : Type} {un : T → Ts rs} {g : Nat → Ts as_ → Option T} (hok : FcOk P f (mkFc as_ rs un g)) (n : Nat) (x : Ts as_) (y : T) (ht : takes as_ (gives as_ x) = some x) (h : g n x = some y) (w : World) (hp : as_.all (fun s => s.lfs.all Lf.na) = true := by decide) :
  Calls P f ((gives as_ x).map (PV.v id)).toArray w fun e w' => e = .returned ((giveR rs (un y)).v id) ∧ Below w.heap.size w w' := by
 have hr : (mkFc as_ rs un g).run SV n [] (gives as_ x) some = some (giveR rs (un y)) := by
  show (match takes as_ (gives as_ x) with
   |some x => (g n x).bind fun y => some (giveR rs (un y))
   |none => none) = _
  rw [ht]
  show (g n x).bind _ = _
  rw [h]; rfl
 obtain ⟨v, hv, _, hc⟩ := hok.run SV n 0 [] (gives as_ x) some _ (gives_ok x hp) hr
 cases hv
 exact hc id w ⟨0, fun g e ss h => nomatch h⟩
inductive Ar where
 |s (h : Sh)
 |sl (k : IntKind)
def Ta : List Ar → Type
 |[] => Unit
 |.s h :: r => Tq h.lfs × Ta r
 |.sl _ :: r => List Int × Ta r
def sliceOf (h : List (Nat × Nat × List S)) (k : IntKind) : PV → Option (List Int)
 |.one (.sl g o n c) => match look h g with
  |some (_, [.a k' xs q]) => cnd (Nat.beq o 0 && Nat.beq q n && Nat.ble n c && Nat.ble n 1000 && decide (k' = k)) (some xs) <| none
  |_ => none
 |_ => none
def takeA (h : List (Nat × Nat × List S)) : (as_ : List Ar) → List PV → Option (Ta as_)
 |[], [] => some ()
 |[], _ :: _ => none
 |_ :: _, [] => none
 |.s p :: r, v :: q => match takeSh p v, takeA h r q with
  |some x, some y => some (x, y)
  |_, _ => none
 |.sl k :: r, v :: q => match sliceOf h k v, takeA h r q with
  |some x, some y => some (x, y)
  |_, _ => none
def Are (w : World) : (as_ : List Ar) → Ta as_ → List Value → Prop
 |[], _, vs => vs = []
 |.s p :: r, x, vs => ∃ q, vs = (giveSh p x.1).v id :: q ∧ Are w r x.2 q
 |.sl k :: r, x, vs => ∃ A c q, vs = .slice A x.1.length c :: q ∧ Kd.C (Kd.int k) w A x.1.length x.1 ∧ x.1.length ≤ c ∧ Are w r x.2 q
def Ar.plain : Ar → Bool
 |.s h => h.plain
 |_ => true
theorem sliceOf_v {h : List (Nat × Nat × List S)} {k : IntKind} {v : PV} {xs : List Int} (e : sliceOf h k v = some xs) {m : Nat → Nat} {w : World} (hw : HeapIs m h w) : ∃ A c, v.v m = .slice A xs.length c ∧ Kd.C (Kd.int k) w A xs.length xs ∧ xs.length ≤ c := by
 unfold sliceOf at e
 split at e
 ·next g o n c =>
  split at e
  ·next t k' ys q hl =>
   obtain ⟨h1, h2⟩ := bsome e
   cases h2
   simp only [Bool.and_eq_true] at h1
   obtain ⟨⟨⟨⟨h1, h2⟩, h3⟩, h4⟩, h5⟩ := h1
   obtain rfl := Nat.eq_of_beq_eq_true h1
   obtain rfl := Nat.eq_of_beq_eq_true h2
   have h3 := Nat.le_of_ble_eq_true h3
   have h4 := Nat.le_of_ble_eq_true h4
   obtain rfl := of_decide_eq_true h5
   obtain ⟨N, hw⟩ := hw
   obtain ⟨o1, o2⟩ := hw g t _ hl
   have ol : xs.length = q := o1.1
   subst ol
   have o3 : vals m [S.a k' xs xs.length] = xs.map (Value.int k') := by show xs.map _ ++ [] = _; rw [List.append_nil]
   rw [o3] at o2
   refine ⟨some ⟨m g, 0, none⟩, c, rfl, ⟨rfl, by omega, fun _ => ⟨_, rfl, fun j p hj => ⟨[.int k' p], rfl, rfl, fun i u hu => ?_⟩⟩⟩, h3⟩
   have hi : i = 0 := by
    cases i with
    |zero => rfl
    |succ i => cases hu
   subst hi
   cases hu
   unfold World.cell? Addr.add
   have hk : (Kd.int k').sz = 1 := rfl
   by_cases j0 : j = 0
   ·subst j0; simp [hk, o2]; simpa using hj
   ·simp [hk, j0, o2]; simpa using hj
  ·cases e
 ·cases e
theorem takeA_v {h : List (Nat × Nat × List S)} {N : Nat} : ∀ {as_ : List Ar} {vs : List PV} {x : Ta as_}, as_.all Ar.plain = true → (∀ v ∈ vs, v.ok N) → takeA h as_ vs = some x → ∀ (m : Nat → Nat) (w : World), HeapIs m h w → Are w as_ x (vs.map (PV.v m)) := by
 intro as_
 induction as_ with
 |nil =>
  intro vs x _ _ e m w _
  cases vs with
  |nil => rfl
  |cons v r => cases e
 |cons p as_ ih =>
  intro vs x hp ho e m w hw
  rw [List.all_cons, Bool.and_eq_true] at hp
  cases vs with
  |nil => cases p <;> cases e
  |cons v r =>
   cases p with
   |s q =>
    unfold takeA at e
    split at e
    ·next y z hy hz =>
     cases e
     obtain ⟨o1, e1⟩ := takeSh_v m hp.1 (ho v (List.mem_cons_self ..)) hy
     refine ⟨r.map (PV.v m), ?_, ih hp.2 (fun u hu => ho u (List.mem_cons_of_mem _ hu)) hz m w hw⟩
     show v.v m :: _ = _
     rw [e1, PV.v_congr (N := 0) (m := m) (m' := id) (fun g hg => absurd hg (Nat.not_lt_zero _)) o1]
    ·cases e
   |sl k =>
    unfold takeA at e
    split at e
    ·next y z hy hz =>
     cases e
     obtain ⟨A, c, e1, e2, e3⟩ := sliceOf_v hy hw
     refine ⟨A, c, r.map (PV.v m), ?_, e2, e3, ih hp.2 (fun u hu => ho u (List.mem_cons_of_mem _ hu)) hz m w hw⟩
     show v.v m :: _ = _
     rw [e1]
    ·cases e
def mkFcA (as_ : List Ar) (rs : List Sh) {T : Type} (un : T → Ts rs) (g : Nat → Ta as_ → Option T) : Fc := ⟨fun _ n h vs K => match takeA h as_ vs with
 |some x => (g n x).bind fun y => K (giveR rs (un y))
 |none => none⟩
theorem oldA_ok {P : Program} {f : FuncId} {fn : Func} {as_ : List Ar} {rs : List Sh} {T : Type} {un : T → Ts rs} {g : Nat → Ta as_ → Option T} (hf : P.funcs[f]? = some fn) (hb : fn.body.isSome = true) (hn : (fn.name == "runtime.NumGoroutine") = false)
  (hp : (as_.all Ar.plain && rs.all Sh.plain) = true) (h0 : ∀ y, (giveR rs (un y)).ok 0) (hc : ∀ n x y, g n x = some y → ∀ (m : Nat → Nat) (w : World) (vs : List Value), Are w as_ x vs → Calls P f vs.toArray w fun e w' => e = .returned ((giveR rs (un y)).v m) ∧ Below w.heap.size w w') : FcOk P f (mkFcA as_ rs un g) := by
 rw [Bool.and_eq_true] at hp
 refine ⟨⟨fn, hf, hb, hn⟩, fun R n N hh vs K r ho h => ?_⟩
 have h : (match takeA hh as_ vs with
  |some x => (g n x).bind fun y => K (giveR rs (un y))
  |none => none) = some r := h
 split at h
 ·next x hx =>
  obtain ⟨y, hy, hK⟩ := Option.bind_eq_some_iff.mp h
  exact ⟨_, hK, h0 y, fun m w hw => hc n x y hy m w _ (takeA_v hp.1 ho hx m w hw)⟩
 ·cases h
abbrev hI (k : IntKind) : Sh := .one (.i k)
abbrev hB : Sh := .one .b
abbrev vi (k : IntKind) (x : Int) : SV := .pv (.one (.i k (.x x)))
abbrev vb (b : Bool) : SV := .pv (.one (.b (.q b)))
abbrev ci (k : IntKind) (x : Int) : S := .c (.i k (.x x))
abbrev cb (b : Bool) : S := .c (.b (.q b))
end Go.Proofs.Ytjlgmfgjleajfaa.Ek

-- Printed by a program of this session's out of Lean's print of the translation; Lean checks it.
namespace Go.Proofs.Ytjlgmfgjleajfaa.P
open Go.RowKit Go.Proofs.YtjlgmfgjleajfaaW.PrintWords Go.Proofs.YtjlgmfgjleajfaaW.PrintLast Go.Proofs.YtjlgmfgjleajfaaW.PrintMore
attribute [local go_sem] max2_int min2_int max_two min_two max_three min_three max_four min_four

-- NEED 0
/-! ### sum_Infinite: function 59 -/
def sum_Infinite.j0 : Nat → Int → Bool → Bool → Bool → Bool → Option (Int × Bool × Bool × Bool × Bool × Bool)
 |0, _, _, _, _, _ => none
 |k + 1, x0, x1, x2, x3, x12 => if x12 = true then ((sum_Bad.f x0).bind fun bt320 => (some (bt320.1, bt320.2.1, bt320.2.2.1, bt320.2.2.2.1, bt320.2.2.2.2.1, bt320.2.2.2.2.2))) else (if x3 = true then ((format_Inf.f x0 x1).bind fun t326 => (some (t326, false, false, false, false, false))) else ((format_Inf.f x0 x2).bind fun t327 => (some (t327, false, false, false, false, false))))
def sum_Infinite.f (k : Nat) (a0 : Int) (a1 : Bool) (a2 : Bool) (a3 : Bool) (a4 : Bool) : Option (Int × Bool × Bool × Bool × Bool × Bool) := if a3 = true then (if a4 = true then (sum_Infinite.j0 k a0 a1 a2 a3 (a1 != a2)) else (sum_Infinite.j0 k a0 a1 a2 a3 false)) else (sum_Infinite.j0 k a0 a1 a2 a3 false)
theorem sum_Infinite.mono_l : ∀ k, (∀ y0 y1 y2 y3 y4, LeO (sum_Infinite.j0 k y0 y1 y2 y3 y4) (sum_Infinite.j0 (k + 1) y0 y1 y2 y3 y4))
 |0 => fun _ _ _ _ _ r h => by simp [sum_Infinite.j0] at h
 |k + 1 => by
  have ih0 := sum_Infinite.mono_l k
  ·intro y0 y1 y2 y3 y4
   unfold sum_Infinite.j0
   repeat' first
   |(with_reducible exact ih0 _ _ _ _ _)
   |(with_reducible exact LeO.refl _)
   |(with_reducible exact LeO.none _)
   |(with_reducible refine LeO.ite ?_ ?_)
   |(with_reducible refine LeO.bind ?_ (fun _ => ?_))
   |exact ih0 _ _ _ _ _
   |exact LeO.none _
   |refine LeO.ite ?_ ?_
   |refine LeO.bind ?_ (fun _ => ?_)
theorem sum_Infinite.mono : ∀ a0 a1 a2 a3 a4 k, LeO (sum_Infinite.f k a0 a1 a2 a3 a4) (sum_Infinite.f (k + 1) a0 a1 a2 a3 a4) := by
 intro a0 a1 a2 a3 a4 k
 have ih0 := sum_Infinite.mono_l k
 unfold sum_Infinite.f
 repeat' first
   |(with_reducible exact ih0 _ _ _ _ _)
   |(with_reducible exact LeO.refl _)
   |(with_reducible exact LeO.none _)
   |(with_reducible refine LeO.ite ?_ ?_)
   |(with_reducible refine LeO.bind ?_ (fun _ => ?_))
   |exact ih0 _ _ _ _ _
   |exact LeO.none _
   |refine LeO.ite ?_ ?_
   |refine LeO.bind ?_ (fun _ => ?_)
set_option maxHeartbeats 8000000 in
set_option maxRecDepth 100000 in
theorem sum_Infinite.calls (k : Nat) (a0 : Int) (a1 : Bool) (a2 : Bool) (a3 : Bool) (a4 : Bool) (r1 : Int) (r2 : Bool) (r3 : Bool) (r4 : Bool) (r5 : Bool) (r6 : Bool) (w : World) (h : sum_Infinite.f k a0 a1 a2 a3 a4 = some (r1, r2, r3, r4, r5, r6)) :
  Calls Try.prog 59 #[.int .i64 a0, .bool a1, .bool a2, .bool a3, .bool a4] w fun e w' => e = .returned (.tuple #[.int .u32 r1, .agg #[.bool r2, .bool r3, .bool r4, .bool r5, .bool r6]]) ∧ Below w.heap.size w w' := by
 have hu35 := Try.underlying35
 have HB := Aside0.mk (Below.refl w.heap.size w)
 have H : (if a3 = true then (if a4 = true then (sum_Infinite.j0 k a0 a1 a2 a3 (a1 != a2)) else (sum_Infinite.j0 k a0 a1 a2 a3 false)) else (sum_Infinite.j0 k a0 a1 a2 a3 false)) = some (r1, r2, r3, r4, r5, r6) := h
 clear h
 have HC6 := Aside0.mk H
 clear H
 go_enter Try.func59, Try.ntmps59
 go_upto_region 1 with (first | ((with_reducible refine gate_dst (N := 11) rfl ?_); refine box_event ?hg (N := 11) ?hd (cs := F5) (t := 35) ?hr ?_; (case hd => rfl); (case hg => rfl); (case hr => first | (go_simp; done) | (go_simp; rfl)); intro gb319 hg w7 hbox hb; have n0_ := Aside0.mk (below_step (bl0 HB.out) hb); have n1_ := Aside0.mk (hbox); have n2_ := Aside0.mk ((by rw [hg]; exact (below_size (bl0 HB.out)) : w.heap.size ≤ gb319)); have n3_ := n2_; clear HB; have HB := n0_; have BK319 := n1_; have GW319 := n2_; have GE319 := n3_; clear n0_ n1_ n2_ n3_; clear hb hbox hg))
 (try simp only [Act.put, sb, sz, ss])
 go_cut [12] (fun v12 wc => ∃ (kq : Nat) (x12_5 : Bool), v12 = .bool x12_5 ∧ Aside0 (sum_Infinite.j0 kq a0 a1 a2 a3 x12_5 = some (r1, r2, r3, r4, r5, r6)) ∧ Aside0 (kq ≤ k) ∧ Aside0 (wc.heap[gb319]? = some (o5_ false false false false false 35)) ∧ Aside0 (Below w.heap.size w wc))
 case first =>
  have H := HC6.out
  clear HC6
  by_cases c8 : a3 = true
  ·subst c8
   have H1 : (if a4 = true then (sum_Infinite.j0 k a0 a1 a2 true (a1 != a2)) else (sum_Infinite.j0 k a0 a1 a2 true false)) = some (r1, r2, r3, r4, r5, r6) := by rw [if_pos rfl] at H; exact H
   clear H
   have H := H1
   clear H1
   by_cases c9 : a4 = true
   ·subst c9
    have H1 : (sum_Infinite.j0 k a0 a1 a2 true (a1 != a2)) = some (r1, r2, r3, r4, r5, r6) := by rw [if_pos rfl] at H; exact H
    clear H
    have H := H1
    clear H1
    have H' := Aside0.mk H
    clear H
    go_wp2
    go_meet
    case rel => exact ⟨_, ((a1 != a2)), (by first | rfl | (simp; done) | (simp [*]; done) | (congr 1; (try unfold wrap64); omega) | (congr 1; rw [IntKind.wrap_u64]; omega)), H', ⟨by first | omega | exact Nat.le_refl _⟩, ⟨by (with_reducible repeat first | apply bd | apply be | apply ba); exact BK319.out⟩, ⟨bl1 HB.out GE319.out⟩⟩
   ·replace c9 := Bool.eq_false_iff.mpr c9
    subst c9
    have H1 : (sum_Infinite.j0 k a0 a1 a2 true false) = some (r1, r2, r3, r4, r5, r6) := by rw [if_neg (show ¬ (false = true) by decide)] at H; exact H
    clear H
    have H := H1
    clear H1
    have H' := Aside0.mk H
    clear H
    go_wp2
    go_meet
    case rel => exact ⟨_, (false), (by first | rfl | (simp; done) | (simp [*]; done) | (congr 1; (try unfold wrap64); omega) | (congr 1; rw [IntKind.wrap_u64]; omega)), H', ⟨by first | omega | exact Nat.le_refl _⟩, ⟨by (with_reducible repeat first | apply bd | apply be | apply ba); exact BK319.out⟩, ⟨bl1 HB.out GE319.out⟩⟩
  ·replace c8 := Bool.eq_false_iff.mpr c8
   subst c8
   have H1 : (sum_Infinite.j0 k a0 a1 a2 false false) = some (r1, r2, r3, r4, r5, r6) := by rw [if_neg (show ¬ (false = true) by decide)] at H; exact H
   clear H
   have H := H1
   clear H1
   have H' := Aside0.mk H
   clear H
   go_wp2
   go_meet
   case rel => exact ⟨_, (false), (by first | rfl | (simp; done) | (simp [*]; done) | (congr 1; (try unfold wrap64); omega) | (congr 1; rw [IntKind.wrap_u64]; omega)), H', ⟨by first | omega | exact Nat.le_refl _⟩, ⟨by (with_reducible repeat first | apply bd | apply be | apply ba); exact BK319.out⟩, ⟨bl1 HB.out GE319.out⟩⟩
 case rest =>
  clear HC6
  try clear p2 c5 p6 c8 c9
  obtain ⟨kq, x12_5, rfl, HA, HJ5, BK319, HB⟩ := hcut
  cases kq with
  |zero => exact absurd HA.out (by simp [sum_Infinite.j0])
  |succ kj5 =>
   have H := HA.out
   clear HA
   simp only [sum_Infinite.j0] at H
   by_cases c10 : x12_5 = true
   ·subst c10
    have H1 : ((sum_Bad.f a0).bind fun bt320 => (some (bt320.1, bt320.2.1, bt320.2.2.1, bt320.2.2.2.1, bt320.2.2.2.2.1, bt320.2.2.2.2.2))) = some (r1, r2, r3, r4, r5, r6) := by rw [if_pos rfl] at H; exact H
    clear H
    have H := H1
    clear H1
    replace H := Option.bind_eq_some_iff.mp H
    obtain ⟨⟨t320, t321, t322, t323, t324, t325⟩, A110, H⟩ := H
    replace H : (some (t320, t321, t322, t323, t324, t325)) = some (r1, r2, r3, r4, r5, r6) := H
    have A11 := Aside0.mk A110
    clear A110
    simp only [Option.some.injEq, Prod.mk.injEq] at H
    obtain ⟨rfl, rfl, rfl, rfl, rfl, rfl⟩ := H
    go_wp2_with (first | ((with_reducible refine gate_callee (f := 24) rfl ?_); refine goesL_ (some 23) rfl rfl Try.func24 (by kernel_rfl) rfl #[.int .i64 a0] rfl gl ?_; (with_reducible refine (sum_Bad.calls a0 t320 t321 t322 t323 t324 t325 _ A11.out).mono ?_); rintro e w12 ⟨rfl, hb⟩; refine ⟨_, rfl, ?_⟩; have n0_ := Aside0.mk (blk_below (g := gb319) (o := o5_ false false false false false 35) (bv BK319.out) hb); have n1_ := Aside0.mk (below_step (bl1 HB.out GE319.out) hb); clear BK319; clear HB; have BK319 := n0_; have HB := n1_; clear n0_ n1_; obtain ⟨hcz13_0, hcz13_1, hcz13_2, hcz13_3, hcz13_4⟩ := bc5 BK319.out; obtain ⟨hfz13_0, hfz13_1, hfz13_2, hfz13_3, hfz13_4⟩ := bf5 BK319.out))
    refine bodyPost_ret (results_tc rfl _ _ gb319 35 #[.bool t321, .bool t322, .bool t323, .bool t324, .bool t325] (0, 0) _ rfl (by (with_reducible repeat first | apply bd | apply be | apply ba); refine blk_put (cs := q5_ t321 t322 t323 t324 false) ?_ 4 _ rfl; (with_reducible repeat first | apply bd | apply be | apply ba); refine blk_put (cs := q5_ t321 t322 t323 false false) ?_ 3 _ rfl; (with_reducible repeat first | apply bd | apply be | apply ba); refine blk_put (cs := q5_ t321 t322 false false false) ?_ 2 _ rfl; (with_reducible repeat first | apply bd | apply be | apply ba); refine blk_put (cs := q5_ t321 false false false false) ?_ 1 _ rfl; (with_reducible repeat first | apply bd | apply be | apply ba); refine blk_put (cs := F5) ?_ 0 _ rfl; (with_reducible repeat first | apply bd | apply be | apply ba); exact BK319.out) Try.underlying35 rfl (by kernel_rfl)) rfl ?_
    exact ⟨by first | rfl | (simp [errW_none, errW_some] <;> rfl) | (simp [*, errW_none, errW_some] <;> rfl), bl1 HB.out GE319.out⟩
   ·replace c10 := Bool.eq_false_iff.mpr c10
    subst c10
    have H1 : (if a3 = true then ((format_Inf.f a0 a1).bind fun t326 => (some (t326, false, false, false, false, false))) else ((format_Inf.f a0 a2).bind fun t327 => (some (t327, false, false, false, false, false)))) = some (r1, r2, r3, r4, r5, r6) := by rw [if_neg (show ¬ (false = true) by decide)] at H; exact H
    clear H
    have H := H1
    clear H1
    by_cases c14 : a3 = true
    ·subst c14
     have H1 : ((format_Inf.f a0 a1).bind fun t326 => (some (t326, false, false, false, false, false))) = some (r1, r2, r3, r4, r5, r6) := by rw [if_pos rfl] at H; exact H
     clear H
     have H := H1
     clear H1
     replace H := Option.bind_eq_some_iff.mp H
     obtain ⟨t326, A150, H⟩ := H
     replace H : (some (t326, false, false, false, false, false)) = some (r1, r2, r3, r4, r5, r6) := H
     have A15 := Aside0.mk A150
     clear A150
     simp only [Option.some.injEq, Prod.mk.injEq] at H
     obtain ⟨rfl, rfl, rfl, rfl, rfl, rfl⟩ := H
     go_wp2_with (first | ((with_reducible refine gate_callee (f := 25) rfl ?_); refine goesL_ (some 30) rfl rfl Try.func25 (by kernel_rfl) rfl #[.int .i64 a0, .bool a1] rfl gl ?_; (with_reducible refine (format_Inf.calls a0 a1 t326 _ A15.out).mono ?_); rintro e w' ⟨rfl, ⟨nd, rfl⟩⟩; refine ⟨_, rfl, ?_⟩; (try (rw [drewN_self wc]; generalize hq_ : World.drewN wc _ = wc; have n0_ : Aside0 (wc.heap[gb319]? = some (o5_ false false false false false 35)) := ⟨by rw [← hq_]; exact (bv BK319.out)⟩; have n1_ : Aside0 (Below w.heap.size w wc) := ⟨by rw [← hq_]; exact (bl1 HB.out GE319.out)⟩; clear BK319 HB hq_; have BK319 := n0_; have HB := n1_; clear n0_ n1_)); obtain ⟨hcz16_0, hcz16_1, hcz16_2, hcz16_3, hcz16_4⟩ := bc5 BK319.out; obtain ⟨hfz16_0, hfz16_1, hfz16_2, hfz16_3, hfz16_4⟩ := bf5 BK319.out))
     refine bodyPost_ret (results_tc rfl _ _ gb319 35 #[.bool false, .bool false, .bool false, .bool false, .bool false] (0, 0) _ rfl (by (with_reducible repeat first | apply bd | apply be | apply ba); refine blk_put (cs := F5) ?_ 4 _ rfl; (with_reducible repeat first | apply bd | apply be | apply ba); refine blk_put (cs := F5) ?_ 3 _ rfl; (with_reducible repeat first | apply bd | apply be | apply ba); refine blk_put (cs := F5) ?_ 2 _ rfl; (with_reducible repeat first | apply bd | apply be | apply ba); refine blk_put (cs := F5) ?_ 1 _ rfl; (with_reducible repeat first | apply bd | apply be | apply ba); refine blk_put (cs := F5) ?_ 0 _ rfl; (with_reducible repeat first | apply bd | apply be | apply ba); exact BK319.out) Try.underlying35 rfl (by kernel_rfl)) rfl ?_
     exact ⟨by first | rfl | (simp [errW_none, errW_some] <;> rfl) | (simp [*, errW_none, errW_some] <;> rfl), bl1 HB.out GE319.out⟩
    ·replace c14 := Bool.eq_false_iff.mpr c14
     subst c14
     have H1 : ((format_Inf.f a0 a2).bind fun t327 => (some (t327, false, false, false, false, false))) = some (r1, r2, r3, r4, r5, r6) := by rw [if_neg (show ¬ (false = true) by decide)] at H; exact H
     clear H
     have H := H1
     clear H1
     replace H := Option.bind_eq_some_iff.mp H
     obtain ⟨t327, A170, H⟩ := H
     replace H : (some (t327, false, false, false, false, false)) = some (r1, r2, r3, r4, r5, r6) := H
     have A17 := Aside0.mk A170
     clear A170
     simp only [Option.some.injEq, Prod.mk.injEq] at H
     obtain ⟨rfl, rfl, rfl, rfl, rfl, rfl⟩ := H
     go_wp2_with (first | ((with_reducible refine gate_callee (f := 25) rfl ?_); refine goesL_ (some 34) rfl rfl Try.func25 (by kernel_rfl) rfl #[.int .i64 a0, .bool a2] rfl gl ?_; (with_reducible refine (format_Inf.calls a0 a2 t327 _ A17.out).mono ?_); rintro e w' ⟨rfl, ⟨nd, rfl⟩⟩; refine ⟨_, rfl, ?_⟩; (try (rw [drewN_self wc]; generalize hq_ : World.drewN wc _ = wc; have n0_ : Aside0 (wc.heap[gb319]? = some (o5_ false false false false false 35)) := ⟨by rw [← hq_]; exact (bv BK319.out)⟩; have n1_ : Aside0 (Below w.heap.size w wc) := ⟨by rw [← hq_]; exact (bl1 HB.out GE319.out)⟩; clear BK319 HB hq_; have BK319 := n0_; have HB := n1_; clear n0_ n1_)); obtain ⟨hcz18_0, hcz18_1, hcz18_2, hcz18_3, hcz18_4⟩ := bc5 BK319.out; obtain ⟨hfz18_0, hfz18_1, hfz18_2, hfz18_3, hfz18_4⟩ := bf5 BK319.out))
     refine bodyPost_ret (results_tc rfl _ _ gb319 35 #[.bool false, .bool false, .bool false, .bool false, .bool false] (0, 0) _ rfl (by (with_reducible repeat first | apply bd | apply be | apply ba); refine blk_put (cs := F5) ?_ 4 _ rfl; (with_reducible repeat first | apply bd | apply be | apply ba); refine blk_put (cs := F5) ?_ 3 _ rfl; (with_reducible repeat first | apply bd | apply be | apply ba); refine blk_put (cs := F5) ?_ 2 _ rfl; (with_reducible repeat first | apply bd | apply be | apply ba); refine blk_put (cs := F5) ?_ 1 _ rfl; (with_reducible repeat first | apply bd | apply be | apply ba); refine blk_put (cs := F5) ?_ 0 _ rfl; (with_reducible repeat first | apply bd | apply be | apply ba); exact BK319.out) Try.underlying35 rfl (by kernel_rfl)) rfl ?_
     exact ⟨by first | rfl | (simp [errW_none, errW_some] <;> rfl) | (simp [*, errW_none, errW_some] <;> rfl), bl1 HB.out GE319.out⟩

-- NEED 0
/-! ### sum_full: function 70 -/
def sum_full.f (k : Nat) (a0_0 : Bool) (a0_1 : Int) (a0_2 : Int) (a0_3 : Bool) : Option (Bool × Int × Int × Bool) := (bits_Len.f k a0_2).bind fun t330 => ((bits_Shift.f k a0_2 (wrap64 (-(wrap64 (62 - t330))))).bind fun bt331 => (some (a0_0, wrap64 (a0_1 - (wrap64 (62 - t330))), bt331.1, a0_3)))
theorem sum_full.mono : ∀ a0 a1 a2 a3 k, LeO (sum_full.f k a0 a1 a2 a3) (sum_full.f (k + 1) a0 a1 a2 a3) := by
 intro a0 a1 a2 a3 k
 unfold sum_full.f
 repeat' first
   |(with_reducible exact bits_Len.mono _ _)
   |(with_reducible exact bits_Shift.mono _ _ _)
   |(with_reducible exact LeO.refl _)
   |(with_reducible exact LeO.none _)
   |(with_reducible refine LeO.ite ?_ ?_)
   |(with_reducible refine LeO.bind ?_ (fun _ => ?_))
   |exact bits_Len.mono _ _
   |exact bits_Shift.mono _ _ _
   |exact LeO.none _
   |refine LeO.ite ?_ ?_
   |refine LeO.bind ?_ (fun _ => ?_)
set_option maxHeartbeats 8000000 in
set_option maxRecDepth 100000 in
theorem sum_full.calls (k : Nat) (a0_0 : Bool) (a0_1 : Int) (a0_2 : Int) (a0_3 : Bool) (r1 : Bool) (r2 : Int) (r3 : Int) (r4 : Bool) (w : World) (h : sum_full.f k a0_0 a0_1 a0_2 a0_3 = some (r1, r2, r3, r4)) :
  Calls Try.prog 70 #[.agg #[.bool a0_0, .int .i64 a0_1, .int .u64 a0_2, .bool a0_3]] w fun e w' => e = .returned (.agg #[.bool r1, .int .i64 r2, .int .u64 r3, .bool r4]) ∧ Below w.heap.size w w' := by
 have hu51 := Try.underlying51
 have HB := Aside0.mk (Below.refl w.heap.size w)
 have H : ((bits_Len.f k a0_2).bind fun t330 => ((bits_Shift.f k a0_2 (wrap64 (-(wrap64 (62 - t330))))).bind fun bt331 => (some (a0_0, wrap64 (a0_1 - (wrap64 (62 - t330))), bt331.1, a0_3)))) = some (r1, r2, r3, r4) := h
 clear h
 replace H := Option.bind_eq_some_iff.mp H
 obtain ⟨t330, A20, H⟩ := H
 replace H : ((bits_Shift.f k a0_2 (wrap64 (-(wrap64 (62 - t330))))).bind fun bt331 => (some (a0_0, wrap64 (a0_1 - (wrap64 (62 - t330))), bt331.1, a0_3))) = some (r1, r2, r3, r4) := H
 have A2 := Aside0.mk A20
 clear A20
 replace H := Option.bind_eq_some_iff.mp H
 obtain ⟨⟨t331, t332⟩, A30, H⟩ := H
 replace H : (some (a0_0, wrap64 (a0_1 - (wrap64 (62 - t330))), t331, a0_3)) = some (r1, r2, r3, r4) := H
 have A3 := Aside0.mk A30
 clear A30
 simp only [Option.some.injEq, Prod.mk.injEq] at H
 obtain ⟨rfl, rfl, rfl, rfl⟩ := H
 go_enter Try.func70, Try.ntmps70
 go_wp2_with (first | ((with_reducible refine gate_dst (N := 1) rfl ?_); refine box_event ?hg (N := 1) ?hd (cs := #[.bool a0_0, .int .i64 a0_1, .int .u64 a0_2, .bool a0_3]) (t := 51) ?hr ?_; (case hd => rfl); (case hg => rfl); (case hr => first | (go_simp; done) | (go_simp; rfl)); intro gb328 hg w4 hbox hb; have n0_ := Aside0.mk (below_step (bl0 HB.out) hb); have n1_ := Aside0.mk (hbox); have n2_ := Aside0.mk ((by rw [hg]; exact (below_size (bl0 HB.out)) : w.heap.size ≤ gb328)); have n3_ := n2_; clear HB; have HB := n0_; have BK328 := n1_; have GW328 := n2_; have GE328 := n3_; clear n0_ n1_ n2_ n3_; clear hb hbox hg) | ((with_reducible refine gate_dst (N := 2) rfl ?_); refine box_event ?hg (N := 2) ?hd (cs := #[.bool false, .int .i64 0, .int .u64 0, .bool false]) (t := 51) ?hr ?_; (case hd => rfl); (case hg => rfl); (case hr => first | (go_simp; done) | (go_simp; rfl)); intro gb329 hg w5 hbox hb; have n0_ := Aside0.mk (blk_below (g := gb328) (o := .cells #[.bool a0_0, .int .i64 a0_1, .int .u64 a0_2, .bool a0_3] 51 (0, 0)) (bv BK328.out) hb); have n1_ := Aside0.mk (below_step (bl1 HB.out GE328.out) hb); have n2_ := Aside0.mk (hbox); have n3_ := Aside0.mk ((by rw [hg]; exact (below_size (bl1 HB.out GE328.out)) : w.heap.size ≤ gb329)); have n4_ := n3_; have n5_ := Aside0.mk ((by rw [hg]; exact Nat.ne_of_lt (blk_lt (g := gb328) (o := .cells #[.bool a0_0, .int .i64 a0_1, .int .u64 a0_2, .bool a0_3] 51 (0, 0)) (bv BK328.out)) : gb328 ≠ gb329)); have n6_ := Aside0.mk (Ne.symm n5_.out); clear BK328; clear HB; have BK328 := n0_; have HB := n1_; have BK329 := n2_; have GW329 := n3_; have GE329 := n4_; have NB328_329 := n5_; have NB329_328 := n6_; clear n0_ n1_ n2_ n3_ n4_ n5_ n6_; clear hb hbox hg; have hnb6 := NB328_329.out; have hnc6 := NB329_328.out; obtain ⟨hcz7_0, hcz7_1, hcz7_2, hcz7_3⟩ := bc4 BK328.out; obtain ⟨hfz7_0, hfz7_1, hfz7_2, hfz7_3⟩ := bf4 BK328.out) | ((with_reducible refine gate_callee (f := 28) rfl ?_); refine goesL_ (some 6) rfl rfl Try.func28 (by kernel_rfl) rfl #[.int .u64 a0_2] rfl gl ?_; (with_reducible refine (bits_Len.calls k a0_2 t330 _ A2.out).mono ?_); rintro e w' ⟨rfl, ⟨nd, rfl⟩⟩; refine ⟨_, rfl, ?_⟩; (try (rw [drewN_self w5]; generalize hq_ : World.drewN w5 _ = w5; have n0_ : Aside0 (w5.heap[gb328]? = some (.cells #[.bool a0_0, .int .i64 a0_1, .int .u64 a0_2, .bool a0_3] 51 (0, 0))) := ⟨by rw [← hq_]; exact (bv BK328.out)⟩; have n1_ : Aside0 (w5.heap[gb329]? = some (.cells #[.bool false, .int .i64 0, .int .u64 0, .bool false] 51 (0, 0))) := ⟨by rw [← hq_]; exact (bv BK329.out)⟩; have n2_ : Aside0 (Below w.heap.size w w5) := ⟨by rw [← hq_]; exact (bl2 HB.out GE328.out GE329.out)⟩; clear BK328 BK329 HB hq_; have BK328 := n0_; have BK329 := n1_; have HB := n2_; clear n0_ n1_ n2_)); obtain ⟨hcz8_0, hcz8_1, hcz8_2, hcz8_3⟩ := bc4 BK328.out; obtain ⟨hfz8_0, hfz8_1, hfz8_2, hfz8_3⟩ := bf4 BK328.out) | ((with_reducible refine gate_callee (f := 29) rfl ?_); refine goesL_ (some 13) rfl rfl Try.func29 (by kernel_rfl) rfl #[.int .u64 a0_2, .int .i64 (wrap64 (-(wrap64 (62 - t330))))] rfl gl ?_; (with_reducible refine (bits_Shift.calls k a0_2 (wrap64 (-(wrap64 (62 - t330)))) t331 t332 _ A3.out).mono ?_); rintro e w' ⟨rfl, ⟨nd, rfl⟩⟩; refine ⟨_, rfl, ?_⟩; (try (rw [drewN_self w5]; generalize hq_ : World.drewN w5 _ = w5; have n0_ : Aside0 (w5.heap[gb328]? = some (.cells #[.bool a0_0, .int .i64 a0_1, .int .u64 a0_2, .bool a0_3] 51 (0, 0))) := ⟨by rw [← hq_]; exact (bv BK328.out)⟩; have n1_ : Aside0 (w5.heap[gb329]? = some (.cells #[.bool false, .int .i64 0, .int .u64 0, .bool false] 51 (0, 0))) := ⟨by rw [← hq_]; exact (bv BK329.out)⟩; have n2_ : Aside0 (Below w.heap.size w w5) := ⟨by rw [← hq_]; exact (bl2 HB.out GE328.out GE329.out)⟩; clear BK328 BK329 HB hq_; have BK328 := n0_; have BK329 := n1_; have HB := n2_; clear n0_ n1_ n2_)); obtain ⟨hcz9_0, hcz9_1, hcz9_2, hcz9_3⟩ := bc4 BK328.out; obtain ⟨hfz9_0, hfz9_1, hfz9_2, hfz9_3⟩ := bf4 BK328.out; obtain ⟨hcz10_0, hcz10_1, hcz10_2, hcz10_3⟩ := bc4 BK329.out; obtain ⟨hfz10_0, hfz10_1, hfz10_2, hfz10_3⟩ := bf4 BK329.out))
 refine bodyPost_ret (results_cell_row rfl _ _ gb329 51 #[.bool a0_0, .int .i64 (wrap64 (a0_1 - (wrap64 (62 - t330)))), .int .u64 t331, .bool a0_3] (0, 0) _ rfl (by (with_reducible repeat first | apply bd | apply be | apply ba); refine blk_put (cs := #[.bool a0_0, .int .i64 (wrap64 (a0_1 - (wrap64 (62 - t330)))), .int .u64 t331, .bool false]) ?_ 3 _ rfl; (with_reducible repeat first | apply bd | apply be | apply ba); refine blk_put (cs := #[.bool a0_0, .int .i64 (wrap64 (a0_1 - (wrap64 (62 - t330)))), .int .u64 0, .bool false]) ?_ 2 _ rfl; (with_reducible repeat first | apply bd | apply be | apply ba); refine blk_put (cs := #[.bool a0_0, .int .i64 0, .int .u64 0, .bool false]) ?_ 1 _ rfl; (with_reducible repeat first | apply bd | apply be | apply ba); refine blk_put (cs := #[.bool false, .int .i64 0, .int .u64 0, .bool false]) ?_ 0 _ rfl; (with_reducible repeat first | apply bd | apply be | apply ba); refine blk_far ?_ NB329_328.out _; (with_reducible repeat first | apply bd | apply be | apply ba); refine blk_far ?_ NB329_328.out _; (with_reducible repeat first | apply bd | apply be | apply ba); exact BK329.out) Try.underlying51 rfl (by kernel_rfl)) rfl ?_
 exact ⟨by first | rfl | (simp [errW_none, errW_some] <;> rfl) | (simp [*, errW_none, errW_some] <;> rfl), bl2 HB.out GE328.out GE329.out⟩

-- NEED 0
/-! ### sum_Exact: function 60 -/
mutual
def sum_Exact.j0 : Nat → Bool → Bool → Int → Int → Bool → Bool → Int → Int → Bool → Option (Bool × Int × Int × Bool)
 |0, _, _, _, _, _, _, _, _, _ => none
 |k + 1, x39, x334000, x334001, x334002, x334003, x335000, x335001, x335002, x335003 => if x39 = true then (sum_Exact.j1 k x335000 x335001 x335002 x335003 x334000 x334001 x334002 x334003) else (sum_Exact.j1 k x334000 x334001 x334002 x334003 x335000 x335001 x335002 x335003)
def sum_Exact.j1 : Nat → Bool → Int → Int → Bool → Bool → Int → Int → Bool → Option (Bool × Int × Int × Bool)
 |0, _, _, _, _, _, _, _, _ => none
 |k + 1, x334000, x334001, x334002, x334003, x335000, x335001, x335002, x335003 => (bits_Shift.f k x335002 (wrap64 (x334001 - x335001))).bind fun bt344 => (if (x334000 == x335000) = true then (some (x334000, x334001, IntKind.u64.wrap (x334002 + bt344.1), bt344.2)) else (if bt344.2 = true then (sum_Exact.j2 k x334000 x334001 (IntKind.u64.wrap ((IntKind.u64.wrap (x334002 - bt344.1)) - 1)) bt344.2) else (sum_Exact.j2 k x334000 x334001 (IntKind.u64.wrap (x334002 - bt344.1)) bt344.2)))
def sum_Exact.j2 : Nat → Bool → Int → Int → Bool → Option (Bool × Int × Int × Bool)
 |0, _, _, _, _ => none
 |k + 1, x334000, x334001, x334002, x334003 => some (x334000, x334001, x334002, x334003)
end
def sum_Exact.f (k : Nat) (a0_0 : Bool) (a0_1 : Int) (a0_2 : Int) (a0_3 : Bool) (a1_0 : Bool) (a1_1 : Int) (a1_2 : Int) (a1_3 : Bool) : Option (Bool × Int × Int × Bool) := if a0_2 = 0 then (some (a1_0, a1_1, a1_2, a1_3)) else (if a1_2 = 0 then (some (a0_0, a0_1, a0_2, a0_3)) else ((sum_full.f k a0_0 a0_1 a0_2 a0_3).bind fun bt336 => ((sum_full.f k a1_0 a1_1 a1_2 a1_3).bind fun bt340 => (if bt336.2.1 < bt340.2.1 then (sum_Exact.j0 k true bt336.1 bt336.2.1 bt336.2.2.1 bt336.2.2.2 bt340.1 bt340.2.1 bt340.2.2.1 bt340.2.2.2) else (if bt336.2.1 = bt340.2.1 then (sum_Exact.j0 k (decide (bt336.2.2.1 < bt340.2.2.1)) bt336.1 bt336.2.1 bt336.2.2.1 bt336.2.2.2 bt340.1 bt340.2.1 bt340.2.2.1 bt340.2.2.2) else (sum_Exact.j0 k false bt336.1 bt336.2.1 bt336.2.2.1 bt336.2.2.2 bt340.1 bt340.2.1 bt340.2.2.1 bt340.2.2.2))))))
theorem sum_Exact.mono_l : ∀ k, (∀ y0 y1 y2 y3 y4 y5 y6 y7 y8, LeO (sum_Exact.j0 k y0 y1 y2 y3 y4 y5 y6 y7 y8) (sum_Exact.j0 (k + 1) y0 y1 y2 y3 y4 y5 y6 y7 y8)) ∧ (∀ y0 y1 y2 y3 y4 y5 y6 y7, LeO (sum_Exact.j1 k y0 y1 y2 y3 y4 y5 y6 y7) (sum_Exact.j1 (k + 1) y0 y1 y2 y3 y4 y5 y6 y7)) ∧ (∀ y0 y1 y2 y3, LeO (sum_Exact.j2 k y0 y1 y2 y3) (sum_Exact.j2 (k + 1) y0 y1 y2 y3))
 |0 => ⟨fun _ _ _ _ _ _ _ _ _ r h => by simp [sum_Exact.j0] at h, fun _ _ _ _ _ _ _ _ r h => by simp [sum_Exact.j1] at h, fun _ _ _ _ r h => by simp [sum_Exact.j2] at h⟩
 |k + 1 => by
  obtain ⟨ih0, ih1, ih2⟩ := sum_Exact.mono_l k
  refine ⟨?_, ?_, ?_⟩
  ·intro y0 y1 y2 y3 y4 y5 y6 y7 y8
   unfold sum_Exact.j0
   repeat' first
   |(with_reducible exact ih0 _ _ _ _ _ _ _ _ _)
   |(with_reducible exact ih1 _ _ _ _ _ _ _ _)
   |(with_reducible exact ih2 _ _ _ _)
   |(with_reducible exact bits_Shift.mono _ _ _)
   |(with_reducible exact sum_full.mono _ _ _ _ _)
   |(with_reducible exact LeO.refl _)
   |(with_reducible exact LeO.none _)
   |(with_reducible refine LeO.ite ?_ ?_)
   |(with_reducible refine LeO.bind ?_ (fun _ => ?_))
   |exact ih0 _ _ _ _ _ _ _ _ _
   |exact ih1 _ _ _ _ _ _ _ _
   |exact ih2 _ _ _ _
   |exact bits_Shift.mono _ _ _
   |exact sum_full.mono _ _ _ _ _
   |exact LeO.none _
   |refine LeO.ite ?_ ?_
   |refine LeO.bind ?_ (fun _ => ?_)
  ·intro y0 y1 y2 y3 y4 y5 y6 y7
   unfold sum_Exact.j1
   repeat' first
   |(with_reducible exact ih0 _ _ _ _ _ _ _ _ _)
   |(with_reducible exact ih1 _ _ _ _ _ _ _ _)
   |(with_reducible exact ih2 _ _ _ _)
   |(with_reducible exact bits_Shift.mono _ _ _)
   |(with_reducible exact sum_full.mono _ _ _ _ _)
   |(with_reducible exact LeO.refl _)
   |(with_reducible exact LeO.none _)
   |(with_reducible refine LeO.ite ?_ ?_)
   |(with_reducible refine LeO.bind ?_ (fun _ => ?_))
   |exact ih0 _ _ _ _ _ _ _ _ _
   |exact ih1 _ _ _ _ _ _ _ _
   |exact ih2 _ _ _ _
   |exact bits_Shift.mono _ _ _
   |exact sum_full.mono _ _ _ _ _
   |exact LeO.none _
   |refine LeO.ite ?_ ?_
   |refine LeO.bind ?_ (fun _ => ?_)
  ·intro y0 y1 y2 y3
   unfold sum_Exact.j2
   repeat' first
   |(with_reducible exact ih0 _ _ _ _ _ _ _ _ _)
   |(with_reducible exact ih1 _ _ _ _ _ _ _ _)
   |(with_reducible exact ih2 _ _ _ _)
   |(with_reducible exact bits_Shift.mono _ _ _)
   |(with_reducible exact sum_full.mono _ _ _ _ _)
   |(with_reducible exact LeO.refl _)
   |(with_reducible exact LeO.none _)
   |(with_reducible refine LeO.ite ?_ ?_)
   |(with_reducible refine LeO.bind ?_ (fun _ => ?_))
   |exact ih0 _ _ _ _ _ _ _ _ _
   |exact ih1 _ _ _ _ _ _ _ _
   |exact ih2 _ _ _ _
   |exact bits_Shift.mono _ _ _
   |exact sum_full.mono _ _ _ _ _
   |exact LeO.none _
   |refine LeO.ite ?_ ?_
   |refine LeO.bind ?_ (fun _ => ?_)
theorem sum_Exact.mono : ∀ a0 a1 a2 a3 a4 a5 a6 a7 k, LeO (sum_Exact.f k a0 a1 a2 a3 a4 a5 a6 a7) (sum_Exact.f (k + 1) a0 a1 a2 a3 a4 a5 a6 a7) := by
 intro a0 a1 a2 a3 a4 a5 a6 a7 k
 obtain ⟨ih0, ih1, ih2⟩ := sum_Exact.mono_l k
 unfold sum_Exact.f
 repeat' first
   |(with_reducible exact ih0 _ _ _ _ _ _ _ _ _)
   |(with_reducible exact ih1 _ _ _ _ _ _ _ _)
   |(with_reducible exact ih2 _ _ _ _)
   |(with_reducible exact bits_Shift.mono _ _ _)
   |(with_reducible exact sum_full.mono _ _ _ _ _)
   |(with_reducible exact LeO.refl _)
   |(with_reducible exact LeO.none _)
   |(with_reducible refine LeO.ite ?_ ?_)
   |(with_reducible refine LeO.bind ?_ (fun _ => ?_))
   |exact ih0 _ _ _ _ _ _ _ _ _
   |exact ih1 _ _ _ _ _ _ _ _
   |exact ih2 _ _ _ _
   |exact bits_Shift.mono _ _ _
   |exact sum_full.mono _ _ _ _ _
   |exact LeO.none _
   |refine LeO.ite ?_ ?_
   |refine LeO.bind ?_ (fun _ => ?_)

-- NEED 0
/-! ### sum_Nought: function 61 -/
def sum_Nought.f (a0 : Int) (a1 : Int) (a2 : Bool) (a3 : Bool) : Option (Int) := if (a2 == a3) = true then ((format_Zero.f a0 a2).bind fun t346 => (some t346)) else ((format_Zero.f a0 (a1 == 3)).bind fun t347 => (some t347))
set_option maxHeartbeats 8000000 in
set_option maxRecDepth 100000 in
theorem sum_Nought.calls (a0 : Int) (a1 : Int) (a2 : Bool) (a3 : Bool) (r : Int) (w : World) (h : sum_Nought.f a0 a1 a2 a3 = some r) :
  Calls Try.prog 61 #[.int .i64 a0, .int .i64 a1, .bool a2, .bool a3] w fun e w' => e = .returned (.int .u32 r) ∧ Drawn0 w w' := by
 have H : (if (a2 == a3) = true then ((format_Zero.f a0 a2).bind fun t346 => (some t346)) else ((format_Zero.f a0 (a1 == 3)).bind fun t347 => (some t347))) = some r := h
 clear h
 by_cases c5 : (a2 == a3) = true
 ·rw [if_pos c5] at H
  have c5b0 : (a2 == a3) = true := c5
  (try (have c5b1 : decide (a2 = a3) = true := by simpa using c5))
  (try (have c5b2 : (a2 == a3) = true := by simpa using c5))
  clear c5
  replace H := Option.bind_eq_some_iff.mp H
  obtain ⟨t346, A60, H⟩ := H
  replace H : (some t346) = some r := H
  have A6 := Aside0.mk A60
  clear A60
  obtain rfl := Option.some.inj H
  go_enter Try.func61, Try.ntmps61
  go_wp2_with (first | ((with_reducible refine gate_callee (f := 26) rfl ?_); refine goesL_ (some 14) rfl rfl Try.func26 (by kernel_rfl) rfl #[.int .i64 a0, .bool a2] rfl gl ?_; (with_reducible refine (format_Zero.calls a0 a2 t346 _ A6.out).mono ?_); rintro e w' ⟨rfl, ⟨nd, rfl⟩⟩; refine ⟨_, rfl, ?_⟩))
  go_ret
  exact ⟨by first | rfl | (simp; done) | (simp [*]; done) | (congr 1; (try unfold wrap64); omega) | (congr 1; rw [IntKind.wrap_u64]; omega), by repeat (first | exact Drawn0.refl _ | apply Drawn0.step)⟩
 ·rw [if_neg c5] at H
  have c5b0 : (a2 == a3) = false := by simpa using c5
  (try (have c5b1 : decide (a2 = a3) = false := by simpa using c5))
  (try (have c5b2 : (a2 == a3) = false := by simpa using c5))
  (try (have c5b3 : ¬ (a2 = a3) := by simpa using c5))
  clear c5
  replace H := Option.bind_eq_some_iff.mp H
  obtain ⟨t347, A70, H⟩ := H
  replace H : (some t347) = some r := H
  have A7 := Aside0.mk A70
  clear A70
  obtain rfl := Option.some.inj H
  go_enter Try.func61, Try.ntmps61
  go_wp2_with (first | ((with_reducible refine gate_callee (f := 26) rfl ?_); refine goesL_ (some 18) rfl rfl Try.func26 (by kernel_rfl) rfl #[.int .i64 a0, .bool (a1 == 3)] rfl gl ?_; (with_reducible refine (format_Zero.calls a0 (a1 == 3) t347 _ A7.out).mono ?_); rintro e w' ⟨rfl, ⟨nd, rfl⟩⟩; refine ⟨_, rfl, ?_⟩))
  go_ret
  exact ⟨by first | rfl | (simp; done) | (simp [*]; done) | (congr 1; (try unfold wrap64); omega) | (congr 1; rw [IntKind.wrap_u64]; omega), by repeat (first | exact Drawn0.refl _ | apply Drawn0.step)⟩

end Go.Proofs.Ytjlgmfgjleajfaa.P

/- Entries of functions. -/
namespace Go.Proofs.Ytjlgmfgjleajfaa.L
open Go.RowKit Go.Proofs.Ytjlgmfgjleajfaa.P Go.Proofs.Ytjlgmfgjleajfaa.Ek Go.Proofs.YtjlgmfgjleajfaaW.PrintWords Go.Proofs.YtjlgmfgjleajfaaW.PrintLast Go.Proofs.YtjlgmfgjleajfaaW.PrintMore
noncomputable def format_Greatest.c : Fc := mkFc [hI .i64, hB] [hI .u32] (T := Int) (fun y => ((y, ()), ())) fun n x => format_Greatest.f x.1.1 x.2.1.1
theorem format_Greatest.ok : FcOk Try.prog 68 format_Greatest.c := old_ok Try.func68 (by kernel_rfl) (by kernel_rfl) (by decide) (fun _ => giveR_ok (by decide) _) fun n x y h m w => (format_Greatest.calls x.1.1 x.2.1.1 y w h).mono fun e w' he => ⟨he.1, he.2.below⟩
noncomputable def format_Inf.c : Fc := mkFc [hI .i64, hB] [hI .u32] (T := Int) (fun y => ((y, ()), ())) fun n x => format_Inf.f x.1.1 x.2.1.1
theorem format_Inf.ok : FcOk Try.prog 25 format_Inf.c := old_ok Try.func25 (by kernel_rfl) (by kernel_rfl) (by decide) (fun _ => giveR_ok (by decide) _) fun n x y h m w => (format_Inf.calls x.1.1 x.2.1.1 y w h).mono fun e w' he => ⟨he.1, he.2.below⟩
noncomputable def round_beyond.cls : Cls := [(68, format_Greatest.c), (25, format_Inf.c)]
theorem round_beyond.clsOk : ClsOk Try.prog round_beyond.cls := ClsOk.cons format_Greatest.ok (ClsOk.cons format_Inf.ok (ClsOk.nil))
noncomputable def round_beyond.K (v : SV) : Option (Int × Bool × Bool × Bool × Bool × Bool) := (takeR [hI .u32, .agg [.b, .b, .b, .b, .b]] v).map (fun z => (z.1.1, z.2.1.1, z.2.1.2.1, z.2.1.2.2.1, z.2.1.2.2.2.1, z.2.1.2.2.2.2.1))
noncomputable def round_beyond.cuts : List Nat := []
noncomputable def round_beyond.f (k : Nat) (a0 : Int) (a1 : Int) (a2 : Bool) : Option (Int × Bool × Bool × Bool × Bool × Bool) := evF Try.prog round_beyond.cls Try.f54 round_beyond.cuts k [.one (.i .i64 (.x a0)), .one (.i .i64 (.x a1)), .one (.b (.q a2))] round_beyond.K
noncomputable def round_beyond.c : Fc := mkFc [hI .i64, hI .i64, hB] [hI .u32, .agg [.b, .b, .b, .b, .b]] (T := Int × Bool × Bool × Bool × Bool × Bool) (fun y => ((y.1, ()), (y.2.1, y.2.2.1, y.2.2.2.1, y.2.2.2.2.1, y.2.2.2.2.2, ()), ())) fun n x => round_beyond.f n x.1.1 x.2.1.1 x.2.2.1.1
theorem round_beyond.ok : FcOk Try.prog 54 round_beyond.c := mkOk round_beyond.clsOk Try.func54 (by kernel_rfl) (by kernel_rfl) (by decide) (fun _ => rfl) (fun _ _ => rfl)
noncomputable def sum_full.c : Fc := mkFc [.agg [.b, .i .i64, .i .u64, .b]] [.agg [.b, .i .i64, .i .u64, .b]] (T := Bool × Int × Int × Bool) (fun y => ((y.1, y.2.1, y.2.2.1, y.2.2.2, ()), ())) fun n x => sum_full.f n x.1.1 x.1.2.1 x.1.2.2.1 x.1.2.2.2.1
theorem sum_full.ok : FcOk Try.prog 70 sum_full.c := old_ok Try.func70 (by kernel_rfl) (by kernel_rfl) (by decide) (fun _ => giveR_ok (by decide) _) fun n x y h m w => (sum_full.calls n x.1.1 x.1.2.1 x.1.2.2.1 x.1.2.2.2.1 y.1 y.2.1 y.2.2.1 y.2.2.2 w h).mono fun e w' he => ⟨he.1, he.2⟩
noncomputable def bits_Shift.c : Fc := mkFc [hI .u64, hI .i64] [hI .u64, hB] (T := Int × Bool) (fun y => ((y.1, ()), (y.2, ()), ())) fun n x => bits_Shift.f n x.1.1 x.2.1.1
theorem bits_Shift.ok : FcOk Try.prog 29 bits_Shift.c := old_ok Try.func29 (by kernel_rfl) (by kernel_rfl) (by decide) (fun _ => giveR_ok (by decide) _) fun n x y h m w => (bits_Shift.calls n x.1.1 x.2.1.1 y.1 y.2 w h).mono fun e w' he => ⟨he.1, he.2.below⟩
noncomputable def sum_Exact.cls : Cls := [(70, sum_full.c), (29, bits_Shift.c)]
theorem sum_Exact.clsOk : ClsOk Try.prog sum_Exact.cls := ClsOk.cons sum_full.ok (ClsOk.cons bits_Shift.ok (ClsOk.nil))
noncomputable def sum_Exact.K (v : SV) : Option (Bool × Int × Int × Bool) := (takeR [.agg [.b, .i .i64, .i .u64, .b]] v).map (fun z => (z.1.1, z.1.2.1, z.1.2.2.1, z.1.2.2.2.1))
noncomputable def sum_Exact.cuts : List Nat := [7, 8, 16]
noncomputable def sum_Exact.f (k : Nat) (a0_0 : Bool) (a0_1 : Int) (a0_2 : Int) (a0_3 : Bool) (a1_0 : Bool) (a1_1 : Int) (a1_2 : Int) (a1_3 : Bool) : Option (Bool × Int × Int × Bool) := evF Try.prog sum_Exact.cls Try.f60 sum_Exact.cuts k [.agg [cb a0_0, ci .i64 a0_1, ci .u64 a0_2, cb a0_3], .agg [cb a1_0, ci .i64 a1_1, ci .u64 a1_2, cb a1_3]] sum_Exact.K
noncomputable def sum_Exact.c : Fc := mkFc [.agg [.b, .i .i64, .i .u64, .b], .agg [.b, .i .i64, .i .u64, .b]] [.agg [.b, .i .i64, .i .u64, .b]] (T := Bool × Int × Int × Bool) (fun y => ((y.1, y.2.1, y.2.2.1, y.2.2.2, ()), ())) fun n x => sum_Exact.f n x.1.1 x.1.2.1 x.1.2.2.1 x.1.2.2.2.1 x.2.1.1 x.2.1.2.1 x.2.1.2.2.1 x.2.1.2.2.2.1
theorem sum_Exact.ok : FcOk Try.prog 60 sum_Exact.c := mkOk sum_Exact.clsOk Try.func60 (by kernel_rfl) (by kernel_rfl) (by decide) (fun _ => rfl) (fun _ _ => rfl)
/- Entries of functions. -/
noncomputable def format_Zero.c : Fc := mkFc [hI .i64, hB] [hI .u32] (T := Int) (fun y => ((y, ()), ())) fun n x => format_Zero.f x.1.1 x.2.1.1
theorem format_Zero.ok : FcOk Try.prog 26 format_Zero.c := old_ok Try.func26 (by kernel_rfl) (by kernel_rfl) (by decide) (fun _ => giveR_ok (by decide) _) fun n x y h m w => (format_Zero.calls x.1.1 x.2.1.1 y w h).mono fun e w' he => ⟨he.1, he.2.below⟩
noncomputable def format_Widths.c : Fc := mkFc [hI .i64] [hI .i64, hI .i64] (T := Int × Int) (fun y => ((y.1, ()), (y.2, ()), ())) fun n x => format_Widths.f x.1.1
theorem format_Widths.ok : FcOk Try.prog 45 format_Widths.c := old_ok Try.func45 (by kernel_rfl) (by kernel_rfl) (by decide) (fun _ => giveR_ok (by decide) _) fun n x y h m w => (format_Widths.calls x.1.1 y.1 y.2 w h).mono fun e w' he => ⟨he.1, he.2.below⟩
noncomputable def round_Unit.c : Fc := mkFc [hI .i64, hI .i64, hI .u64] [hI .i64] (T := Int) (fun y => ((y, ()), ())) fun n x => round_Unit.f n x.1.1 x.2.1.1 x.2.2.1.1
theorem round_Unit.ok : FcOk Try.prog 50 round_Unit.c := old_ok Try.func50 (by kernel_rfl) (by kernel_rfl) (by decide) (fun _ => giveR_ok (by decide) _) fun n x y h m w => (round_Unit.calls n x.1.1 x.2.1.1 x.2.2.1.1 y w h).mono fun e w' he => ⟨he.1, he.2⟩
noncomputable def round_Units.c : Fc := mkFc [hI .u64, hI .i64, hB] [hI .u64, hI .i64] (T := Int × Int) (fun y => ((y.1, ()), (y.2, ()), ())) fun n x => round_Units.f n x.1.1 x.2.1.1 x.2.2.1.1
theorem round_Units.ok : FcOk Try.prog 51 round_Units.c := old_ok Try.func51 (by kernel_rfl) (by kernel_rfl) (by decide) (fun _ => giveR_ok (by decide) _) fun n x y h m w => (round_Units.calls n x.1.1 x.2.1.1 x.2.2.1.1 y.1 y.2 w h).mono fun e w' he => ⟨he.1, he.2.below⟩
noncomputable def round_Up.c : Fc := mkFc [hI .i64, hB, hI .u64, hI .i64] [hB] (T := Bool) (fun y => ((y, ()), ())) fun n x => round_Up.f x.1.1 x.2.1.1 x.2.2.1.1 x.2.2.2.1.1
theorem round_Up.ok : FcOk Try.prog 52 round_Up.c := old_ok Try.func52 (by kernel_rfl) (by kernel_rfl) (by decide) (fun _ => giveR_ok (by decide) _) fun n x y h m w => (round_Up.calls x.1.1 x.2.1.1 x.2.2.1.1 x.2.2.2.1.1 y w h).mono fun e w' he => ⟨he.1, he.2.below⟩
noncomputable def format_Least.c : Fc := mkFc [hI .i64] [hI .i64] (T := Int) (fun y => ((y, ()), ())) fun n x => format_Least.f x.1.1
theorem format_Least.ok : FcOk Try.prog 53 format_Least.c := old_ok Try.func53 (by kernel_rfl) (by kernel_rfl) (by decide) (fun _ => giveR_ok (by decide) _) fun n x y h m w => (format_Least.calls x.1.1 y w h).mono fun e w' he => ⟨he.1, he.2.below⟩
noncomputable def format_Top.c : Fc := mkFc [hI .i64] [hI .i64] (T := Int) (fun y => ((y, ()), ())) fun n x => format_Top.f x.1.1
theorem format_Top.ok : FcOk Try.prog 46 format_Top.c := old_ok Try.func46 (by kernel_rfl) (by kernel_rfl) (by decide) (fun _ => giveR_ok (by decide) _) fun n x y h m w => (format_Top.calls x.1.1 y w h).mono fun e w' he => ⟨he.1, he.2.below⟩
noncomputable def bits_Len.c : Fc := mkFc [hI .u64] [hI .i64] (T := Int) (fun y => ((y, ()), ())) fun n x => bits_Len.f n x.1.1
theorem bits_Len.ok : FcOk Try.prog 28 bits_Len.c := old_ok Try.func28 (by kernel_rfl) (by kernel_rfl) (by decide) (fun _ => giveR_ok (by decide) _) fun n x y h m w => (bits_Len.calls n x.1.1 y w h).mono fun e w' he => ⟨he.1, he.2.below⟩
noncomputable def bits_Cut.c : Fc := mkFc [hI .u64, hI .i64] [hI .u64] (T := Int) (fun y => ((y, ()), ())) fun n x => bits_Cut.f x.1.1 x.2.1.1
theorem bits_Cut.ok : FcOk Try.prog 55 bits_Cut.c := old_ok Try.func55 (by kernel_rfl) (by kernel_rfl) (by decide) (fun _ => giveR_ok (by decide) _) fun n x y h m w => (bits_Cut.calls x.1.1 x.2.1.1 y w h).mono fun e w' he => ⟨he.1, he.2.below⟩
noncomputable def format_Join.c : Fc := mkFc [hI .i64, hB, hI .i64, hI .u32] [hI .u32] (T := Int) (fun y => ((y, ()), ())) fun n x => format_Join.f x.1.1 x.2.1.1 x.2.2.1.1 x.2.2.2.1.1
theorem format_Join.ok : FcOk Try.prog 47 format_Join.c := old_ok Try.func47 (by kernel_rfl) (by kernel_rfl) (by decide) (fun _ => giveR_ok (by decide) _) fun n x y h m w => (format_Join.calls x.1.1 x.2.1.1 x.2.2.1.1 x.2.2.2.1.1 y w h).mono fun e w' he => ⟨he.1, he.2.below⟩
noncomputable def round_Pack.cls : Cls := [(26, format_Zero.c), (45, format_Widths.c), (50, round_Unit.c), (51, round_Units.c), (52, round_Up.c), (53, format_Least.c), (46, format_Top.c), (54, round_beyond.c), (28, bits_Len.c), (55, bits_Cut.c), (47, format_Join.c)]
theorem round_Pack.clsOk : ClsOk Try.prog round_Pack.cls := ClsOk.cons format_Zero.ok (ClsOk.cons format_Widths.ok (ClsOk.cons round_Unit.ok (ClsOk.cons round_Units.ok (ClsOk.cons round_Up.ok (ClsOk.cons format_Least.ok (ClsOk.cons format_Top.ok (ClsOk.cons round_beyond.ok (ClsOk.cons bits_Len.ok (ClsOk.cons bits_Cut.ok (ClsOk.cons format_Join.ok (ClsOk.nil)))))))))))
noncomputable def round_Pack.K (v : SV) : Option (Int × Bool × Bool × Bool × Bool × Bool) := (takeR [hI .u32, .agg [.b, .b, .b, .b, .b]] v).map (fun z => (z.1.1, z.2.1.1, z.2.1.2.1, z.2.1.2.2.1, z.2.1.2.2.2.1, z.2.1.2.2.2.2.1))
noncomputable def round_Pack.cuts : List Nat := [3, 9, 11, 14]
noncomputable def round_Pack.f (k : Nat) (a0 : Int) (a1 : Int) (a2 : Bool) (a3 : Int) (a4 : Int) (a5 : Bool) : Option (Int × Bool × Bool × Bool × Bool × Bool) := evF Try.prog round_Pack.cls Try.f30 round_Pack.cuts k [.one (.i .i64 (.x a0)), .one (.i .i64 (.x a1)), .one (.b (.q a2)), .one (.i .i64 (.x a3)), .one (.i .u64 (.x a4)), .one (.b (.q a5))] round_Pack.K
noncomputable def round_Pack.c : Fc := mkFc [hI .i64, hI .i64, hB, hI .i64, hI .u64, hB] [hI .u32, .agg [.b, .b, .b, .b, .b]] (T := Int × Bool × Bool × Bool × Bool × Bool) (fun y => ((y.1, ()), (y.2.1, y.2.2.1, y.2.2.2.1, y.2.2.2.2.1, y.2.2.2.2.2, ()), ())) fun n x => round_Pack.f n x.1.1 x.2.1.1 x.2.2.1.1 x.2.2.2.1.1 x.2.2.2.2.1.1 x.2.2.2.2.2.1.1
theorem round_Pack.ok : FcOk Try.prog 30 round_Pack.c := mkOk round_Pack.clsOk Try.func30 (by kernel_rfl) (by kernel_rfl) (by decide) (fun _ => rfl) (fun _ _ => rfl)
end Go.Proofs.Ytjlgmfgjleajfaa.L

-- Printed by a program of this session's out of Lean's print of the translation; Lean checks it.
namespace Go.Proofs.Ytjlgmfgjleajfaa.P
open Go.RowKit Go.Proofs.YtjlgmfgjleajfaaW.PrintWords Go.Proofs.YtjlgmfgjleajfaaW.PrintLast Go.Proofs.YtjlgmfgjleajfaaW.PrintMore
attribute [local go_sem] max2_int min2_int max_two min_two max_three min_three max_four min_four

-- NEED 0
/-! ### format_IsInf: function 57 -/
def format_IsInf.f (k : Nat) (a0 : Int) (a1 : Int) : Option (Bool) := (format_Class.f k a0 a1).bind fun t258 => (some (t258 == 3))
theorem format_IsInf.mono : ∀ a0 a1 k, LeO (format_IsInf.f k a0 a1) (format_IsInf.f (k + 1) a0 a1) := by
 intro a0 a1 k
 unfold format_IsInf.f
 repeat' first
   |(with_reducible exact format_Class.mono _ _ _)
   |(with_reducible exact LeO.refl _)
   |(with_reducible exact LeO.none _)
   |(with_reducible refine LeO.ite ?_ ?_)
   |(with_reducible refine LeO.bind ?_ (fun _ => ?_))
   |exact format_Class.mono _ _ _
   |exact LeO.none _
   |refine LeO.ite ?_ ?_
   |refine LeO.bind ?_ (fun _ => ?_)
set_option maxHeartbeats 8000000 in
set_option maxRecDepth 100000 in
theorem format_IsInf.calls (k : Nat) (a0 : Int) (a1 : Int) (r : Bool) (w : World) (h : format_IsInf.f k a0 a1 = some r) :
  Calls Try.prog 57 #[.int .i64 a0, .int .u32 a1] w fun e w' => e = .returned (.bool r) ∧ Drawn0 w w' := by
 have H : ((format_Class.f k a0 a1).bind fun t258 => (some (t258 == 3))) = some r := h
 clear h
 replace H := Option.bind_eq_some_iff.mp H
 obtain ⟨t258, A30, H⟩ := H
 replace H : (some (t258 == 3)) = some r := H
 have A3 := Aside0.mk A30
 clear A30
 obtain rfl := Option.some.inj H
 go_enter Try.func57, Try.ntmps57
 go_wp2_with (first | ((with_reducible refine gate_callee (f := 23) rfl ?_); refine goesL_ (some 7) rfl rfl Try.func23 (by kernel_rfl) rfl #[.int .i64 a0, .int .u32 a1] rfl gl ?_; (with_reducible refine (format_Class.calls k a0 a1 t258 _ A3.out).mono ?_); rintro e w' ⟨rfl, ⟨nd, rfl⟩⟩; refine ⟨_, rfl, ?_⟩))
 go_ret
 exact ⟨by first | rfl | (simp; done) | (simp [*]; done) | (congr 1; (try unfold wrap64); omega) | (congr 1; rw [IntKind.wrap_u64]; omega), by repeat (first | exact Drawn0.refl _ | apply Drawn0.step)⟩

-- NEED 0
/-! ### format_IsZero: function 69 -/
def format_IsZero.f (k : Nat) (a0 : Int) (a1 : Int) : Option (Bool) := (format_Class.f k a0 a1).bind fun t259 => (some (t259 == 0))
theorem format_IsZero.mono : ∀ a0 a1 k, LeO (format_IsZero.f k a0 a1) (format_IsZero.f (k + 1) a0 a1) := by
 intro a0 a1 k
 unfold format_IsZero.f
 repeat' first
   |(with_reducible exact format_Class.mono _ _ _)
   |(with_reducible exact LeO.refl _)
   |(with_reducible exact LeO.none _)
   |(with_reducible refine LeO.ite ?_ ?_)
   |(with_reducible refine LeO.bind ?_ (fun _ => ?_))
   |exact format_Class.mono _ _ _
   |exact LeO.none _
   |refine LeO.ite ?_ ?_
   |refine LeO.bind ?_ (fun _ => ?_)
set_option maxHeartbeats 8000000 in
set_option maxRecDepth 100000 in
theorem format_IsZero.calls (k : Nat) (a0 : Int) (a1 : Int) (r : Bool) (w : World) (h : format_IsZero.f k a0 a1 = some r) :
  Calls Try.prog 69 #[.int .i64 a0, .int .u32 a1] w fun e w' => e = .returned (.bool r) ∧ Drawn0 w w' := by
 have H : ((format_Class.f k a0 a1).bind fun t259 => (some (t259 == 0))) = some r := h
 clear h
 replace H := Option.bind_eq_some_iff.mp H
 obtain ⟨t259, A30, H⟩ := H
 replace H : (some (t259 == 0)) = some r := H
 have A3 := Aside0.mk A30
 clear A30
 obtain rfl := Option.some.inj H
 go_enter Try.func69, Try.ntmps69
 go_wp2_with (first | ((with_reducible refine gate_callee (f := 23) rfl ?_); refine goesL_ (some 7) rfl rfl Try.func23 (by kernel_rfl) rfl #[.int .i64 a0, .int .u32 a1] rfl gl ?_; (with_reducible refine (format_Class.calls k a0 a1 t259 _ A3.out).mono ?_); rintro e w' ⟨rfl, ⟨nd, rfl⟩⟩; refine ⟨_, rfl, ?_⟩))
 go_ret
 exact ⟨by first | rfl | (simp; done) | (simp [*]; done) | (congr 1; (try unfold wrap64); omega) | (congr 1; rw [IntKind.wrap_u64]; omega), by repeat (first | exact Drawn0.refl _ | apply Drawn0.step)⟩

-- NEED 0
/-! ### prod_torn: function 56 -/
def prod_torn.f (k : Nat) (a0 : Int) (a1 : Int) (a2 : Int) : Option (Bool) := (format_IsZero.f k a0 a1).bind fun t260 => (if t260 = true then ((format_IsInf.f k a0 a2).bind fun t261 => (if t261 = true then (some true) else ((format_IsInf.f k a0 a1).bind fun t262 => (if t262 = true then ((format_IsZero.f k a0 a2).bind fun t263 => (some t263)) else (some false))))) else ((format_IsInf.f k a0 a1).bind fun t264 => (if t264 = true then ((format_IsZero.f k a0 a2).bind fun t265 => (some t265)) else (some false))))
theorem prod_torn.mono : ∀ a0 a1 a2 k, LeO (prod_torn.f k a0 a1 a2) (prod_torn.f (k + 1) a0 a1 a2) := by
 intro a0 a1 a2 k
 unfold prod_torn.f
 repeat' first
   |(with_reducible exact format_IsInf.mono _ _ _)
   |(with_reducible exact format_IsZero.mono _ _ _)
   |(with_reducible exact LeO.refl _)
   |(with_reducible exact LeO.none _)
   |(with_reducible refine LeO.ite ?_ ?_)
   |(with_reducible refine LeO.bind ?_ (fun _ => ?_))
   |exact format_IsInf.mono _ _ _
   |exact format_IsZero.mono _ _ _
   |exact LeO.none _
   |refine LeO.ite ?_ ?_
   |refine LeO.bind ?_ (fun _ => ?_)
set_option maxHeartbeats 8000000 in
set_option maxRecDepth 100000 in
theorem prod_torn.calls (k : Nat) (a0 : Int) (a1 : Int) (a2 : Int) (r : Bool) (w : World) (h : prod_torn.f k a0 a1 a2 = some r) :
  Calls Try.prog 56 #[.int .i64 a0, .int .u32 a1, .int .u32 a2] w fun e w' => e = .returned (.bool r) ∧ Drawn0 w w' := by
 have H : ((format_IsZero.f k a0 a1).bind fun t260 => (if t260 = true then ((format_IsInf.f k a0 a2).bind fun t261 => (if t261 = true then (some true) else ((format_IsInf.f k a0 a1).bind fun t262 => (if t262 = true then ((format_IsZero.f k a0 a2).bind fun t263 => (some t263)) else (some false))))) else ((format_IsInf.f k a0 a1).bind fun t264 => (if t264 = true then ((format_IsZero.f k a0 a2).bind fun t265 => (some t265)) else (some false))))) = some r := h
 clear h
 replace H := Option.bind_eq_some_iff.mp H
 obtain ⟨t260, A40, H⟩ := H
 replace H : (if t260 = true then ((format_IsInf.f k a0 a2).bind fun t261 => (if t261 = true then (some true) else ((format_IsInf.f k a0 a1).bind fun t262 => (if t262 = true then ((format_IsZero.f k a0 a2).bind fun t263 => (some t263)) else (some false))))) else ((format_IsInf.f k a0 a1).bind fun t264 => (if t264 = true then ((format_IsZero.f k a0 a2).bind fun t265 => (some t265)) else (some false)))) = some r := H
 have A4 := Aside0.mk A40
 clear A40
 by_cases c5 : t260 = true
 ·subst c5
  have H1 : ((format_IsInf.f k a0 a2).bind fun t261 => (if t261 = true then (some true) else ((format_IsInf.f k a0 a1).bind fun t262 => (if t262 = true then ((format_IsZero.f k a0 a2).bind fun t263 => (some t263)) else (some false))))) = some r := by rw [if_pos rfl] at H; exact H
  clear H
  have H := H1
  clear H1
  replace H := Option.bind_eq_some_iff.mp H
  obtain ⟨t261, A60, H⟩ := H
  replace H : (if t261 = true then (some true) else ((format_IsInf.f k a0 a1).bind fun t262 => (if t262 = true then ((format_IsZero.f k a0 a2).bind fun t263 => (some t263)) else (some false)))) = some r := H
  have A6 := Aside0.mk A60
  clear A60
  by_cases c7 : t261 = true
  ·subst c7
   have H1 : (some true) = some r := by rw [if_pos rfl] at H; exact H
   clear H
   have H := H1
   clear H1
   obtain rfl := Option.some.inj H
   go_enter Try.func56, Try.ntmps56
   go_wp2_with (first | ((with_reducible refine gate_callee (f := 69) rfl ?_); refine goesL_ (some 9) rfl rfl Try.func69 (by kernel_rfl) rfl #[.int .i64 a0, .int .u32 a1] rfl gl ?_; (with_reducible refine (format_IsZero.calls k a0 a1 true _ A4.out).mono ?_); rintro e w' ⟨rfl, ⟨nd, rfl⟩⟩; refine ⟨_, rfl, ?_⟩) | (go_at_call 57; (with_reducible refine (format_IsInf.calls k a0 a2 true _ A6.out).mono ?_); rintro e w' ⟨rfl, ⟨nd, rfl⟩⟩))
   go_ret
   exact ⟨by first | rfl | (simp; done) | (simp [*]; done) | (congr 1; (try unfold wrap64); omega) | (congr 1; rw [IntKind.wrap_u64]; omega), by repeat (first | exact Drawn0.refl _ | apply Drawn0.step)⟩
  ·replace c7 := Bool.eq_false_iff.mpr c7
   subst c7
   have H1 : ((format_IsInf.f k a0 a1).bind fun t262 => (if t262 = true then ((format_IsZero.f k a0 a2).bind fun t263 => (some t263)) else (some false))) = some r := by rw [if_neg (show ¬ (false = true) by decide)] at H; exact H
   clear H
   have H := H1
   clear H1
   replace H := Option.bind_eq_some_iff.mp H
   obtain ⟨t262, A80, H⟩ := H
   replace H : (if t262 = true then ((format_IsZero.f k a0 a2).bind fun t263 => (some t263)) else (some false)) = some r := H
   have A8 := Aside0.mk A80
   clear A80
   by_cases c9 : t262 = true
   ·subst c9
    have H1 : ((format_IsZero.f k a0 a2).bind fun t263 => (some t263)) = some r := by rw [if_pos rfl] at H; exact H
    clear H
    have H := H1
    clear H1
    replace H := Option.bind_eq_some_iff.mp H
    obtain ⟨t263, A100, H⟩ := H
    replace H : (some t263) = some r := H
    have A10 := Aside0.mk A100
    clear A100
    obtain rfl := Option.some.inj H
    go_enter Try.func56, Try.ntmps56
    go_wp2_with (first | ((with_reducible refine gate_callee (f := 69) rfl ?_); refine goesL_ (some 9) rfl rfl Try.func69 (by kernel_rfl) rfl #[.int .i64 a0, .int .u32 a1] rfl gl ?_; (with_reducible refine (format_IsZero.calls k a0 a1 true _ A4.out).mono ?_); rintro e w' ⟨rfl, ⟨nd, rfl⟩⟩; refine ⟨_, rfl, ?_⟩) | (go_at_call 57; (with_reducible refine (format_IsInf.calls k a0 a2 false _ A6.out).mono ?_); rintro e w' ⟨rfl, ⟨nd, rfl⟩⟩) | (go_at_call 57; (with_reducible refine (format_IsInf.calls k a0 a1 true _ A8.out).mono ?_); rintro e w' ⟨rfl, ⟨nd, rfl⟩⟩) | (go_at_call 69; (with_reducible refine (format_IsZero.calls k a0 a2 t263 _ A10.out).mono ?_); rintro e w' ⟨rfl, ⟨nd, rfl⟩⟩))
    go_ret
    exact ⟨by first | rfl | (simp; done) | (simp [*]; done) | (congr 1; (try unfold wrap64); omega) | (congr 1; rw [IntKind.wrap_u64]; omega), by repeat (first | exact Drawn0.refl _ | apply Drawn0.step)⟩
   ·replace c9 := Bool.eq_false_iff.mpr c9
    subst c9
    have H1 : (some false) = some r := by rw [if_neg (show ¬ (false = true) by decide)] at H; exact H
    clear H
    have H := H1
    clear H1
    obtain rfl := Option.some.inj H
    go_enter Try.func56, Try.ntmps56
    go_wp2_with (first | ((with_reducible refine gate_callee (f := 69) rfl ?_); refine goesL_ (some 9) rfl rfl Try.func69 (by kernel_rfl) rfl #[.int .i64 a0, .int .u32 a1] rfl gl ?_; (with_reducible refine (format_IsZero.calls k a0 a1 true _ A4.out).mono ?_); rintro e w' ⟨rfl, ⟨nd, rfl⟩⟩; refine ⟨_, rfl, ?_⟩) | (go_at_call 57; (with_reducible refine (format_IsInf.calls k a0 a2 false _ A6.out).mono ?_); rintro e w' ⟨rfl, ⟨nd, rfl⟩⟩) | (go_at_call 57; (with_reducible refine (format_IsInf.calls k a0 a1 false _ A8.out).mono ?_); rintro e w' ⟨rfl, ⟨nd, rfl⟩⟩))
    go_ret
    exact ⟨by first | rfl | (simp; done) | (simp [*]; done) | (congr 1; (try unfold wrap64); omega) | (congr 1; rw [IntKind.wrap_u64]; omega), by repeat (first | exact Drawn0.refl _ | apply Drawn0.step)⟩
 ·replace c5 := Bool.eq_false_iff.mpr c5
  subst c5
  have H1 : ((format_IsInf.f k a0 a1).bind fun t264 => (if t264 = true then ((format_IsZero.f k a0 a2).bind fun t265 => (some t265)) else (some false))) = some r := by rw [if_neg (show ¬ (false = true) by decide)] at H; exact H
  clear H
  have H := H1
  clear H1
  replace H := Option.bind_eq_some_iff.mp H
  obtain ⟨t264, A110, H⟩ := H
  replace H : (if t264 = true then ((format_IsZero.f k a0 a2).bind fun t265 => (some t265)) else (some false)) = some r := H
  have A11 := Aside0.mk A110
  clear A110
  by_cases c12 : t264 = true
  ·subst c12
   have H1 : ((format_IsZero.f k a0 a2).bind fun t265 => (some t265)) = some r := by rw [if_pos rfl] at H; exact H
   clear H
   have H := H1
   clear H1
   replace H := Option.bind_eq_some_iff.mp H
   obtain ⟨t265, A130, H⟩ := H
   replace H : (some t265) = some r := H
   have A13 := Aside0.mk A130
   clear A130
   obtain rfl := Option.some.inj H
   go_enter Try.func56, Try.ntmps56
   go_wp2_with (first | ((with_reducible refine gate_callee (f := 69) rfl ?_); refine goesL_ (some 9) rfl rfl Try.func69 (by kernel_rfl) rfl #[.int .i64 a0, .int .u32 a1] rfl gl ?_; (with_reducible refine (format_IsZero.calls k a0 a1 false _ A4.out).mono ?_); rintro e w' ⟨rfl, ⟨nd, rfl⟩⟩; refine ⟨_, rfl, ?_⟩) | (go_at_call 57; (with_reducible refine (format_IsInf.calls k a0 a1 true _ A11.out).mono ?_); rintro e w' ⟨rfl, ⟨nd, rfl⟩⟩) | (go_at_call 69; (with_reducible refine (format_IsZero.calls k a0 a2 t265 _ A13.out).mono ?_); rintro e w' ⟨rfl, ⟨nd, rfl⟩⟩))
   go_ret
   exact ⟨by first | rfl | (simp; done) | (simp [*]; done) | (congr 1; (try unfold wrap64); omega) | (congr 1; rw [IntKind.wrap_u64]; omega), by repeat (first | exact Drawn0.refl _ | apply Drawn0.step)⟩
  ·replace c12 := Bool.eq_false_iff.mpr c12
   subst c12
   have H1 : (some false) = some r := by rw [if_neg (show ¬ (false = true) by decide)] at H; exact H
   clear H
   have H := H1
   clear H1
   obtain rfl := Option.some.inj H
   go_enter Try.func56, Try.ntmps56
   go_wp2_with (first | ((with_reducible refine gate_callee (f := 69) rfl ?_); refine goesL_ (some 9) rfl rfl Try.func69 (by kernel_rfl) rfl #[.int .i64 a0, .int .u32 a1] rfl gl ?_; (with_reducible refine (format_IsZero.calls k a0 a1 false _ A4.out).mono ?_); rintro e w' ⟨rfl, ⟨nd, rfl⟩⟩; refine ⟨_, rfl, ?_⟩) | (go_at_call 57; (with_reducible refine (format_IsInf.calls k a0 a1 false _ A11.out).mono ?_); rintro e w' ⟨rfl, ⟨nd, rfl⟩⟩))
   go_ret
   exact ⟨by first | rfl | (simp; done) | (simp [*]; done) | (congr 1; (try unfold wrap64); omega) | (congr 1; rw [IntKind.wrap_u64]; omega), by repeat (first | exact Drawn0.refl _ | apply Drawn0.step)⟩

-- NEED 0
/-! ### prod_product: function 58 -/
def prod_product.f (a0 : Int) (a1 : Int) (a2 : Int) : Option (Bool × Int × Int × Bool) := (sum_Of.f a0 a1).bind fun bt267 => ((sum_Of.f a0 a2).bind fun bt271 => (some ((bt267.1 != bt271.1), wrap64 (bt267.2.1 + bt271.2.1), IntKind.u64.wrap (bt267.2.2.1 * bt271.2.2.1), false)))
set_option maxHeartbeats 8000000 in
set_option maxRecDepth 100000 in
theorem prod_product.calls (a0 : Int) (a1 : Int) (a2 : Int) (r1 : Bool) (r2 : Int) (r3 : Int) (r4 : Bool) (w : World) (h : prod_product.f a0 a1 a2 = some (r1, r2, r3, r4)) :
  Calls Try.prog 58 #[.int .i64 a0, .int .u32 a1, .int .u32 a2] w fun e w' => e = .returned (.agg #[.bool r1, .int .i64 r2, .int .u64 r3, .bool r4]) ∧ Below w.heap.size w w' := by
 have hu51 := Try.underlying51
 have HB := Aside0.mk (Below.refl w.heap.size w)
 have H : ((sum_Of.f a0 a1).bind fun bt267 => ((sum_Of.f a0 a2).bind fun bt271 => (some ((bt267.1 != bt271.1), wrap64 (bt267.2.1 + bt271.2.1), IntKind.u64.wrap (bt267.2.2.1 * bt271.2.2.1), false)))) = some (r1, r2, r3, r4) := h
 clear h
 replace H := Option.bind_eq_some_iff.mp H
 obtain ⟨⟨t267, t268, t269, t270⟩, A40, H⟩ := H
 replace H : ((sum_Of.f a0 a2).bind fun bt271 => (some ((t267 != bt271.1), wrap64 (t268 + bt271.2.1), IntKind.u64.wrap (t269 * bt271.2.2.1), false))) = some (r1, r2, r3, r4) := H
 have A4 := Aside0.mk A40
 clear A40
 replace H := Option.bind_eq_some_iff.mp H
 obtain ⟨⟨t271, t272, t273, t274⟩, A50, H⟩ := H
 replace H : (some ((t267 != t271), wrap64 (t268 + t272), IntKind.u64.wrap (t269 * t273), false)) = some (r1, r2, r3, r4) := H
 have A5 := Aside0.mk A50
 clear A50
 simp only [Option.some.injEq, Prod.mk.injEq] at H
 obtain ⟨rfl, rfl, rfl, rfl⟩ := H
 go_enter Try.func58, Try.ntmps58
 go_wp2_with (first | ((with_reducible refine gate_dst (N := 6) rfl ?_); refine box_event ?hg (N := 6) ?hd (cs := #[.bool false, .int .i64 0, .int .u64 0, .bool false]) (t := 51) ?hr ?_; (case hd => rfl); (case hg => rfl); (case hr => first | (go_simp; done) | (go_simp; rfl)); intro gb266 hg w6 hbox hb; have n0_ := Aside0.mk (below_step (bl0 HB.out) hb); have n1_ := Aside0.mk (hbox); have n2_ := Aside0.mk ((by rw [hg]; exact (below_size (bl0 HB.out)) : w.heap.size ≤ gb266)); have n3_ := n2_; clear HB; have HB := n0_; have BK266 := n1_; have GW266 := n2_; have GE266 := n3_; clear n0_ n1_ n2_ n3_; clear hb hbox hg) | ((with_reducible refine gate_callee (f := 27) rfl ?_); refine goesL_ (some 11) rfl rfl Try.func27 (by kernel_rfl) rfl #[.int .i64 a0, .int .u32 a1] rfl gl ?_; (with_reducible refine (sum_Of.calls a0 a1 t267 t268 t269 t270 _ A4.out).mono ?_); rintro e w7 ⟨rfl, hb⟩; refine ⟨_, rfl, ?_⟩; have n0_ := Aside0.mk (blk_below (g := gb266) (o := .cells #[.bool false, .int .i64 0, .int .u64 0, .bool false] 51 (0, 0)) (bv BK266.out) hb); have n1_ := Aside0.mk (below_step (bl1 HB.out GE266.out) hb); clear BK266; clear HB; have BK266 := n0_; have HB := n1_; clear n0_ n1_) | ((with_reducible refine gate_callee (f := 27) rfl ?_); refine goesL_ (some 14) rfl rfl Try.func27 (by kernel_rfl) rfl #[.int .i64 a0, .int .u32 a2] rfl gl ?_; (with_reducible refine (sum_Of.calls a0 a2 t271 t272 t273 t274 _ A5.out).mono ?_); rintro e w8 ⟨rfl, hb⟩; refine ⟨_, rfl, ?_⟩; have n0_ := Aside0.mk (blk_below (g := gb266) (o := .cells #[.bool false, .int .i64 0, .int .u64 0, .bool false] 51 (0, 0)) (bv BK266.out) hb); have n1_ := Aside0.mk (below_step (bl1 HB.out GE266.out) hb); clear BK266; clear HB; have BK266 := n0_; have HB := n1_; clear n0_ n1_) | ((with_reducible refine gate_dst (N := 7) rfl ?_); refine box_event ?hg (N := 7) ?hd (cs := #[.bool false, .int .i64 0, .int .u64 0, .bool false]) (t := 51) ?hr ?_; (case hd => rfl); (case hg => rfl); (case hr => first | (go_simp; done) | (go_simp; rfl)); intro gb275 hg w9 hbox hb; have n0_ := Aside0.mk (blk_below (g := gb266) (o := .cells #[.bool false, .int .i64 0, .int .u64 0, .bool false] 51 (0, 0)) (bv BK266.out) hb); have n1_ := Aside0.mk (below_step (bl1 HB.out GE266.out) hb); have n2_ := Aside0.mk (hbox); have n3_ := Aside0.mk ((by rw [hg]; exact (below_size (bl1 HB.out GE266.out)) : w.heap.size ≤ gb275)); have n4_ := n3_; have n5_ := Aside0.mk ((by rw [hg]; exact Nat.ne_of_lt (blk_lt (g := gb266) (o := .cells #[.bool false, .int .i64 0, .int .u64 0, .bool false] 51 (0, 0)) (bv BK266.out)) : gb266 ≠ gb275)); have n6_ := Aside0.mk (Ne.symm n5_.out); clear BK266; clear HB; have BK266 := n0_; have HB := n1_; have BK275 := n2_; have GW275 := n3_; have GE275 := n4_; have NB266_275 := n5_; have NB275_266 := n6_; clear n0_ n1_ n2_ n3_ n4_ n5_ n6_; clear hb hbox hg) | ((with_reducible refine gate_dst (N := 8) rfl ?_); refine box_event ?hg (N := 8) ?hd (cs := #[.bool false, .int .i64 0, .int .u64 0, .bool false]) (t := 51) ?hr ?_; (case hd => rfl); (case hg => rfl); (case hr => first | (go_simp; done) | (go_simp; rfl)); intro gb276 hg w10 hbox hb; have n0_ := Aside0.mk (blk_below (g := gb266) (o := .cells #[.bool false, .int .i64 0, .int .u64 0, .bool false] 51 (0, 0)) (bv BK266.out) hb); have n1_ := Aside0.mk (blk_below (g := gb275) (o := .cells #[.bool false, .int .i64 0, .int .u64 0, .bool false] 51 (0, 0)) (bv BK275.out) hb); have n2_ := Aside0.mk (below_step (bl2 HB.out GE266.out GE275.out) hb); have n3_ := Aside0.mk (hbox); have n4_ := Aside0.mk ((by rw [hg]; exact (below_size (bl2 HB.out GE266.out GE275.out)) : w.heap.size ≤ gb276)); have n5_ := n4_; have n6_ := Aside0.mk ((by rw [hg]; exact Nat.ne_of_lt (blk_lt (g := gb266) (o := .cells #[.bool false, .int .i64 0, .int .u64 0, .bool false] 51 (0, 0)) (bv BK266.out)) : gb266 ≠ gb276)); have n7_ := Aside0.mk (Ne.symm n6_.out); have n8_ := Aside0.mk ((by rw [hg]; exact Nat.ne_of_lt (blk_lt (g := gb275) (o := .cells #[.bool false, .int .i64 0, .int .u64 0, .bool false] 51 (0, 0)) (bv BK275.out)) : gb275 ≠ gb276)); have n9_ := Aside0.mk (Ne.symm n8_.out); clear BK266; clear BK275; clear HB; have BK266 := n0_; have BK275 := n1_; have HB := n2_; have BK276 := n3_; have GW276 := n4_; have GE276 := n5_; have NB266_276 := n6_; have NB276_266 := n7_; have NB275_276 := n8_; have NB276_275 := n9_; clear n0_ n1_ n2_ n3_ n4_ n5_ n6_ n7_ n8_ n9_; clear hb hbox hg; have hnb11 := NB275_266.out; have hnc11 := NB266_275.out; have hnb12 := NB275_276.out; have hnc12 := NB276_275.out; obtain ⟨hcz13_0, hcz13_1, hcz13_2, hcz13_3⟩ := bc4 BK275.out; obtain ⟨hfz13_0, hfz13_1, hfz13_2, hfz13_3⟩ := bf4 BK275.out; have hnb14 := NB276_266.out; have hnc14 := NB266_276.out; obtain ⟨hcz15_0, hcz15_1, hcz15_2, hcz15_3⟩ := bc4 BK276.out; obtain ⟨hfz15_0, hfz15_1, hfz15_2, hfz15_3⟩ := bf4 BK276.out; obtain ⟨hcz16_0, hcz16_1, hcz16_2, hcz16_3⟩ := bc4 BK266.out; obtain ⟨hfz16_0, hfz16_1, hfz16_2, hfz16_3⟩ := bf4 BK266.out))
 refine bodyPost_ret (results_cell_row rfl _ _ gb266 51 #[.bool (t267 != t271), .int .i64 (wrap64 (t268 + t272)), .int .u64 (IntKind.u64.wrap (t269 * t273)), .bool false] (0, 0) _ rfl (by (with_reducible repeat first | apply bd | apply be | apply ba); refine blk_put (cs := #[.bool (t267 != t271), .int .i64 (wrap64 (t268 + t272)), .int .u64 (IntKind.u64.wrap (t269 * t273)), .bool false]) ?_ 3 _ rfl; (with_reducible repeat first | apply bd | apply be | apply ba); refine blk_put (cs := #[.bool (t267 != t271), .int .i64 (wrap64 (t268 + t272)), .int .u64 0, .bool false]) ?_ 2 _ rfl; (with_reducible repeat first | apply bd | apply be | apply ba); refine blk_put (cs := #[.bool (t267 != t271), .int .i64 0, .int .u64 0, .bool false]) ?_ 1 _ rfl; (with_reducible repeat first | apply bd | apply be | apply ba); refine blk_put (cs := #[.bool false, .int .i64 0, .int .u64 0, .bool false]) ?_ 0 _ rfl; (with_reducible repeat first | apply bd | apply be | apply ba); refine blk_far ?_ NB266_276.out _; (with_reducible repeat first | apply bd | apply be | apply ba); refine blk_far ?_ NB266_276.out _; (with_reducible repeat first | apply bd | apply be | apply ba); refine blk_far ?_ NB266_276.out _; (with_reducible repeat first | apply bd | apply be | apply ba); refine blk_far ?_ NB266_276.out _; (with_reducible repeat first | apply bd | apply be | apply ba); refine blk_far ?_ NB266_275.out _; (with_reducible repeat first | apply bd | apply be | apply ba); refine blk_far ?_ NB266_275.out _; (with_reducible repeat first | apply bd | apply be | apply ba); refine blk_far ?_ NB266_275.out _; (with_reducible repeat first | apply bd | apply be | apply ba); refine blk_far ?_ NB266_275.out _; (with_reducible repeat first | apply bd | apply be | apply ba); exact BK266.out) Try.underlying51 rfl (by kernel_rfl)) rfl ?_
 exact ⟨by first | rfl | (simp [errW_none, errW_some] <;> rfl) | (simp [*, errW_none, errW_some] <;> rfl), bl3 HB.out GE266.out GE275.out GE276.out⟩

end Go.Proofs.Ytjlgmfgjleajfaa.P

/- Entries of functions. -/
namespace Go.Proofs.Ytjlgmfgjleajfaa.L
open Go.RowKit Go.Proofs.Ytjlgmfgjleajfaa.P Go.Proofs.Ytjlgmfgjleajfaa.Ek Go.Proofs.YtjlgmfgjleajfaaW.PrintWords Go.Proofs.YtjlgmfgjleajfaaW.PrintLast Go.Proofs.YtjlgmfgjleajfaaW.PrintMore
noncomputable def sum_Nans.c : Fc := mkFcA [.s (hI .i64), .sl .u32] [hI .u32, .agg [.b, .b, .b, .b, .b], hB] (T := Int × Bool × Bool × Bool × Bool × Bool × Bool) (fun y => ((y.1, ()), (y.2.1, y.2.2.1, y.2.2.2.1, y.2.2.2.2.1, y.2.2.2.2.2.1, ()), (y.2.2.2.2.2.2, ()), ())) fun n x => sum_Nans.f n x.1.1 x.2.1
theorem sum_Nans.ok : FcOk Try.prog 21 sum_Nans.c := oldA_ok Try.func21 (by kernel_rfl) (by kernel_rfl) (by decide) (fun _ => giveR_ok (by decide) _) fun n x y h m w vs ha => by obtain ⟨q0, e0, ha⟩ := ha; subst e0; obtain ⟨A1, c1, q1, e1, R1, D1, ha⟩ := ha; subst e1; subst ha; exact (sum_Nans.calls n x.1.1 A1 c1 x.2.1 y.1 y.2.1 y.2.2.1 y.2.2.2.1 y.2.2.2.2.1 y.2.2.2.2.2.1 y.2.2.2.2.2.2 w R1 D1 h).mono fun e w' he => ⟨he.1, he.2⟩
noncomputable def format_Neg.c : Fc := mkFc [hI .i64, hI .u32] [hB] (T := Bool) (fun y => ((y, ()), ())) fun n x => format_Neg.f x.1.1 x.2.1.1
theorem format_Neg.ok : FcOk Try.prog 22 format_Neg.c := old_ok Try.func22 (by kernel_rfl) (by kernel_rfl) (by decide) (fun _ => giveR_ok (by decide) _) fun n x y h m w => (format_Neg.calls x.1.1 x.2.1.1 y w h).mono fun e w' he => ⟨he.1, he.2.below⟩
noncomputable def format_Class.c : Fc := mkFc [hI .i64, hI .u32] [hI .i64] (T := Int) (fun y => ((y, ()), ())) fun n x => format_Class.f n x.1.1 x.2.1.1
theorem format_Class.ok : FcOk Try.prog 23 format_Class.c := old_ok Try.func23 (by kernel_rfl) (by kernel_rfl) (by decide) (fun _ => giveR_ok (by decide) _) fun n x y h m w => (format_Class.calls n x.1.1 x.2.1.1 y w h).mono fun e w' he => ⟨he.1, he.2.below⟩
noncomputable def sum_Bad.c : Fc := mkFc [hI .i64] [hI .u32, .agg [.b, .b, .b, .b, .b]] (T := Int × Bool × Bool × Bool × Bool × Bool) (fun y => ((y.1, ()), (y.2.1, y.2.2.1, y.2.2.2.1, y.2.2.2.2.1, y.2.2.2.2.2, ()), ())) fun n x => sum_Bad.f x.1.1
theorem sum_Bad.ok : FcOk Try.prog 24 sum_Bad.c := old_ok Try.func24 (by kernel_rfl) (by kernel_rfl) (by decide) (fun _ => giveR_ok (by decide) _) fun n x y h m w => (sum_Bad.calls x.1.1 y.1 y.2.1 y.2.2.1 y.2.2.2.1 y.2.2.2.2.1 y.2.2.2.2.2 w h).mono fun e w' he => ⟨he.1, he.2⟩
noncomputable def sum_Of.c : Fc := mkFc [hI .i64, hI .u32] [.agg [.b, .i .i64, .i .u64, .b]] (T := Bool × Int × Int × Bool) (fun y => ((y.1, y.2.1, y.2.2.1, y.2.2.2, ()), ())) fun n x => sum_Of.f x.1.1 x.2.1.1
theorem sum_Of.ok : FcOk Try.prog 27 sum_Of.c := old_ok Try.func27 (by kernel_rfl) (by kernel_rfl) (by decide) (fun _ => giveR_ok (by decide) _) fun n x y h m w => (sum_Of.calls x.1.1 x.2.1.1 y.1 y.2.1 y.2.2.1 y.2.2.2 w h).mono fun e w' he => ⟨he.1, he.2⟩
noncomputable def quot_Div.cls : Cls := [(21, sum_Nans.c), (22, format_Neg.c), (23, format_Class.c), (24, sum_Bad.c), (25, format_Inf.c), (26, format_Zero.c), (27, sum_Of.c), (28, bits_Len.c), (29, bits_Shift.c), (30, round_Pack.c)]
theorem quot_Div.clsOk : ClsOk Try.prog quot_Div.cls := ClsOk.cons sum_Nans.ok (ClsOk.cons format_Neg.ok (ClsOk.cons format_Class.ok (ClsOk.cons sum_Bad.ok (ClsOk.cons format_Inf.ok (ClsOk.cons format_Zero.ok (ClsOk.cons sum_Of.ok (ClsOk.cons bits_Len.ok (ClsOk.cons bits_Shift.ok (ClsOk.cons round_Pack.ok (ClsOk.nil))))))))))
noncomputable def quot_Div.K (v : SV) : Option (Int × Bool × Bool × Bool × Bool × Bool) := (takeR [hI .u32, .agg [.b, .b, .b, .b, .b]] v).map (fun z => (z.1.1, z.2.1.1, z.2.1.2.1, z.2.1.2.2.1, z.2.1.2.2.2.1, z.2.1.2.2.2.2.1))
noncomputable def quot_Div.cuts : List Nat := [7, 11]
noncomputable def quot_Div.f (k : Nat) (a0 : Int) (a1 : Int) (a2 : Int) (a3 : Int) : Option (Int × Bool × Bool × Bool × Bool × Bool) := evF Try.prog quot_Div.cls Try.f13 quot_Div.cuts k [.one (.i .i64 (.x a0)), .one (.i .i64 (.x a1)), .one (.i .u32 (.x a2)), .one (.i .u32 (.x a3))] quot_Div.K
noncomputable def quot_Div.c : Fc := mkFc [hI .i64, hI .i64, hI .u32, hI .u32] [hI .u32, .agg [.b, .b, .b, .b, .b]] (T := Int × Bool × Bool × Bool × Bool × Bool) (fun y => ((y.1, ()), (y.2.1, y.2.2.1, y.2.2.2.1, y.2.2.2.2.1, y.2.2.2.2.2, ()), ())) fun n x => quot_Div.f n x.1.1 x.2.1.1 x.2.2.1.1 x.2.2.2.1.1
theorem quot_Div.ok : FcOk Try.prog 13 quot_Div.c := mkOk quot_Div.clsOk Try.func13 (by kernel_rfl) (by kernel_rfl) (by decide) (fun _ => rfl) (fun _ _ => rfl)
noncomputable def prod_torn.c : Fc := mkFc [hI .i64, hI .u32, hI .u32] [hB] (T := Bool) (fun y => ((y, ()), ())) fun n x => prod_torn.f n x.1.1 x.2.1.1 x.2.2.1.1
theorem prod_torn.ok : FcOk Try.prog 56 prod_torn.c := old_ok Try.func56 (by kernel_rfl) (by kernel_rfl) (by decide) (fun _ => giveR_ok (by decide) _) fun n x y h m w => (prod_torn.calls n x.1.1 x.2.1.1 x.2.2.1.1 y w h).mono fun e w' he => ⟨he.1, he.2.below⟩
noncomputable def format_IsInf.c : Fc := mkFc [hI .i64, hI .u32] [hB] (T := Bool) (fun y => ((y, ()), ())) fun n x => format_IsInf.f n x.1.1 x.2.1.1
theorem format_IsInf.ok : FcOk Try.prog 57 format_IsInf.c := old_ok Try.func57 (by kernel_rfl) (by kernel_rfl) (by decide) (fun _ => giveR_ok (by decide) _) fun n x y h m w => (format_IsInf.calls n x.1.1 x.2.1.1 y w h).mono fun e w' he => ⟨he.1, he.2.below⟩
noncomputable def prod_product.c : Fc := mkFc [hI .i64, hI .u32, hI .u32] [.agg [.b, .i .i64, .i .u64, .b]] (T := Bool × Int × Int × Bool) (fun y => ((y.1, y.2.1, y.2.2.1, y.2.2.2, ()), ())) fun n x => prod_product.f x.1.1 x.2.1.1 x.2.2.1.1
theorem prod_product.ok : FcOk Try.prog 58 prod_product.c := old_ok Try.func58 (by kernel_rfl) (by kernel_rfl) (by decide) (fun _ => giveR_ok (by decide) _) fun n x y h m w => (prod_product.calls x.1.1 x.2.1.1 x.2.2.1.1 y.1 y.2.1 y.2.2.1 y.2.2.2 w h).mono fun e w' he => ⟨he.1, he.2⟩
noncomputable def prod_Mul.cls : Cls := [(21, sum_Nans.c), (56, prod_torn.c), (24, sum_Bad.c), (22, format_Neg.c), (57, format_IsInf.c), (25, format_Inf.c), (58, prod_product.c), (30, round_Pack.c)]
theorem prod_Mul.clsOk : ClsOk Try.prog prod_Mul.cls := ClsOk.cons sum_Nans.ok (ClsOk.cons prod_torn.ok (ClsOk.cons sum_Bad.ok (ClsOk.cons format_Neg.ok (ClsOk.cons format_IsInf.ok (ClsOk.cons format_Inf.ok (ClsOk.cons prod_product.ok (ClsOk.cons round_Pack.ok (ClsOk.nil))))))))
noncomputable def prod_Mul.K (v : SV) : Option (Int × Bool × Bool × Bool × Bool × Bool) := (takeR [hI .u32, .agg [.b, .b, .b, .b, .b]] v).map (fun z => (z.1.1, z.2.1.1, z.2.1.2.1, z.2.1.2.2.1, z.2.1.2.2.2.1, z.2.1.2.2.2.2.1))
noncomputable def prod_Mul.cuts : List Nat := [8]
noncomputable def prod_Mul.f (k : Nat) (a0 : Int) (a1 : Int) (a2 : Int) (a3 : Int) : Option (Int × Bool × Bool × Bool × Bool × Bool) := evF Try.prog prod_Mul.cls Try.f32 prod_Mul.cuts k [.one (.i .i64 (.x a0)), .one (.i .i64 (.x a1)), .one (.i .u32 (.x a2)), .one (.i .u32 (.x a3))] prod_Mul.K
noncomputable def prod_Mul.c : Fc := mkFc [hI .i64, hI .i64, hI .u32, hI .u32] [hI .u32, .agg [.b, .b, .b, .b, .b]] (T := Int × Bool × Bool × Bool × Bool × Bool) (fun y => ((y.1, ()), (y.2.1, y.2.2.1, y.2.2.2.1, y.2.2.2.2.1, y.2.2.2.2.2, ()), ())) fun n x => prod_Mul.f n x.1.1 x.2.1.1 x.2.2.1.1 x.2.2.2.1.1
theorem prod_Mul.ok : FcOk Try.prog 32 prod_Mul.c := mkOk prod_Mul.clsOk Try.func32 (by kernel_rfl) (by kernel_rfl) (by decide) (fun _ => rfl) (fun _ _ => rfl)
noncomputable def sum_Infinite.c : Fc := mkFc [hI .i64, hB, hB, hB, hB] [hI .u32, .agg [.b, .b, .b, .b, .b]] (T := Int × Bool × Bool × Bool × Bool × Bool) (fun y => ((y.1, ()), (y.2.1, y.2.2.1, y.2.2.2.1, y.2.2.2.2.1, y.2.2.2.2.2, ()), ())) fun n x => sum_Infinite.f n x.1.1 x.2.1.1 x.2.2.1.1 x.2.2.2.1.1 x.2.2.2.2.1.1
theorem sum_Infinite.ok : FcOk Try.prog 59 sum_Infinite.c := old_ok Try.func59 (by kernel_rfl) (by kernel_rfl) (by decide) (fun _ => giveR_ok (by decide) _) fun n x y h m w => (sum_Infinite.calls n x.1.1 x.2.1.1 x.2.2.1.1 x.2.2.2.1.1 x.2.2.2.2.1.1 y.1 y.2.1 y.2.2.1 y.2.2.2.1 y.2.2.2.2.1 y.2.2.2.2.2 w h).mono fun e w' he => ⟨he.1, he.2⟩
noncomputable def sum_Nought.c : Fc := mkFc [hI .i64, hI .i64, hB, hB] [hI .u32] (T := Int) (fun y => ((y, ()), ())) fun n x => sum_Nought.f x.1.1 x.2.1.1 x.2.2.1.1 x.2.2.2.1.1
theorem sum_Nought.ok : FcOk Try.prog 61 sum_Nought.c := old_ok Try.func61 (by kernel_rfl) (by kernel_rfl) (by decide) (fun _ => giveR_ok (by decide) _) fun n x y h m w => (sum_Nought.calls x.1.1 x.2.1.1 x.2.2.1.1 x.2.2.2.1.1 y w h).mono fun e w' he => ⟨he.1, he.2.below⟩
noncomputable def sum_Add.cls : Cls := [(21, sum_Nans.c), (57, format_IsInf.c), (22, format_Neg.c), (59, sum_Infinite.c), (27, sum_Of.c), (60, sum_Exact.c), (61, sum_Nought.c), (30, round_Pack.c)]
theorem sum_Add.clsOk : ClsOk Try.prog sum_Add.cls := ClsOk.cons sum_Nans.ok (ClsOk.cons format_IsInf.ok (ClsOk.cons format_Neg.ok (ClsOk.cons sum_Infinite.ok (ClsOk.cons sum_Of.ok (ClsOk.cons sum_Exact.ok (ClsOk.cons sum_Nought.ok (ClsOk.cons round_Pack.ok (ClsOk.nil))))))))
noncomputable def sum_Add.K (v : SV) : Option (Int × Bool × Bool × Bool × Bool × Bool) := (takeR [hI .u32, .agg [.b, .b, .b, .b, .b]] v).map (fun z => (z.1.1, z.2.1.1, z.2.1.2.1, z.2.1.2.2.1, z.2.1.2.2.2.1, z.2.1.2.2.2.2.1))
noncomputable def sum_Add.cuts : List Nat := [6, 10]
noncomputable def sum_Add.f (k : Nat) (a0 : Int) (a1 : Int) (a2 : Int) (a3 : Int) : Option (Int × Bool × Bool × Bool × Bool × Bool) := evF Try.prog sum_Add.cls Try.f33 sum_Add.cuts k [.one (.i .i64 (.x a0)), .one (.i .i64 (.x a1)), .one (.i .u32 (.x a2)), .one (.i .u32 (.x a3))] sum_Add.K
noncomputable def sum_Add.c : Fc := mkFc [hI .i64, hI .i64, hI .u32, hI .u32] [hI .u32, .agg [.b, .b, .b, .b, .b]] (T := Int × Bool × Bool × Bool × Bool × Bool) (fun y => ((y.1, ()), (y.2.1, y.2.2.1, y.2.2.2.1, y.2.2.2.2.1, y.2.2.2.2.2, ()), ())) fun n x => sum_Add.f n x.1.1 x.2.1.1 x.2.2.1.1 x.2.2.2.1.1
theorem sum_Add.ok : FcOk Try.prog 33 sum_Add.c := mkOk sum_Add.clsOk Try.func33 (by kernel_rfl) (by kernel_rfl) (by decide) (fun _ => rfl) (fun _ _ => rfl)
noncomputable def prod_Fma.cls : Cls := [(56, prod_torn.c), (21, sum_Nans.c), (24, sum_Bad.c), (22, format_Neg.c), (57, format_IsInf.c), (59, sum_Infinite.c), (58, prod_product.c), (27, sum_Of.c), (60, sum_Exact.c), (61, sum_Nought.c), (30, round_Pack.c)]
theorem prod_Fma.clsOk : ClsOk Try.prog prod_Fma.cls := ClsOk.cons prod_torn.ok (ClsOk.cons sum_Nans.ok (ClsOk.cons sum_Bad.ok (ClsOk.cons format_Neg.ok (ClsOk.cons format_IsInf.ok (ClsOk.cons sum_Infinite.ok (ClsOk.cons prod_product.ok (ClsOk.cons sum_Of.ok (ClsOk.cons sum_Exact.ok (ClsOk.cons sum_Nought.ok (ClsOk.cons round_Pack.ok (ClsOk.nil)))))))))))
noncomputable def prod_Fma.K (v : SV) : Option (Int × Bool × Bool × Bool × Bool × Bool) := (takeR [hI .u32, .agg [.b, .b, .b, .b, .b]] v).map (fun z => (z.1.1, z.2.1.1, z.2.1.2.1, z.2.1.2.2.1, z.2.1.2.2.2.1, z.2.1.2.2.2.2.1))
noncomputable def prod_Fma.cuts : List Nat := [10, 11, 15]
noncomputable def prod_Fma.f (k : Nat) (a0 : Int) (a1 : Int) (a2 : Int) (a3 : Int) (a4 : Int) : Option (Int × Bool × Bool × Bool × Bool × Bool) := evF Try.prog prod_Fma.cls Try.f72 prod_Fma.cuts k [.one (.i .i64 (.x a0)), .one (.i .i64 (.x a1)), .one (.i .u32 (.x a2)), .one (.i .u32 (.x a3)), .one (.i .u32 (.x a4))] prod_Fma.K
noncomputable def prod_Fma.c : Fc := mkFc [hI .i64, hI .i64, hI .u32, hI .u32, hI .u32] [hI .u32, .agg [.b, .b, .b, .b, .b]] (T := Int × Bool × Bool × Bool × Bool × Bool) (fun y => ((y.1, ()), (y.2.1, y.2.2.1, y.2.2.2.1, y.2.2.2.2.1, y.2.2.2.2.2, ()), ())) fun n x => prod_Fma.f n x.1.1 x.2.1.1 x.2.2.1.1 x.2.2.2.1.1 x.2.2.2.2.1.1
theorem prod_Fma.ok : FcOk Try.prog 72 prod_Fma.c := mkOk prod_Fma.clsOk Try.func72 (by kernel_rfl) (by kernel_rfl) (by decide) (fun _ => rfl) (fun _ _ => rfl)
/- Functions' trees, printed by a tool of mine out of the reckoner; Lean's kernel checks each. -/
set_option maxRecDepth 100000
noncomputable def quot_Div.j7 (n0 : Nat) (x0 : Bool) (x1 : Int) (x2 : Int) (x3 : Bool) (x4 : Int) (x5 : Int) (x6 : Int) (x7 : Int) (x8 : Bool) (x9 : Bool) (x10 : Bool) (x11 : Bool) (x12 : Bool) := evInJ Try.prog quot_Div.cls Try.f13 quot_Div.cuts [1, 1, 1, 1, 0, 0, 1] [n0] n0 ⟨[(46, (.pv (.one (.b (.q x0))))), (15, (.pv (.one (.i .i64 (.x x1))))), (14, (.pv (.one (.i .i64 (.x x2))))), (13, (.pv (.one (.b (.q x3))))), (9, (.pv (.one (.p 0 0)))), (3, (.pv (.one (.i .u32 (.x x4))))), (2, (.pv (.one (.i .u32 (.x x5))))), (1, (.pv (.one (.i .i64 (.x x6))))), (0, (.pv (.one (.i .i64 (.x x7)))))], [(0, (35, [(.c (.b (.q x8))), (.c (.b (.q x9))), (.c (.b (.q x10))), (.c (.b (.q x11))), (.c (.b (.q x12)))]))], 1⟩ quot_Div.K
noncomputable def quot_Div.j11 (n0 : Nat) (x0 : Bool) (x1 : Int) (x2 : Bool) (x3 : Int) (x4 : Int) (x5 : Int) (x6 : Int) (x7 : Bool) (x8 : Bool) (x9 : Bool) (x10 : Bool) (x11 : Bool) := evInJ Try.prog quot_Div.cls Try.f13 quot_Div.cuts [1, 1, 1, 1, 0, 0, 1, 1, 1, 1, 1] [n0] n0 ⟨[(69, (.pv (.one (.b (.q x0))))), (15, (.pv (.one (.i .i64 (.x x1))))), (13, (.pv (.one (.b (.q x2))))), (9, (.pv (.one (.p 0 0)))), (3, (.pv (.one (.i .u32 (.x x3))))), (2, (.pv (.one (.i .u32 (.x x4))))), (1, (.pv (.one (.i .i64 (.x x5))))), (0, (.pv (.one (.i .i64 (.x x6)))))], [(0, (35, [(.c (.b (.q x7))), (.c (.b (.q x8))), (.c (.b (.q x9))), (.c (.b (.q x10))), (.c (.b (.q x11)))]))], 1⟩ quot_Div.K
theorem quot_Div.eq (n0 : Nat) (a0 : Int) (a1 : Int) (a2 : Int) (a3 : Int) : quot_Div.f n0 a0 a1 a2 a3 = ((sum_Nans.f n0 a0 [a2, a3]).bind fun t0 => (if Prod.snd (Prod.snd (Prod.snd (Prod.snd (Prod.snd (Prod.snd t0))))) = true then (some ((Prod.fst t0, Prod.fst (Prod.snd t0), Prod.fst (Prod.snd (Prod.snd t0)), Prod.fst (Prod.snd (Prod.snd (Prod.snd t0))), Prod.fst (Prod.snd (Prod.snd (Prod.snd (Prod.snd t0)))), Prod.fst (Prod.snd (Prod.snd (Prod.snd (Prod.snd (Prod.snd t0)))))))) else ((format_Neg.f a0 a2).bind fun t1 => ((format_Neg.f a0 a3).bind fun t2 => ((format_Class.f n0 a0 a2).bind fun t3 => ((format_Class.f n0 a0 a3).bind fun t4 => (if t3 = t4 then (if t3 = 0 then (quot_Div.j7 n0 (true) (t4) (t3) (!(t1 == t2)) (a3) (a2) (a1) (a0) (false) (false) (false) (false) (false)) else (quot_Div.j7 n0 (Decidable.rec (fun h => false) (fun h => true) (Int.instDecidableEq t3 3)) (t4) (t3) (!(t1 == t2)) (a3) (a2) (a1) (a0) (false) (false) (false) (false) (false))) else (quot_Div.j7 n0 (false) (t4) (t3) (!(t1 == t2)) (a3) (a2) (a1) (a0) (false) (false) (false) (false) (false))))))))) := by kernel_rfl
theorem quot_Div.j7_eq (n0 : Nat) (x0 : Bool) (x1 : Int) (x2 : Int) (x3 : Bool) (x4 : Int) (x5 : Int) (x6 : Int) (x7 : Int) (x8 : Bool) (x9 : Bool) (x10 : Bool) (x11 : Bool) (x12 : Bool) : quot_Div.j7 n0 x0 x1 x2 x3 x4 x5 x6 x7 x8 x9 x10 x11 x12 = (if x0 = true then ((sum_Bad.f x7).bind fun t0 => (some ((Prod.fst t0, Prod.fst (Prod.snd t0), Prod.fst (Prod.snd (Prod.snd t0)), Prod.fst (Prod.snd (Prod.snd (Prod.snd t0))), Prod.fst (Prod.snd (Prod.snd (Prod.snd (Prod.snd t0)))), Prod.snd (Prod.snd (Prod.snd (Prod.snd (Prod.snd t0)))))))) else (if x2 = 3 then ((format_Inf.f x7 x3).bind fun t0 => (some ((t0, false, false, false, false, false)))) else (if x1 = 3 then (quot_Div.j11 n0 (true) (x1) (x3) (x4) (x5) (x6) (x7) (x8) (x9) (x10) (x11) (x12)) else (quot_Div.j11 n0 (Decidable.rec (fun h => false) (fun h => true) (Int.instDecidableEq x2 0)) (x1) (x3) (x4) (x5) (x6) (x7) (x8) (x9) (x10) (x11) (x12))))) := by kernel_rfl
theorem quot_Div.j11_eq (n0 : Nat) (x0 : Bool) (x1 : Int) (x2 : Bool) (x3 : Int) (x4 : Int) (x5 : Int) (x6 : Int) (x7 : Bool) (x8 : Bool) (x9 : Bool) (x10 : Bool) (x11 : Bool) : quot_Div.j11 n0 x0 x1 x2 x3 x4 x5 x6 x7 x8 x9 x10 x11 = (if x0 = true then ((format_Zero.f x6 x2).bind fun t0 => (some ((t0, false, false, false, false, false)))) else (if x1 = 0 then ((format_Inf.f x6 x2).bind fun t0 => (some ((t0, false, true, false, false, false)))) else ((sum_Of.f x6 x4).bind fun t0 => ((sum_Of.f x6 x3).bind fun t1 => ((bits_Len.f n0 (Prod.fst (Prod.snd (Prod.snd t0)))).bind fun t2 => ((bits_Shift.f n0 (Prod.fst (Prod.snd (Prod.snd t0))) (wrap64 (-wrap64 (62 - t2)))).bind fun t3 => (if Prod.fst (Prod.snd (Prod.snd t1)) = 0 then none else (if Prod.fst (Prod.snd (Prod.snd t1)) = 0 then none else ((round_Pack.f n0 x6 x5 x2 (wrap64 (wrap64 (Prod.fst (Prod.snd t0) - wrap64 (62 - t2)) - Prod.fst (Prod.snd t1))) (IntKind.wrap IntKind.u64 (Int.tdiv (Prod.fst t3) (Prod.fst (Prod.snd (Prod.snd t1))))) !Int.tmod (Prod.fst t3) (Prod.fst (Prod.snd (Prod.snd t1))) == 0).bind fun t4 => (some ((Prod.fst t4, Prod.fst (Prod.snd t4), Prod.fst (Prod.snd (Prod.snd t4)), Prod.fst (Prod.snd (Prod.snd (Prod.snd t4))), Prod.fst (Prod.snd (Prod.snd (Prod.snd (Prod.snd t4)))), Prod.snd (Prod.snd (Prod.snd (Prod.snd (Prod.snd t4)))))))))))))))) := by kernel_rfl
noncomputable def prod_Mul.j8 (n0 : Nat) (x0 : Bool) (x1 : Bool) (x2 : Int) (x3 : Int) (x4 : Int) (x5 : Int) (x6 : Bool) (x7 : Bool) (x8 : Bool) (x9 : Bool) (x10 : Bool) := evInJ Try.prog prod_Mul.cls Try.f32 prod_Mul.cuts [1, 1, 1, 1, 0, 1] [n0] n0 ⟨[(49, (.pv (.one (.b (.q x0))))), (13, (.pv (.one (.b (.q x1))))), (9, (.pv (.one (.p 0 0)))), (3, (.pv (.one (.i .u32 (.x x2))))), (2, (.pv (.one (.i .u32 (.x x3))))), (1, (.pv (.one (.i .i64 (.x x4))))), (0, (.pv (.one (.i .i64 (.x x5)))))], [(0, (35, [(.c (.b (.q x6))), (.c (.b (.q x7))), (.c (.b (.q x8))), (.c (.b (.q x9))), (.c (.b (.q x10)))]))], 1⟩ prod_Mul.K
theorem prod_Mul.eq (n0 : Nat) (a0 : Int) (a1 : Int) (a2 : Int) (a3 : Int) : prod_Mul.f n0 a0 a1 a2 a3 = ((sum_Nans.f n0 a0 [a2, a3]).bind fun t0 => (if Prod.snd (Prod.snd (Prod.snd (Prod.snd (Prod.snd (Prod.snd t0))))) = true then (some ((Prod.fst t0, Prod.fst (Prod.snd t0), Prod.fst (Prod.snd (Prod.snd t0)), Prod.fst (Prod.snd (Prod.snd (Prod.snd t0))), Prod.fst (Prod.snd (Prod.snd (Prod.snd (Prod.snd t0)))), Prod.fst (Prod.snd (Prod.snd (Prod.snd (Prod.snd (Prod.snd t0)))))))) else ((prod_torn.f n0 a0 a2 a3).bind fun t1 => (if t1 = true then ((sum_Bad.f a0).bind fun t2 => (some ((Prod.fst t2, Prod.fst (Prod.snd t2), Prod.fst (Prod.snd (Prod.snd t2)), Prod.fst (Prod.snd (Prod.snd (Prod.snd t2))), Prod.fst (Prod.snd (Prod.snd (Prod.snd (Prod.snd t2)))), Prod.snd (Prod.snd (Prod.snd (Prod.snd (Prod.snd t2)))))))) else ((format_Neg.f a0 a2).bind fun t2 => ((format_Neg.f a0 a3).bind fun t3 => ((format_IsInf.f n0 a0 a2).bind fun t4 => (if t4 = true then (prod_Mul.j8 n0 (true) (!(t2 == t3)) (a3) (a2) (a1) (a0) (false) (false) (false) (false) (false)) else ((format_IsInf.f n0 a0 a3).bind fun t5 => (prod_Mul.j8 n0 (t5) (!(t2 == t3)) (a3) (a2) (a1) (a0) (false) (false) (false) (false) (false))))))))))) := by kernel_rfl
theorem prod_Mul.j8_eq (n0 : Nat) (x0 : Bool) (x1 : Bool) (x2 : Int) (x3 : Int) (x4 : Int) (x5 : Int) (x6 : Bool) (x7 : Bool) (x8 : Bool) (x9 : Bool) (x10 : Bool) : prod_Mul.j8 n0 x0 x1 x2 x3 x4 x5 x6 x7 x8 x9 x10 = (if x0 = true then ((format_Inf.f x5 x1).bind fun t0 => (some ((t0, false, false, false, false, false)))) else ((prod_product.f x5 x3 x2).bind fun t0 => ((round_Pack.f n0 x5 x4 x1 (Prod.fst (Prod.snd t0)) (Prod.fst (Prod.snd (Prod.snd t0))) false).bind fun t1 => (some ((Prod.fst t1, Prod.fst (Prod.snd t1), Prod.fst (Prod.snd (Prod.snd t1)), Prod.fst (Prod.snd (Prod.snd (Prod.snd t1))), Prod.fst (Prod.snd (Prod.snd (Prod.snd (Prod.snd t1)))), Prod.snd (Prod.snd (Prod.snd (Prod.snd (Prod.snd t1)))))))))) := by kernel_rfl
noncomputable def sum_Add.j6 (n0 : Nat) (x0 : Bool) (x1 : Bool) (x2 : Bool) (x3 : Int) (x4 : Int) (x5 : Int) (x6 : Int) (x7 : Bool) (x8 : Bool) (x9 : Bool) (x10 : Bool) (x11 : Bool) := evInJ Try.prog sum_Add.cls Try.f33 sum_Add.cuts [1, 1, 1, 0, 1] [n0] n0 ⟨[(39, (.pv (.one (.b (.q x0))))), (14, (.pv (.one (.b (.q x1))))), (13, (.pv (.one (.b (.q x2))))), (9, (.pv (.one (.p 0 0)))), (3, (.pv (.one (.i .u32 (.x x3))))), (2, (.pv (.one (.i .u32 (.x x4))))), (1, (.pv (.one (.i .i64 (.x x5))))), (0, (.pv (.one (.i .i64 (.x x6)))))], [(0, (35, [(.c (.b (.q x7))), (.c (.b (.q x8))), (.c (.b (.q x9))), (.c (.b (.q x10))), (.c (.b (.q x11)))]))], 1⟩ sum_Add.K
noncomputable def sum_Add.j10 (n0 : Nat) (x0 : Bool) (x1 : Int) (x2 : Int) (x3 : Bool) (x4 : Int) (x5 : Int) (x6 : Bool) (x7 : Bool) (x8 : Int) (x9 : Int) (x10 : Bool) (x11 : Bool) (x12 : Int) (x13 : Int) (x14 : Bool) (x15 : Bool) (x16 : Bool) (x17 : Bool) (x18 : Bool) (x19 : Bool) := evInJ Try.prog sum_Add.cls Try.f33 sum_Add.cuts [1, 1, 1, 1, 1, 1, 0, 1] [n0] n0 ⟨[(68, (.pv (.one (.b (.q x0))))), (17, (.pv (.one (.p 3 0)))), (16, (.pv (.one (.p 2 0)))), (15, (.pv (.one (.p 1 0)))), (9, (.pv (.one (.p 0 0)))), (1, (.pv (.one (.i .i64 (.x x1))))), (0, (.pv (.one (.i .i64 (.x x2)))))], [(3, (51, [(.c (.b (.q x3))), (.c (.i .i64 (.x x4))), (.c (.i .u64 (.x x5))), (.c (.b (.q x6)))])), (2, (51, [(.c (.b (.q x7))), (.c (.i .i64 (.x x8))), (.c (.i .u64 (.x x9))), (.c (.b (.q x10)))])), (1, (51, [(.c (.b (.q x11))), (.c (.i .i64 (.x x12))), (.c (.i .u64 (.x x13))), (.c (.b (.q x14)))])), (0, (35, [(.c (.b (.q x15))), (.c (.b (.q x16))), (.c (.b (.q x17))), (.c (.b (.q x18))), (.c (.b (.q x19)))]))], 4⟩ sum_Add.K
theorem sum_Add.eq (n0 : Nat) (a0 : Int) (a1 : Int) (a2 : Int) (a3 : Int) : sum_Add.f n0 a0 a1 a2 a3 = ((sum_Nans.f n0 a0 [a2, a3]).bind fun t0 => (if Prod.snd (Prod.snd (Prod.snd (Prod.snd (Prod.snd (Prod.snd t0))))) = true then (some ((Prod.fst t0, Prod.fst (Prod.snd t0), Prod.fst (Prod.snd (Prod.snd t0)), Prod.fst (Prod.snd (Prod.snd (Prod.snd t0))), Prod.fst (Prod.snd (Prod.snd (Prod.snd (Prod.snd t0)))), Prod.fst (Prod.snd (Prod.snd (Prod.snd (Prod.snd (Prod.snd t0)))))))) else ((format_IsInf.f n0 a0 a2).bind fun t1 => ((format_IsInf.f n0 a0 a3).bind fun t2 => (if t1 = true then (sum_Add.j6 n0 (true) (t2) (t1) (a3) (a2) (a1) (a0) (false) (false) (false) (false) (false)) else (sum_Add.j6 n0 (t2) (t2) (t1) (a3) (a2) (a1) (a0) (false) (false) (false) (false) (false))))))) := by kernel_rfl
theorem sum_Add.j6_eq (n0 : Nat) (x0 : Bool) (x1 : Bool) (x2 : Bool) (x3 : Int) (x4 : Int) (x5 : Int) (x6 : Int) (x7 : Bool) (x8 : Bool) (x9 : Bool) (x10 : Bool) (x11 : Bool) : sum_Add.j6 n0 x0 x1 x2 x3 x4 x5 x6 x7 x8 x9 x10 x11 = (if x0 = true then ((format_Neg.f x6 x4).bind fun t0 => ((format_Neg.f x6 x3).bind fun t1 => ((sum_Infinite.f n0 x6 t0 t1 x2 x1).bind fun t2 => (some ((Prod.fst t2, Prod.fst (Prod.snd t2), Prod.fst (Prod.snd (Prod.snd t2)), Prod.fst (Prod.snd (Prod.snd (Prod.snd t2))), Prod.fst (Prod.snd (Prod.snd (Prod.snd (Prod.snd t2)))), Prod.snd (Prod.snd (Prod.snd (Prod.snd (Prod.snd t2)))))))))) else ((sum_Of.f x6 x4).bind fun t0 => ((sum_Of.f x6 x3).bind fun t1 => ((Ytjlgmfgjleajfaa.L.sum_Exact.f n0 (Prod.fst t0) (Prod.fst (Prod.snd t0)) (Prod.fst (Prod.snd (Prod.snd t0))) (Prod.snd (Prod.snd (Prod.snd t0))) (Prod.fst t1) (Prod.fst (Prod.snd t1)) (Prod.fst (Prod.snd (Prod.snd t1))) (Prod.snd (Prod.snd (Prod.snd t1)))).bind fun t2 => (if Prod.fst (Prod.snd (Prod.snd t2)) = 0 then (sum_Add.j10 n0 (!(Prod.snd (Prod.snd (Prod.snd t2)))) (x5) (x6) (t2.1) (Prod.fst (Prod.snd t2)) (Prod.fst (Prod.snd (Prod.snd t2))) ((Prod.snd (Prod.snd t2)).2) (t1.1) (Prod.fst (Prod.snd t1)) (Prod.fst (Prod.snd (Prod.snd t1))) ((Prod.snd (Prod.snd t1)).2) (t0.1) (Prod.fst (Prod.snd t0)) (Prod.fst (Prod.snd (Prod.snd t0))) ((Prod.snd (Prod.snd t0)).2) (x7) (x8) (x9) (x10) (x11)) else (sum_Add.j10 n0 (false) (x5) (x6) (t2.1) (Prod.fst (Prod.snd t2)) (Prod.fst (Prod.snd (Prod.snd t2))) ((Prod.snd (Prod.snd t2)).2) (t1.1) (Prod.fst (Prod.snd t1)) (Prod.fst (Prod.snd (Prod.snd t1))) ((Prod.snd (Prod.snd t1)).2) (t0.1) (Prod.fst (Prod.snd t0)) (Prod.fst (Prod.snd (Prod.snd t0))) ((Prod.snd (Prod.snd t0)).2) (x7) (x8) (x9) (x10) (x11))))))) := by kernel_rfl
theorem sum_Add.j10_eq (n0 : Nat) (x0 : Bool) (x1 : Int) (x2 : Int) (x3 : Bool) (x4 : Int) (x5 : Int) (x6 : Bool) (x7 : Bool) (x8 : Int) (x9 : Int) (x10 : Bool) (x11 : Bool) (x12 : Int) (x13 : Int) (x14 : Bool) (x15 : Bool) (x16 : Bool) (x17 : Bool) (x18 : Bool) (x19 : Bool) : sum_Add.j10 n0 x0 x1 x2 x3 x4 x5 x6 x7 x8 x9 x10 x11 x12 x13 x14 x15 x16 x17 x18 x19 = (if x0 = true then ((sum_Nought.f x2 x1 x11 x7).bind fun t0 => (some ((t0, false, false, false, false, false)))) else ((round_Pack.f n0 x2 x1 x3 x4 x5 x6).bind fun t0 => (some ((Prod.fst t0, Prod.fst (Prod.snd t0), Prod.fst (Prod.snd (Prod.snd t0)), Prod.fst (Prod.snd (Prod.snd (Prod.snd t0))), Prod.fst (Prod.snd (Prod.snd (Prod.snd (Prod.snd t0)))), Prod.snd (Prod.snd (Prod.snd (Prod.snd (Prod.snd t0))))))))) := by kernel_rfl
noncomputable def prod_Fma.j10 (n0 : Nat) (x0 : Bool) (x1 : Bool) (x2 : Bool) (x3 : Int) (x4 : Int) (x5 : Int) (x6 : Int) (x7 : Int) (x8 : Bool) (x9 : Bool) (x10 : Bool) (x11 : Bool) (x12 : Bool) := evInJ Try.prog prod_Fma.cls Try.f72 prod_Fma.cuts [1, 1, 1, 1, 1, 1] [n0] n0 ⟨[(18, (.pv (.one (.b (.q x0))))), (17, (.pv (.one (.b (.q x1))))), (16, (.pv (.one (.b (.q x2))))), (11, (.pv (.one (.p 0 0)))), (4, (.pv (.one (.i .u32 (.x x3))))), (3, (.pv (.one (.i .u32 (.x x4))))), (2, (.pv (.one (.i .u32 (.x x5))))), (1, (.pv (.one (.i .i64 (.x x6))))), (0, (.pv (.one (.i .i64 (.x x7)))))], [(0, (35, [(.c (.b (.q x8))), (.c (.b (.q x9))), (.c (.b (.q x10))), (.c (.b (.q x11))), (.c (.b (.q x12)))]))], 1⟩ prod_Fma.K
noncomputable def prod_Fma.j11 (n0 : Nat) (x0 : Bool) (x1 : Bool) (x2 : Bool) (x3 : Bool) (x4 : Int) (x5 : Int) (x6 : Int) (x7 : Int) (x8 : Int) (x9 : Bool) (x10 : Bool) (x11 : Bool) (x12 : Bool) (x13 : Bool) := evInJ Try.prog prod_Fma.cls Try.f72 prod_Fma.cuts [1, 1, 1, 1, 1, 1, 0, 1] [n0] n0 ⟨[(71, (.pv (.one (.b (.q x0))))), (18, (.pv (.one (.b (.q x1))))), (17, (.pv (.one (.b (.q x2))))), (16, (.pv (.one (.b (.q x3))))), (11, (.pv (.one (.p 0 0)))), (4, (.pv (.one (.i .u32 (.x x4))))), (3, (.pv (.one (.i .u32 (.x x5))))), (2, (.pv (.one (.i .u32 (.x x6))))), (1, (.pv (.one (.i .i64 (.x x7))))), (0, (.pv (.one (.i .i64 (.x x8)))))], [(0, (35, [(.c (.b (.q x9))), (.c (.b (.q x10))), (.c (.b (.q x11))), (.c (.b (.q x12))), (.c (.b (.q x13)))]))], 1⟩ prod_Fma.K
noncomputable def prod_Fma.j15 (n0 : Nat) (x0 : Bool) (x1 : Bool) (x2 : Int) (x3 : Int) (x4 : Bool) (x5 : Int) (x6 : Int) (x7 : Bool) (x8 : Bool) (x9 : Int) (x10 : Int) (x11 : Bool) (x12 : Bool) (x13 : Bool) (x14 : Bool) (x15 : Bool) (x16 : Bool) := evInJ Try.prog prod_Fma.cls Try.f72 prod_Fma.cuts [1, 1, 1, 1, 1, 1, 1, 1, 1, 0, 1] [n0] n0 ⟨[(99, (.pv (.one (.b (.q x0))))), (21, (.pv (.one (.p 3 0)))), (20, (.pv (.one (.p 2 0)))), (16, (.pv (.one (.b (.q x1))))), (11, (.pv (.one (.p 0 0)))), (1, (.pv (.one (.i .i64 (.x x2))))), (0, (.pv (.one (.i .i64 (.x x3)))))], [(3, (51, [(.c (.b (.q x4))), (.c (.i .i64 (.x x5))), (.c (.i .u64 (.x x6))), (.c (.b (.q x7)))])), (2, (51, [(.c (.b (.q x8))), (.c (.i .i64 (.x x9))), (.c (.i .u64 (.x x10))), (.c (.b (.q x11)))])), (0, (35, [(.c (.b (.q x12))), (.c (.b (.q x13))), (.c (.b (.q x14))), (.c (.b (.q x15))), (.c (.b (.q x16)))]))], 4⟩ prod_Fma.K
theorem prod_Fma.eq (n0 : Nat) (a0 : Int) (a1 : Int) (a2 : Int) (a3 : Int) (a4 : Int) : prod_Fma.f n0 a0 a1 a2 a3 a4 = ((prod_torn.f n0 a0 a2 a3).bind fun t0 => ((sum_Nans.f n0 a0 [a2, a3, a4]).bind fun t1 => (if Prod.snd (Prod.snd (Prod.snd (Prod.snd (Prod.snd (Prod.snd t1))))) = true then (if Prod.fst (Prod.snd t1) = true then (some ((Prod.fst t1, true, Prod.fst (Prod.snd (Prod.snd t1)), Prod.fst (Prod.snd (Prod.snd (Prod.snd t1))), Prod.fst (Prod.snd (Prod.snd (Prod.snd (Prod.snd t1)))), Prod.fst (Prod.snd (Prod.snd (Prod.snd (Prod.snd (Prod.snd t1)))))))) else (some ((Prod.fst t1, t0, Prod.fst (Prod.snd (Prod.snd t1)), Prod.fst (Prod.snd (Prod.snd (Prod.snd t1))), Prod.fst (Prod.snd (Prod.snd (Prod.snd (Prod.snd t1)))), Prod.fst (Prod.snd (Prod.snd (Prod.snd (Prod.snd (Prod.snd t1))))))))) else (if t0 = true then ((sum_Bad.f a0).bind fun t2 => (some ((Prod.fst t2, Prod.fst (Prod.snd t2), Prod.fst (Prod.snd (Prod.snd t2)), Prod.fst (Prod.snd (Prod.snd (Prod.snd t2))), Prod.fst (Prod.snd (Prod.snd (Prod.snd (Prod.snd t2)))), Prod.snd (Prod.snd (Prod.snd (Prod.snd (Prod.snd t2)))))))) else ((format_Neg.f a0 a2).bind fun t2 => ((format_Neg.f a0 a3).bind fun t3 => ((format_IsInf.f n0 a0 a2).bind fun t4 => (if t4 = true then ((format_IsInf.f n0 a0 a4).bind fun t5 => (prod_Fma.j10 n0 (t5) (true) (!(t2 == t3)) (a4) (a3) (a2) (a1) (a0) (false) (false) (false) (false) (false))) else ((format_IsInf.f n0 a0 a3).bind fun t5 => ((format_IsInf.f n0 a0 a4).bind fun t6 => (prod_Fma.j10 n0 (t6) (t5) (!(t2 == t3)) (a4) (a3) (a2) (a1) (a0) (false) (false) (false) (false) (false)))))))))))) := by kernel_rfl
theorem prod_Fma.j10_eq (n0 : Nat) (x0 : Bool) (x1 : Bool) (x2 : Bool) (x3 : Int) (x4 : Int) (x5 : Int) (x6 : Int) (x7 : Int) (x8 : Bool) (x9 : Bool) (x10 : Bool) (x11 : Bool) (x12 : Bool) : prod_Fma.j10 n0 x0 x1 x2 x3 x4 x5 x6 x7 x8 x9 x10 x11 x12 = (if x1 = true then (prod_Fma.j11 n0 (true) (x0) (x1) (x2) (x3) (x4) (x5) (x6) (x7) (x8) (x9) (x10) (x11) (x12)) else (prod_Fma.j11 n0 (x0) (x0) (x1) (x2) (x3) (x4) (x5) (x6) (x7) (x8) (x9) (x10) (x11) (x12))) := by kernel_rfl
theorem prod_Fma.j11_eq (n0 : Nat) (x0 : Bool) (x1 : Bool) (x2 : Bool) (x3 : Bool) (x4 : Int) (x5 : Int) (x6 : Int) (x7 : Int) (x8 : Int) (x9 : Bool) (x10 : Bool) (x11 : Bool) (x12 : Bool) (x13 : Bool) : prod_Fma.j11 n0 x0 x1 x2 x3 x4 x5 x6 x7 x8 x9 x10 x11 x12 x13 = (if x0 = true then ((format_Neg.f x8 x4).bind fun t0 => ((sum_Infinite.f n0 x8 x3 t0 x2 x1).bind fun t1 => (some ((Prod.fst t1, Prod.fst (Prod.snd t1), Prod.fst (Prod.snd (Prod.snd t1)), Prod.fst (Prod.snd (Prod.snd (Prod.snd t1))), Prod.fst (Prod.snd (Prod.snd (Prod.snd (Prod.snd t1)))), Prod.snd (Prod.snd (Prod.snd (Prod.snd (Prod.snd t1))))))))) else ((prod_product.f x8 x6 x5).bind fun t0 => ((sum_Of.f x8 x4).bind fun t1 => ((Ytjlgmfgjleajfaa.L.sum_Exact.f n0 (Prod.fst t0) (Prod.fst (Prod.snd t0)) (Prod.fst (Prod.snd (Prod.snd t0))) (Prod.snd (Prod.snd (Prod.snd t0))) (Prod.fst t1) (Prod.fst (Prod.snd t1)) (Prod.fst (Prod.snd (Prod.snd t1))) (Prod.snd (Prod.snd (Prod.snd t1)))).bind fun t2 => (if Prod.fst (Prod.snd (Prod.snd t2)) = 0 then (prod_Fma.j15 n0 (!(Prod.snd (Prod.snd (Prod.snd t2)))) (x3) (x7) (x8) (t2.1) (Prod.fst (Prod.snd t2)) (Prod.fst (Prod.snd (Prod.snd t2))) ((Prod.snd (Prod.snd t2)).2) (t1.1) (Prod.fst (Prod.snd t1)) (Prod.fst (Prod.snd (Prod.snd t1))) ((Prod.snd (Prod.snd t1)).2) (x9) (x10) (x11) (x12) (x13)) else (prod_Fma.j15 n0 (false) (x3) (x7) (x8) (t2.1) (Prod.fst (Prod.snd t2)) (Prod.fst (Prod.snd (Prod.snd t2))) ((Prod.snd (Prod.snd t2)).2) (t1.1) (Prod.fst (Prod.snd t1)) (Prod.fst (Prod.snd (Prod.snd t1))) ((Prod.snd (Prod.snd t1)).2) (x9) (x10) (x11) (x12) (x13))))))) := by kernel_rfl
theorem prod_Fma.j15_eq (n0 : Nat) (x0 : Bool) (x1 : Bool) (x2 : Int) (x3 : Int) (x4 : Bool) (x5 : Int) (x6 : Int) (x7 : Bool) (x8 : Bool) (x9 : Int) (x10 : Int) (x11 : Bool) (x12 : Bool) (x13 : Bool) (x14 : Bool) (x15 : Bool) (x16 : Bool) : prod_Fma.j15 n0 x0 x1 x2 x3 x4 x5 x6 x7 x8 x9 x10 x11 x12 x13 x14 x15 x16 = (if x0 = true then ((sum_Nought.f x3 x2 x1 x8).bind fun t0 => (some ((t0, false, false, false, false, false)))) else ((round_Pack.f n0 x3 x2 x4 x5 x6 x7).bind fun t0 => (some ((Prod.fst t0, Prod.fst (Prod.snd t0), Prod.fst (Prod.snd (Prod.snd t0)), Prod.fst (Prod.snd (Prod.snd (Prod.snd t0))), Prod.fst (Prod.snd (Prod.snd (Prod.snd (Prod.snd t0)))), Prod.snd (Prod.snd (Prod.snd (Prod.snd (Prod.snd t0))))))))) := by kernel_rfl
/- Functions' trees, printed by a tool of mine out of the reckoner; Lean's kernel checks each. -/
set_option maxRecDepth 100000
theorem round_beyond.eq (n0 : Nat) (a0 : Int) (a1 : Int) (a2 : Bool) : round_beyond.f n0 a0 a1 a2 = (if a1 = 1 then ((format_Greatest.f a0 a2).bind fun t0 => (some ((t0, false, false, true, false, true)))) else (if a1 = 2 then (if a2 = true then ((format_Greatest.f a0 a2).bind fun t0 => (some ((t0, false, false, true, false, true)))) else ((format_Inf.f a0 a2).bind fun t0 => (some ((t0, false, false, true, false, true))))) else (if a1 = 3 then (if a2 = true then ((format_Inf.f a0 a2).bind fun t0 => (some ((t0, false, false, true, false, true)))) else ((format_Greatest.f a0 a2).bind fun t0 => (some ((t0, false, false, true, false, true))))) else ((format_Inf.f a0 a2).bind fun t0 => (some ((t0, false, false, true, false, true))))))) := by kernel_rfl
noncomputable def sum_Exact.j7 (n0 : Nat) (x0 : Bool) (x1 : Bool) (x2 : Int) (x3 : Int) (x4 : Bool) (x5 : Bool) (x6 : Int) (x7 : Int) (x8 : Bool) (x9 : Bool) (x10 : Int) (x11 : Int) (x12 : Bool) := evInJ Try.prog sum_Exact.cls Try.f60 sum_Exact.cuts [1, 1, 1, 0, 1] [n0] n0 ⟨[(39, (.pv (.one (.b (.q x0))))), (4, (.pv (.one (.p 2 0)))), (3, (.pv (.one (.p 1 0)))), (2, (.pv (.one (.p 0 0))))], [(2, (51, [(.c (.b (.q x1))), (.c (.i .i64 (.x x2))), (.c (.i .u64 (.x x3))), (.c (.b (.q x4)))])), (1, (51, [(.c (.b (.q x5))), (.c (.i .i64 (.x x6))), (.c (.i .u64 (.x x7))), (.c (.b (.q x8)))])), (0, (51, [(.c (.b (.q x9))), (.c (.i .i64 (.x x10))), (.c (.i .u64 (.x x11))), (.c (.b (.q x12)))]))], 3⟩ sum_Exact.K
noncomputable def sum_Exact.j8 (n0 : Nat) (x0 : Bool) (x1 : Int) (x2 : Int) (x3 : Bool) (x4 : Bool) (x5 : Int) (x6 : Int) (x7 : Bool) (x8 : Bool) (x9 : Int) (x10 : Int) (x11 : Bool) := evInJ Try.prog sum_Exact.cls Try.f60 sum_Exact.cuts [1, 1, 1, 1] [n0] n0 ⟨[(4, (.pv (.one (.p 2 0)))), (3, (.pv (.one (.p 1 0)))), (2, (.pv (.one (.p 0 0))))], [(2, (51, [(.c (.b (.q x0))), (.c (.i .i64 (.x x1))), (.c (.i .u64 (.x x2))), (.c (.b (.q x3)))])), (1, (51, [(.c (.b (.q x4))), (.c (.i .i64 (.x x5))), (.c (.i .u64 (.x x6))), (.c (.b (.q x7)))])), (0, (51, [(.c (.b (.q x8))), (.c (.i .i64 (.x x9))), (.c (.i .u64 (.x x10))), (.c (.b (.q x11)))]))], 3⟩ sum_Exact.K
noncomputable def sum_Exact.j16 (n0 : Nat) (x0 : Bool) (x1 : Int) (x2 : Int) (x3 : Bool) (x4 : Bool) (x5 : Int) (x6 : Int) (x7 : Bool) := evInJ Try.prog sum_Exact.cls Try.f60 sum_Exact.cuts [1, 1, 1, 1, 1, 1, 1, 1, 1] [n0] n0 ⟨[(4, (.pv (.one (.p 2 0)))), (2, (.pv (.one (.p 0 0))))], [(2, (51, [(.c (.b (.q x0))), (.c (.i .i64 (.x x1))), (.c (.i .u64 (.x x2))), (.c (.b (.q x3)))])), (0, (51, [(.c (.b (.q x4))), (.c (.i .i64 (.x x5))), (.c (.i .u64 (.x x6))), (.c (.b (.q x7)))]))], 3⟩ sum_Exact.K
theorem sum_Exact.eq (n0 : Nat) (a0_0 : Bool) (a0_1 : Int) (a0_2 : Int) (a0_3 : Bool) (a1_0 : Bool) (a1_1 : Int) (a1_2 : Int) (a1_3 : Bool) : sum_Exact.f n0 a0_0 a0_1 a0_2 a0_3 a1_0 a1_1 a1_2 a1_3 = (if a0_2 = 0 then (some ((a1_0, a1_1, a1_2, a1_3))) else (if a1_2 = 0 then (some ((a0_0, a0_1, a0_2, a0_3))) else ((sum_full.f n0 a0_0 a0_1 a0_2 a0_3).bind fun t0 => ((sum_full.f n0 a1_0 a1_1 a1_2 a1_3).bind fun t1 => (if Prod.fst (Prod.snd t0) < Prod.fst (Prod.snd t1) then (sum_Exact.j7 n0 (true) (false) (Int.ofNat 0) (Int.ofNat 0) (false) (t1.1) (Prod.fst (Prod.snd t1)) (Prod.fst (Prod.snd (Prod.snd t1))) ((Prod.snd (Prod.snd t1)).2) (t0.1) (Prod.fst (Prod.snd t0)) (Prod.fst (Prod.snd (Prod.snd t0))) ((Prod.snd (Prod.snd t0)).2)) else (if Prod.fst (Prod.snd t0) = Prod.fst (Prod.snd t1) then (sum_Exact.j7 n0 (Decidable.rec (fun h => false) (fun h => true) (Int.decLt (Prod.fst (Prod.snd (Prod.snd t0))) (Prod.fst (Prod.snd (Prod.snd t1))))) (false) (Int.ofNat 0) (Int.ofNat 0) (false) (t1.1) (Prod.fst (Prod.snd t1)) (Prod.fst (Prod.snd (Prod.snd t1))) ((Prod.snd (Prod.snd t1)).2) (t0.1) (Prod.fst (Prod.snd t0)) (Prod.fst (Prod.snd (Prod.snd t0))) ((Prod.snd (Prod.snd t0)).2)) else (sum_Exact.j7 n0 (false) (false) (Int.ofNat 0) (Int.ofNat 0) (false) (t1.1) (Prod.fst (Prod.snd t1)) (Prod.fst (Prod.snd (Prod.snd t1))) ((Prod.snd (Prod.snd t1)).2) (t0.1) (Prod.fst (Prod.snd t0)) (Prod.fst (Prod.snd (Prod.snd t0))) ((Prod.snd (Prod.snd t0)).2)))))))) := by kernel_rfl
theorem sum_Exact.j7_eq (n0 : Nat) (x0 : Bool) (x1 : Bool) (x2 : Int) (x3 : Int) (x4 : Bool) (x5 : Bool) (x6 : Int) (x7 : Int) (x8 : Bool) (x9 : Bool) (x10 : Int) (x11 : Int) (x12 : Bool) : sum_Exact.j7 n0 x0 x1 x2 x3 x4 x5 x6 x7 x8 x9 x10 x11 x12 = (if x0 = true then (sum_Exact.j8 n0 (x1) (x2) (x3) (x4) (x9) (x10) (x11) (x12) (x5) (x6) (x7) (x8)) else (sum_Exact.j8 n0 (x1) (x2) (x3) (x4) (x5) (x6) (x7) (x8) (x9) (x10) (x11) (x12))) := by kernel_rfl
theorem sum_Exact.j8_eq (n0 : Nat) (x0 : Bool) (x1 : Int) (x2 : Int) (x3 : Bool) (x4 : Bool) (x5 : Int) (x6 : Int) (x7 : Bool) (x8 : Bool) (x9 : Int) (x10 : Int) (x11 : Bool) : sum_Exact.j8 n0 x0 x1 x2 x3 x4 x5 x6 x7 x8 x9 x10 x11 = ((bits_Shift.f n0 x6 (wrap64 (x9 - x5))).bind fun t0 => (if (x8 == x4) = true then (some ((x8, x9, IntKind.wrap IntKind.u64 (x10 + Prod.fst t0), Prod.snd t0))) else (if Prod.snd t0 = true then (sum_Exact.j16 n0 (x0) (x1) (x2) (x3) (x8) (x9) (IntKind.wrap IntKind.u64 (IntKind.wrap IntKind.u64 (x10 - Prod.fst t0) - 1)) (t0.2)) else (sum_Exact.j16 n0 (x0) (x1) (x2) (x3) (x8) (x9) (IntKind.wrap IntKind.u64 (x10 - Prod.fst t0)) (t0.2))))) := by kernel_rfl
theorem sum_Exact.j16_eq (n0 : Nat) (x0 : Bool) (x1 : Int) (x2 : Int) (x3 : Bool) (x4 : Bool) (x5 : Int) (x6 : Int) (x7 : Bool) : sum_Exact.j16 n0 x0 x1 x2 x3 x4 x5 x6 x7 = (some ((x4, x5, x6, x7))) := by kernel_rfl
end Go.Proofs.Ytjlgmfgjleajfaa.L

/- What the reckoner tells of printed functions. -/
namespace Go.Proofs.Ytjlgmfgjleajfaa.P
open Go.RowKit Go.Proofs.YtjlgmfgjleajfaaW.PrintWords Go.Proofs.YtjlgmfgjleajfaaW.PrintLast Go.Proofs.YtjlgmfgjleajfaaW.PrintMore
set_option maxRecDepth 100000
set_option maxHeartbeats 4000000 in
theorem round_beyond.le {k n : Nat} (hk : k ≤ n) {a0 : Int} {a1 : Int} {a2 : Bool} : LeO (round_beyond.f a0 a1 a2) (L.round_beyond.f n a0 a1 a2) := by
 unfold round_beyond.f
 rw [L.round_beyond.eq]
 try simp only [Bool.and_true]
 repeat' first
  |(with_reducible exact LeO.refl _)
  |exact LeO.none _
  |(with_reducible refine LeO.bind ?_ (fun _ => ?_))
  |(with_reducible refine LeO.ite3 Iff.rfl (fun _ => ?_) (fun _ => ?_))
  |exact LeO.refl _
  |(with_reducible refine LeO.pos (by assumption) ?_)
  |(with_reducible refine LeO.neg (by assumption) ?_)
  |(with_reducible refine LeO.posl (by assumption) ?_)
  |(with_reducible refine LeO.negl (by assumption) ?_)
  |(with_reducible refine LeO.ite3 (by omega) (fun _ => ?_) (fun _ => ?_))
theorem round_beyond.calls (a0 : Int) (a1 : Int) (a2 : Bool) (r1 : Int) (r2 : Bool) (r3 : Bool) (r4 : Bool) (r5 : Bool) (r6 : Bool) (w : World) (h : round_beyond.f a0 a1 a2 = some (r1, r2, r3, r4, r5, r6)) :
  Calls Try.prog 54 #[.int .i64 a0, .int .i64 a1, .bool a2] w fun e w' => e = .returned (.tuple #[.int .u32 r1, .agg #[.bool r2, .bool r3, .bool r4, .bool r5, .bool r6]]) ∧ Below w.heap.size w w' :=
 Go.Proofs.Ytjlgmfgjleajfaa.Ek.calls_of L.round_beyond.ok 0 ((a0, ()), (a1, ()), (a2, ()), ()) (r1, r2, r3, r4, r5, r6) rfl (round_beyond.le (Nat.le_refl _) _ h) w
theorem sum_Exact.j2_le {k n : Nat} (hk : k ≤ n) {x334000 : Bool} {x334001 : Int} {x334002 : Int} {x334003 : Bool} {ex0 : Bool} {ex1 : Int} {ex2 : Int} {ex3 : Bool} : LeO (sum_Exact.j2 k x334000 x334001 x334002 x334003) (L.sum_Exact.j16 n ex0 ex1 ex2 ex3 x334000 x334001 x334002 x334003) := by
 cases k with
 |zero => rw [sum_Exact.j2]; exact LeO.none _
 |succ k =>
 replace hk := Nat.le_of_succ_le hk
 rw [sum_Exact.j2, L.sum_Exact.j16_eq]
 repeat' first
  |(with_reducible exact LeO.refl _)
  |exact LeO.none _
  |(with_reducible exact fun r h => at_rounds (sum_full.mono _ _ _ _) hk h)
  |(with_reducible exact fun r h => at_rounds (bits_Shift.mono _ _) hk h)
  |(with_reducible refine LeO.bind ?_ (fun _ => ?_))
  |(with_reducible refine LeO.ite3 Iff.rfl (fun _ => ?_) (fun _ => ?_))
  |exact fun r h => at_rounds (sum_full.mono _ _ _ _) hk h
  |exact fun r h => at_rounds (bits_Shift.mono _ _) hk h
  |exact LeO.refl _
  |(with_reducible refine LeO.pos (by assumption) ?_)
  |(with_reducible refine LeO.neg (by assumption) ?_)
  |(with_reducible refine LeO.posl (by assumption) ?_)
  |(with_reducible refine LeO.negl (by assumption) ?_)
  |(with_reducible refine LeO.ite3 (by omega) (fun _ => ?_) (fun _ => ?_))
theorem sum_Exact.j1_le {k n : Nat} (hk : k ≤ n) {x334000 : Bool} {x334001 : Int} {x334002 : Int} {x334003 : Bool} {x335000 : Bool} {x335001 : Int} {x335002 : Int} {x335003 : Bool} {ex0 : Bool} {ex1 : Int} {ex2 : Int} {ex3 : Bool} : LeO (sum_Exact.j1 k x334000 x334001 x334002 x334003 x335000 x335001 x335002 x335003) (L.sum_Exact.j8 n ex0 ex1 ex2 ex3 x335000 x335001 x335002 x335003 x334000 x334001 x334002 x334003) := by
 cases k with
 |zero => rw [sum_Exact.j1]; exact LeO.none _
 |succ k =>
 replace hk := Nat.le_of_succ_le hk
 rw [sum_Exact.j1, L.sum_Exact.j8_eq]
 repeat' first
  |(with_reducible exact LeO.refl _)
  |exact LeO.none _
  |(with_reducible exact sum_Exact.j2_le hk)
  |(with_reducible exact fun r h => at_rounds (sum_full.mono _ _ _ _) hk h)
  |(with_reducible exact fun r h => at_rounds (bits_Shift.mono _ _) hk h)
  |(with_reducible refine LeO.bind ?_ (fun _ => ?_))
  |(with_reducible refine LeO.ite3 Iff.rfl (fun _ => ?_) (fun _ => ?_))
  |exact sum_Exact.j2_le hk
  |exact fun r h => at_rounds (sum_full.mono _ _ _ _) hk h
  |exact fun r h => at_rounds (bits_Shift.mono _ _) hk h
  |exact LeO.refl _
  |(with_reducible refine LeO.pos (by assumption) ?_)
  |(with_reducible refine LeO.neg (by assumption) ?_)
  |(with_reducible refine LeO.posl (by assumption) ?_)
  |(with_reducible refine LeO.negl (by assumption) ?_)
  |(with_reducible refine LeO.ite3 (by omega) (fun _ => ?_) (fun _ => ?_))
theorem sum_Exact.j0_le {k n : Nat} (hk : k ≤ n) {x39 : Bool} {x334000 : Bool} {x334001 : Int} {x334002 : Int} {x334003 : Bool} {x335000 : Bool} {x335001 : Int} {x335002 : Int} {x335003 : Bool} {ex1 : Bool} {ex2 : Int} {ex3 : Int} {ex4 : Bool} : LeO (sum_Exact.j0 k x39 x334000 x334001 x334002 x334003 x335000 x335001 x335002 x335003) (L.sum_Exact.j7 n x39 ex1 ex2 ex3 ex4 x335000 x335001 x335002 x335003 x334000 x334001 x334002 x334003) := by
 cases k with
 |zero => rw [sum_Exact.j0]; exact LeO.none _
 |succ k =>
 replace hk := Nat.le_of_succ_le hk
 rw [sum_Exact.j0, L.sum_Exact.j7_eq]
 repeat' first
  |(with_reducible exact LeO.refl _)
  |exact LeO.none _
  |(with_reducible exact sum_Exact.j2_le hk)
  |(with_reducible exact sum_Exact.j1_le hk)
  |(with_reducible exact fun r h => at_rounds (sum_full.mono _ _ _ _) hk h)
  |(with_reducible exact fun r h => at_rounds (bits_Shift.mono _ _) hk h)
  |(with_reducible refine LeO.bind ?_ (fun _ => ?_))
  |(with_reducible refine LeO.ite3 Iff.rfl (fun _ => ?_) (fun _ => ?_))
  |exact sum_Exact.j2_le hk
  |exact sum_Exact.j1_le hk
  |exact fun r h => at_rounds (sum_full.mono _ _ _ _) hk h
  |exact fun r h => at_rounds (bits_Shift.mono _ _) hk h
  |exact LeO.refl _
  |(with_reducible refine LeO.pos (by assumption) ?_)
  |(with_reducible refine LeO.neg (by assumption) ?_)
  |(with_reducible refine LeO.posl (by assumption) ?_)
  |(with_reducible refine LeO.negl (by assumption) ?_)
  |(with_reducible refine LeO.ite3 (by omega) (fun _ => ?_) (fun _ => ?_))
set_option maxHeartbeats 4000000 in
theorem sum_Exact.le {k n : Nat} (hk : k ≤ n) {a0_0 : Bool} {a0_1 : Int} {a0_2 : Int} {a0_3 : Bool} {a1_0 : Bool} {a1_1 : Int} {a1_2 : Int} {a1_3 : Bool} : LeO (sum_Exact.f k a0_0 a0_1 a0_2 a0_3 a1_0 a1_1 a1_2 a1_3) (L.sum_Exact.f n a0_0 a0_1 a0_2 a0_3 a1_0 a1_1 a1_2 a1_3) := by
 unfold sum_Exact.f
 rw [L.sum_Exact.eq]
 try simp only [Bool.and_true]
 repeat' first
  |(with_reducible exact LeO.refl _)
  |exact LeO.none _
  |(with_reducible exact sum_Exact.j2_le hk)
  |(with_reducible exact sum_Exact.j1_le hk)
  |(with_reducible exact sum_Exact.j0_le hk)
  |(with_reducible exact fun r h => at_rounds (sum_full.mono _ _ _ _) hk h)
  |(with_reducible exact fun r h => at_rounds (bits_Shift.mono _ _) hk h)
  |(with_reducible refine LeO.bind ?_ (fun _ => ?_))
  |(with_reducible refine LeO.ite3 Iff.rfl (fun _ => ?_) (fun _ => ?_))
  |exact sum_Exact.j2_le hk
  |exact sum_Exact.j1_le hk
  |exact sum_Exact.j0_le hk
  |exact fun r h => at_rounds (sum_full.mono _ _ _ _) hk h
  |exact fun r h => at_rounds (bits_Shift.mono _ _) hk h
  |exact LeO.refl _
  |(with_reducible refine LeO.pos (by assumption) ?_)
  |(with_reducible refine LeO.neg (by assumption) ?_)
  |(with_reducible refine LeO.posl (by assumption) ?_)
  |(with_reducible refine LeO.negl (by assumption) ?_)
  |(with_reducible refine LeO.ite3 (by omega) (fun _ => ?_) (fun _ => ?_))
theorem sum_Exact.calls (k : Nat) (a0_0 : Bool) (a0_1 : Int) (a0_2 : Int) (a0_3 : Bool) (a1_0 : Bool) (a1_1 : Int) (a1_2 : Int) (a1_3 : Bool) (r1 : Bool) (r2 : Int) (r3 : Int) (r4 : Bool) (w : World) (h : sum_Exact.f k a0_0 a0_1 a0_2 a0_3 a1_0 a1_1 a1_2 a1_3 = some (r1, r2, r3, r4)) :
  Calls Try.prog 60 #[.agg #[.bool a0_0, .int .i64 a0_1, .int .u64 a0_2, .bool a0_3], .agg #[.bool a1_0, .int .i64 a1_1, .int .u64 a1_2, .bool a1_3]] w fun e w' => e = .returned (.agg #[.bool r1, .int .i64 r2, .int .u64 r3, .bool r4]) ∧ Below w.heap.size w w' :=
 Go.Proofs.Ytjlgmfgjleajfaa.Ek.calls_of L.sum_Exact.ok k ((a0_0, a0_1, a0_2, a0_3, ()), (a1_0, a1_1, a1_2, a1_3, ()), ()) (r1, r2, r3, r4) rfl (sum_Exact.le (Nat.le_refl _) _ h) w
end Go.Proofs.Ytjlgmfgjleajfaa.P

/- Functions' trees, printed by a tool of mine out of the reckoner; Lean's kernel checks each. -/
namespace Go.Proofs.Ytjlgmfgjleajfaa.L
open Go.RowKit Go.Proofs.Ytjlgmfgjleajfaa.P Go.Proofs.Ytjlgmfgjleajfaa.Ek Go.Proofs.YtjlgmfgjleajfaaW.PrintWords Go.Proofs.YtjlgmfgjleajfaaW.PrintLast Go.Proofs.YtjlgmfgjleajfaaW.PrintMore
set_option maxRecDepth 100000
noncomputable def round_Pack.j3 (n0 : Nat) (x0 : Bool) (x1 : Bool) (x2 : Int) (x3 : Int) (x4 : Bool) (x5 : Int) (x6 : Int) (x7 : Bool) (x8 : Bool) (x9 : Bool) (x10 : Bool) (x11 : Bool) := evInJ Try.prog round_Pack.cls Try.f30 round_Pack.cuts [1, 1, 0, 1] [n0] n0 ⟨[(29, (.pv (.one (.b (.q x0))))), (13, (.pv (.one (.p 0 0)))), (5, (.pv (.one (.b (.q x1))))), (4, (.pv (.one (.i .u64 (.x x2))))), (3, (.pv (.one (.i .i64 (.x x3))))), (2, (.pv (.one (.b (.q x4))))), (1, (.pv (.one (.i .i64 (.x x5))))), (0, (.pv (.one (.i .i64 (.x x6)))))], [(0, (35, [(.c (.b (.q x7))), (.c (.b (.q x8))), (.c (.b (.q x9))), (.c (.b (.q x10))), (.c (.b (.q x11)))]))], 1⟩ round_Pack.K
noncomputable def round_Pack.j9 (n0 : Nat) (x0 : Int) (x1 : Int) (x2 : Int) (x3 : Int) (x4 : Int) (x5 : Int) (x6 : Bool) (x7 : Int) (x8 : Int) (x9 : Bool) (x10 : Bool) (x11 : Bool) (x12 : Bool) (x13 : Bool) := evInJ Try.prog round_Pack.cls Try.f30 round_Pack.cuts [1, 1, 1, 1, 1, 1, 1] [n0] n0 ⟨[(18, (.pv (.one (.i .i64 (.x x0))))), (17, (.pv (.one (.i .u64 (.x x1))))), (16, (.pv (.one (.i .i64 (.x x2))))), (15, (.pv (.one (.i .i64 (.x x3))))), (13, (.pv (.one (.p 0 0)))), (4, (.pv (.one (.i .u64 (.x x4))))), (3, (.pv (.one (.i .i64 (.x x5))))), (2, (.pv (.one (.b (.q x6))))), (1, (.pv (.one (.i .i64 (.x x7))))), (0, (.pv (.one (.i .i64 (.x x8)))))], [(0, (35, [(.c (.b (.q x9))), (.c (.b (.q x10))), (.c (.b (.q x11))), (.c (.b (.q x12))), (.c (.b (.q x13)))]))], 1⟩ round_Pack.K
noncomputable def round_Pack.j11 (n0 : Nat) (x0 : Int) (x1 : Int) (x2 : Int) (x3 : Int) (x4 : Int) (x5 : Int) (x6 : Bool) (x7 : Int) (x8 : Int) (x9 : Bool) (x10 : Bool) (x11 : Bool) (x12 : Bool) (x13 : Bool) := evInJ Try.prog round_Pack.cls Try.f30 round_Pack.cuts [1, 1, 1, 1, 1, 1, 1, 1] [n0] n0 ⟨[(18, (.pv (.one (.i .i64 (.x x0))))), (17, (.pv (.one (.i .u64 (.x x1))))), (16, (.pv (.one (.i .i64 (.x x2))))), (15, (.pv (.one (.i .i64 (.x x3))))), (13, (.pv (.one (.p 0 0)))), (4, (.pv (.one (.i .u64 (.x x4))))), (3, (.pv (.one (.i .i64 (.x x5))))), (2, (.pv (.one (.b (.q x6))))), (1, (.pv (.one (.i .i64 (.x x7))))), (0, (.pv (.one (.i .i64 (.x x8)))))], [(0, (35, [(.c (.b (.q x9))), (.c (.b (.q x10))), (.c (.b (.q x11))), (.c (.b (.q x12))), (.c (.b (.q x13)))]))], 1⟩ round_Pack.K
noncomputable def round_Pack.j14 (n0 : Nat) (x0 : Int) (x1 : Int) (x2 : Int) (x3 : Int) (x4 : Int) (x5 : Int) (x6 : Bool) (x7 : Int) (x8 : Int) (x9 : Bool) (x10 : Bool) (x11 : Bool) (x12 : Bool) (x13 : Bool) := evInJ Try.prog round_Pack.cls Try.f30 round_Pack.cuts [1, 1, 1, 1, 1, 1, 1, 1, 1, 1] [n0] n0 ⟨[(19, (.pv (.one (.i .i64 (.x x0))))), (18, (.pv (.one (.i .i64 (.x x1))))), (17, (.pv (.one (.i .u64 (.x x2))))), (15, (.pv (.one (.i .i64 (.x x3))))), (13, (.pv (.one (.p 0 0)))), (4, (.pv (.one (.i .u64 (.x x4))))), (3, (.pv (.one (.i .i64 (.x x5))))), (2, (.pv (.one (.b (.q x6))))), (1, (.pv (.one (.i .i64 (.x x7))))), (0, (.pv (.one (.i .i64 (.x x8)))))], [(0, (35, [(.c (.b (.q x9))), (.c (.b (.q x10))), (.c (.b (.q x11))), (.c (.b (.q x12))), (.c (.b (.q x13)))]))], 1⟩ round_Pack.K
theorem round_Pack.eq (n0 : Nat) (a0 : Int) (a1 : Int) (a2 : Bool) (a3 : Int) (a4 : Int) (a5 : Bool) : round_Pack.f n0 a0 a1 a2 a3 a4 a5 = (if a4 = 0 then (round_Pack.j3 n0 (!(a5)) (a5) (a4) (mn (mx a3 (-10000)) 10000) (a2) (a1) (a0) (false) (false) (false) (false) (false)) else (round_Pack.j3 n0 (false) (a5) (a4) (mn (mx a3 (-10000)) 10000) (a2) (a1) (a0) (false) (false) (false) (false) (false))) := by kernel_rfl
theorem round_Pack.j3_eq (n0 : Nat) (x0 : Bool) (x1 : Bool) (x2 : Int) (x3 : Int) (x4 : Bool) (x5 : Int) (x6 : Int) (x7 : Bool) (x8 : Bool) (x9 : Bool) (x10 : Bool) (x11 : Bool) : round_Pack.j3 n0 x0 x1 x2 x3 x4 x5 x6 x7 x8 x9 x10 x11 = (if x0 = true then ((format_Zero.f x6 x4).bind fun t0 => (some ((t0, false, false, false, false, false)))) else ((format_Widths.f x6).bind fun t0 => ((round_Unit.f n0 x6 x3 x2).bind fun t1 => ((round_Units.f n0 x2 (wrap64 (t1 - x3)) x1).bind fun t2 => ((round_Up.f x5 x4 (Prod.fst t2) (Prod.snd t2)).bind fun t3 => (if t3 = true then (round_Pack.j9 n0 (Prod.snd t2) (IntKind.wrap IntKind.u64 (Prod.fst t2 + 1)) (t1) (Prod.snd t0) (x2) (x3) (x4) (x5) (x6) (x7) (x8) (x9) (x10) (x11)) else (round_Pack.j9 n0 (Prod.snd t2) (Prod.fst t2) (t1) (Prod.snd t0) (x2) (x3) (x4) (x5) (x6) (x7) (x8) (x9) (x10) (x11)))))))) := by kernel_rfl
theorem round_Pack.j9_eq (n0 : Nat) (x0 : Int) (x1 : Int) (x2 : Int) (x3 : Int) (x4 : Int) (x5 : Int) (x6 : Bool) (x7 : Int) (x8 : Int) (x9 : Bool) (x10 : Bool) (x11 : Bool) (x12 : Bool) (x13 : Bool) : round_Pack.j9 n0 x0 x1 x2 x3 x4 x5 x6 x7 x8 x9 x10 x11 x12 x13 = (if 0 ≤ IntKind.wrap IntKind.u64 (wrap64 (x3 + 1)) then (if shr IntKind.u64 x1 (IntKind.wrap IntKind.u64 (wrap64 (x3 + 1))) = 0 then (round_Pack.j11 n0 (x0) (x1) (x2) (x3) (x4) (x5) (x6) (x7) (x8) (x9) (x10) (x11) (x12) (x13)) else (round_Pack.j11 n0 (x0) (shr IntKind.u64 x1 1) (wrap64 (x2 + 1)) (x3) (x4) (x5) (x6) (x7) (x8) (x9) (x10) (x11) (x12) (x13))) else none) := by kernel_rfl
theorem round_Pack.j11_eq (n0 : Nat) (x0 : Int) (x1 : Int) (x2 : Int) (x3 : Int) (x4 : Int) (x5 : Int) (x6 : Bool) (x7 : Int) (x8 : Int) (x9 : Bool) (x10 : Bool) (x11 : Bool) (x12 : Bool) (x13 : Bool) : round_Pack.j11 n0 x0 x1 x2 x3 x4 x5 x6 x7 x8 x9 x10 x11 x12 x13 = ((format_Least.f x8).bind fun t0 => (if 0 ≤ IntKind.wrap IntKind.u64 x3 then (if shr IntKind.u64 x1 (IntKind.wrap IntKind.u64 x3) = 0 then (round_Pack.j14 n0 (Int.ofNat 0) (x0) (x1) (x3) (x4) (x5) (x6) (x7) (x8) (x9) (x10) (x11) (x12) (x13)) else (round_Pack.j14 n0 (wrap64 (wrap64 (wrap64 (x2 + x3) - t0) + 1)) (x0) (x1) (x3) (x4) (x5) (x6) (x7) (x8) (x9) (x10) (x11) (x12) (x13))) else none)) := by kernel_rfl
theorem round_Pack.j14_eq (n0 : Nat) (x0 : Int) (x1 : Int) (x2 : Int) (x3 : Int) (x4 : Int) (x5 : Int) (x6 : Bool) (x7 : Int) (x8 : Int) (x9 : Bool) (x10 : Bool) (x11 : Bool) (x12 : Bool) (x13 : Bool) : round_Pack.j14 n0 x0 x1 x2 x3 x4 x5 x6 x7 x8 x9 x10 x11 x12 x13 = ((format_Top.f x8).bind fun t0 => (if t0 ≤ x0 then ((Ytjlgmfgjleajfaa.L.round_beyond.f n0 x8 x7 x6).bind fun t1 => (some ((Prod.fst t1, Prod.fst (Prod.snd t1), Prod.fst (Prod.snd (Prod.snd t1)), Prod.fst (Prod.snd (Prod.snd (Prod.snd t1))), Prod.fst (Prod.snd (Prod.snd (Prod.snd (Prod.snd t1)))), Prod.snd (Prod.snd (Prod.snd (Prod.snd (Prod.snd t1)))))))) else (if x1 = 0 then ((bits_Cut.f x2 x3).bind fun t1 => ((format_Join.f x8 x6 x0 (t1 % 4294967296)).bind fun t2 => (some ((t2, false, false, false, false, !x1 == 0))))) else (if x4 = 0 then ((bits_Cut.f x2 x3).bind fun t1 => ((format_Join.f x8 x6 x0 (t1 % 4294967296)).bind fun t2 => (some ((t2, false, false, false, true, !x1 == 0))))) else ((bits_Len.f n0 x4).bind fun t1 => ((format_Least.f x8).bind fun t2 => ((bits_Cut.f x2 x3).bind fun t3 => ((format_Join.f x8 x6 x0 (t3 % 4294967296)).bind fun t4 => (some ((t4, false, false, false, decide (wrap64 (wrap64 (x5 + t1) - 1) < t2), !x1 == 0))))))))))) := by kernel_rfl
end Go.Proofs.Ytjlgmfgjleajfaa.L
