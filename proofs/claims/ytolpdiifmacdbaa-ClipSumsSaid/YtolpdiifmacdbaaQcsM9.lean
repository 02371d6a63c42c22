import Derived.Test.YtolpdiifmacdbaaQcsM8
import Derived.Test.YtolpdiifmacdbaaProg
import Derived.Test.YtolpdiifmacdbaaQcsM4
import Derived.Test.YtolpdiifmacdbaaQcsM5
import Derived.Test.YtolpdiifmacdbaaQcsM6
/- Operations behind one another, and in any order, by the reckoner's. -/
set_option linter.unusedVariables false
set_option linter.unusedSimpArgs false
namespace Go.Proofs.Ytolpdiifmacdbaa.Ek
open Go.RowKit Go.Proofs.YtolpdiifmacdbaaW.PrintWords Go.Proofs.YtolpdiifmacdbaaW.PrintLast Go.Proofs.YtolpdiifmacdbaaW.PrintMore

section
variable {P : Program}
theorem getD_some {a : Array Value} {t : Nat} {v : Value} (h : a.getD t undef = v) (hv : v ≠ undef) : a[t]? = some v := by
 rw [Array.getD_eq_getD_getElem?] at h
 cases hq : a[t]? with
 |none => rw [hq] at h; exact absurd h.symm hv
 |some u => rw [hq] at h; exact congrArg some h
theorem fJ {R : Type} {w0 : World} {nt : Nat} {ops : Array Oper} {o : Oper} {s : St} {yes no : St → Option R} {r : R} {m : Nat → Nat} {a : Act} {w : World} (hr : Rel w0 nt m s a w) (h : guarded ops o s yes no = some r) :
  ∃ s', Rel w0 nt m s' a w ∧ s'.next = s.next ∧ s'.heap = s.heap ∧ ((Region.wanted o (yielded ops a.tmps) = true ∧ yes s' = some r) ∨ (Region.wanted o (yielded ops a.tmps) = false ∧ no s' = some r)) := by
 unfold guarded at h
 split at h
 ·next hg => exact ⟨s, hr, rfl, rfl, .inl ⟨by simp [Region.wanted, hg], h⟩⟩
 ·next j want hg =>
  split at h
  ·cases h
  ·next t ht =>
   have hw : Region.wanted o (yielded ops a.tmps) = ((match a.tmps[t]? with
     |some (.bool b) => some b
     |_ => none) == some want) := by
    have ht' : (ops[j]?).bind (fun x => x.dst) = some t := ht
    simp only [Region.wanted, hg, yielded, ht', Option.bind_some]
    cases a.tmps[t]? with
    |none => rfl
    |some v => cases v <;> rfl
   split at h
   ·next hl =>
    obtain ⟨_, e⟩ := hr.env t _ hl
    refine ⟨s, hr, rfl, rfl, .inr ⟨?_, h⟩⟩
    rw [hw]
    have e' : a.tmps.getD t undef = undef := e
    rw [Array.getD_eq_getD_getElem?] at e'
    cases hq : a.tmps[t]? with
    |none => rfl
    |some u => rw [hq] at e'; have e2 : u = undef := e'; subst e2; rfl
   ·next e hl =>
    obtain ⟨_, eb⟩ := hr.env t _ hl
    have eb' : a.tmps.getD t undef = .bool e.d := eb
    have hq := getD_some eb' (by intro hh; cases hh)
    rw [hq] at hw
    have hw' : Region.wanted o (yielded ops a.tmps) = (e.d == want) := by rw [hw]; rfl
    rw [BE.yO] at h
    have rel : ∀ b : BE, b.d = e.d → Rel w0 nt m ⟨(t, .pv (.one (.b b))) :: s.env, s.heap, s.next⟩ a w := fun b hb =>
     ⟨hr.size, hr.dfr, fun t' v hv => by
      rw [dF] at hv
      by_cases c : t = t'
      ·subst c
       rw [if_pos rfl] at hv
       cases hv
       exact ⟨trivial, by rw [eb']; show Value.bool e.d = Value.bool b.d; rw [hb]⟩
      ·rw [if_neg c] at hv
       exact hr.env t' v hv, hr.heap, hr.inj, hr.bel⟩
    split at h
    ·next hd =>
     refine ⟨_, rel .tt hd.symm, rfl, rfl, ?_⟩
     rw [hw', hd]
     cases want
     ·exact .inr ⟨rfl, h⟩
     ·exact .inl ⟨rfl, h⟩
    ·next hd =>
     have hd' : e.d = false := by simpa using hd
     refine ⟨_, rel .ff hd'.symm, rfl, rfl, ?_⟩
     rw [hw', hd']
     cases want
     ·exact .inl ⟨rfl, h⟩
     ·exact .inr ⟨rfl, h⟩
   ·cases h
theorem gL {R : Type} {w0 : World} {nt : Nat} {o : Oper} {s : St} {K : St → Option R} {r : R} {m : Nat → Nat} {a : Act} {w : World} (hr : Rel w0 nt m s a w) (h : fE nt o s K = some r) :
  K (s.put o.dst .und) = some r ∧ Rel w0 nt m (s.put o.dst .und) (a.put o.dst undef) w := by
 unfold fE at h
 obtain ⟨hd, h1⟩ := dO h
 exact ⟨h1, hr.put (v := .und) hd trivial⟩

variable {cl : Cls} (hcl : bU P cl)
 include hcl
theorem sO {R : Type} {w0 : World} {nt n : Nat} {ops : Array Oper} {r : R} {Q : Exit → Act → World → Prop} : ∀ {l : List Oper} {s : St} {K : St → Option R} {m : Nat → Nat} {a : Act} {w : World}, Rel w0 nt m s a w → mX P nt cl n ops l s K = some r →
  (∀ s' m' a' w', K s' = some r → Rel w0 nt m' s' a' w' → Q .normal a' w') → wpList P ops Q l a w := by
 intro l
 induction l with
 |nil =>
  intro s K m a w hr h hK
  exact hK _ _ _ _ h hr
 |cons o l ih =>
  intro s K m a w hr h hK
  unfold mX at h
  obtain ⟨s', hr', _, _, hc⟩ := fJ hr h
  unfold wpList
  rcases hc with ⟨hw, hy⟩ | ⟨hw, hn⟩
  ·rw [if_pos hw]
   obtain ⟨s2, h2, h3⟩ := rG hcl hr' hy
   exact .inl (h3 _ Q fun m' a' w' hr2 _ _ _ => ih hr2 h2 hK)
  ·rw [if_neg (by rw [hw]; decide)]
   obtain ⟨h2, hr2⟩ := gL hr' hn
   exact ih hr2 h2 hK

omit hcl in
theorem iU {op : Op} (h : jX op = true) : eH op = false := by
 cases op <;> first | rfl | cases h
set_option maxHeartbeats 1000000 in
theorem rO {R : Type} {w0 : World} {nt n : Nat} {ops : Array Oper} {r : R} {Q : Exit → Act → World → Prop} {B : List Nat} (hT : waitsOk (rtab .any ops).2 B = true) {heap0 : List (Nat × Nat × List S)} {next0 : Nat} {m0 : Nat → Nat}
  (ho0 : ∀ g e ss, look heap0 g = some (e, ss) → g < next0 ∧ oks next0 ss) (hQ : ∀ c a w, ¬ Q (.panic c) a w) :
  ∀ {f : Nat} {l : Array Bool} {s : St} {K : St → Option R} {m : Nat → Nat} {a : Act} {w : World}, Rel w0 nt m s a w → next0 ≤ s.next → (∀ g, g < next0 → m g = m0 g) →
  eY P nt cl n ops (rtab .any ops) B (bH ops) heap0 f l.toList s K = some r →
  ((∀ d ∈ bH ops, l.getD d true = false) → ∀ g e ss, look heap0 g = some (e, ss) → w.heap[m0 g]? = some (.cells (vals m0 ss).toArray e (0, 0))) →
  (∀ s' m' a' w', K s' = some r → Rel w0 nt m' s' a' w' → Q .normal a' w') →
  wpAnyLast P .any ops Q (fun w => ∀ g e ss, look heap0 g = some (e, ss) → w.heap[m0 g]? = some (.cells (vals m0 ss).toArray e (0, 0))) (bH ops) f l a w := by
 intro f
 induction f with
 |zero =>
  intro l s K m a w hr hn0 hm0 h hS hK
  unfold eY at h
  split at h
  ·next hrd => exact ⟨by rw [ready_eq]; exact hrd, hK _ _ _ _ h hr⟩
  ·cases h
 |succ f ih =>
  intro l s K m a w hr hn0 hm0 h hS hK
  unfold eY at h
  split at h
  ·next hrd => exact wpAnyLast_done (by rw [ready_eq]; exact hrd) (hK _ _ _ _ h hr) _
  ·next hne =>
   split at h
   ·next i hi =>
    have hi' := List.find?_some hi
    simp only [Bool.and_eq_true] at hi'
    obtain ⟨hp, ha⟩ := hi'
    split at h
    ·next o ho =>
     have hany : anyB .any ops l (l.setIfInBounds i true) i = true := any_of rfl (by simpa using ha)
     have hlist : (l.setIfInBounds i true).toList = l.toList.set i true := by simp
     obtain ⟨s', hr', hnx, _, hc⟩ := fJ hr h
     have hstore : ∀ d ∈ bH ops, d ≠ i := by
      intro d hd hdi
      subst hdi
      unfold bH at hd
      have h5 := (List.mem_filter.1 hd).2
      rw [ho] at h5
      have h6 : jX o.op = true := by unfold jW at hp; rw [ho] at hp; exact hp
      have h5' : eH o.op = true := h5
      rw [iU h6] at h5'
      cases h5'
     have hS' : ∀ (w : World), ((∀ d ∈ bH ops, l.getD d true = false) → ∀ g e ss, look heap0 g = some (e, ss) → w.heap[m0 g]? = some (.cells (vals m0 ss).toArray e (0, 0))) →
       (∀ d ∈ bH ops, (l.setIfInBounds i true).getD d true = false) → ∀ g e ss, look heap0 g = some (e, ss) → w.heap[m0 g]? = some (.cells (vals m0 ss).toArray e (0, 0)) := by
      intro w hw hd
      refine hw fun d hdm => ?_
      rw [← hd d hdm, getD_set_ne true (Ne.symm (hstore d hdm))]
     rcases hc with ⟨hw, hy⟩ | ⟨hw, hno⟩
     ·obtain ⟨hd, hy⟩ := dO hy
      obtain ⟨v, h1, h2, h3⟩ := mV hr'.env hy
      refine pure_ (l.setIfInBounds i true) ho rfl hany (fun c a w hq => absurd hq (hQ c _ w)) (.inl ⟨hw, h3⟩) rfl ?_
      exact ih (hr'.put hd h2) (by cases o.dst <;> (show next0 ≤ s'.next; omega)) hm0 (by rw [hlist]; exact h1) (hS' w hS) hK
     ·obtain ⟨h2, hr2⟩ := gL hr' hno
      refine pure_ (l.setIfInBounds i true) ho rfl hany (fun c a w hq => absurd hq (hQ c _ w)) (.inr ⟨hw, rfl⟩) rfl ?_
      exact ih hr2 (by cases o.dst <;> (show next0 ≤ s'.next; omega)) hm0 (by rw [hlist]; exact h2) (hS' w hS) hK
    ·cases h
   ·next =>
    split at h
    ·next i hi =>
     have hi' := List.find?_some hi
     simp only [Bool.and_eq_true] at hi'
     obtain ⟨⟨hp, ha⟩, hds⟩ := hi'
     have hds' : ∀ d ∈ bH ops, l.getD d true = false := by
      intro d hd
      have := List.all_eq_true.1 hds d hd
      have e : l.toList.getD d true = l.getD d true := (gd l d true).symm
      rw [e] at this
      simpa using this
     have hSw := hS hds'
     split at h
     ·next o ho =>
      have htake : takeB .any ops (bH ops) l (l.setIfInBounds i true) i = true := take_ofW rfl hT (by simpa using ha)
      have hlist : (l.setIfInBounds i true).toList = l.toList.set i true := by simp
      obtain ⟨s', hr', hnx, _, hc⟩ := fJ hr h
      rcases hc with ⟨hw, hy⟩ | ⟨hw, hno⟩
      ·obtain ⟨hd, hy⟩ := dO hy
       split at hy
       ·next t x hop =>
        split at hy
        ·next c hx =>
         split at hy
         ·next v hv =>
          obtain ⟨ok, ex⟩ := eO hr'.env hx
          have ex' : a.eval x = c.v m := ex
          have hval : ∀ w : World, (∀ g e ss, look heap0 g = some (e, ss) → w.heap[m0 g]? = some (.cells (vals m0 ss).toArray e (0, 0))) → v.ok s'.next ∧ (execOp a.eval o).run P w = .ok (.value (v.v m)) w := by
           intro w hw
           obtain ⟨q1, q2⟩ := kC (m := m) (w := w) (heap := heap0) ok (fun g e ss hg => by
            obtain ⟨b1, b2⟩ := ho0 g e ss hg
            refine ⟨eX (by rw [hnx]; exact hn0) b2, ?_⟩
            rw [hm0 g b1, d9 hm0 b2]
            exact hw g e ss hg) hv
           refine ⟨q1, ?_⟩
           obtain ⟨dst, op, ty, pos, after, guard⟩ := o
           simp only at hop
           subst hop
           exact fK (by rw [ex']; exact q2)
          refine take_ (v := v.v m) (l.setIfInBounds i true) ho rfl htake (fun c a w hq => absurd hq (hQ c _ w)) (.inl ⟨hw, fun w hw => (hval w hw).2⟩) hSw rfl ?_
          refine ih (hr'.put (v := .pv v) hd (hval w hSw).1) (by cases o.dst <;> (show next0 ≤ s'.next; omega)) hm0 (by rw [hlist]; exact hy) (fun _ => hSw) hK
         ·cases hy
        ·cases hy
       ·cases hy
      ·obtain ⟨h2, hr2⟩ := gL hr' hno
       refine take_ (l.setIfInBounds i true) ho rfl htake (fun c a w hq => absurd hq (hQ c _ w)) (.inr ⟨hw, rfl⟩) hSw rfl ?_
       exact ih hr2 (by cases o.dst <;> (show next0 ≤ s'.next; omega)) hm0 (by rw [hlist]; exact h2) (fun _ => hSw) hK
     ·cases h
    ·split at h
     ·next i hrd =>
      split at h
      ·next o ho =>
       have hlist : (l.setIfInBounds i true).toList = l.toList.set i true := by simp
       have hready : Region.ready .any ops l = [i] := by rw [ready_eq]; exact hrd
       have hun : l.getD i true = false := (mem_ready.1 (by rw [hready]; exact List.mem_cons_self ..)).1
       refine wpAnyLast_all hready (by simp) fun j hj => ?_
       obtain rfl : j = i := by simpa using hj
       have hmem : j ∈ bH ops ↔ eH o.op = true := by
        unfold bH
        rw [List.mem_filter, List.mem_range, ho]
        exact ⟨fun hh => hh.2, fun hh => ⟨(Array.getElem?_eq_some_iff.1 ho).1, hh⟩⟩
       have hSn : ∀ w' : World, (j ∉ bH ops → Below w.heap.size w w') → (∀ d ∈ bH ops, (l.setIfInBounds j true).getD d true = false) → ∀ g e ss, look heap0 g = some (e, ss) → w'.heap[m0 g]? = some (.cells (vals m0 ss).toArray e (0, 0)) := by
        intro w' hb hd g e ss hg
        have hnot : j ∉ bH ops := fun hh => by
         have := hd j hh
         have hlt : j < l.size := by
          rcases Nat.lt_or_ge j l.size with h' | h'
          ·exact h'
          ·rw [Array.getD_eq_getD_getElem?, Array.getElem?_eq_none h'] at hun; cases hun
         simp [hlt] at this
        have h0 := hS (fun d hdm => by
         have hne : j ≠ d := fun hh => hnot (by rw [hh]; exact hdm)
         rw [← hd d hdm, getD_set_ne true hne]) g e ss hg
        exact (hb hnot).block _ (blk_lt h0) |>.trans h0
       obtain ⟨s', hr', hnx, _, hc⟩ := fJ hr h
       unfold wpOp
       rw [ho]
       show if Region.wanted o (yielded ops a.tmps) = true then _ else _
       rcases hc with ⟨hw, hy⟩ | ⟨hw, hno⟩
       ·rw [if_pos hw]
        obtain ⟨s2, h2, h3⟩ := rG hcl hr' hy
        refine .inl (h3 _ Q fun m' a' w' hr2 hmm hnn hb => ?_)
        have hb' : j ∉ bH ops → Below w.heap.size w w' := fun hh => hb (by
         cases hst : eH o.op
         ·rfl
         ·exact absurd (hmem.2 hst) hh)
        exact ⟨fun hnot hSw g e ss hg => ((hb' hnot).block _ (blk_lt (hSw g e ss hg))).trans (hSw g e ss hg), ih hr2 (by omega) (fun g hg => (hmm g (by omega)).trans (hm0 g hg)) (by rw [hlist]; exact h2) (hSn w' hb') hK⟩
       ·rw [if_neg (by rw [hw]; decide)]
        obtain ⟨h2, hr2⟩ := gL hr' hno
        exact ⟨fun _ hSw => hSw, ih hr2 (by cases o.dst <;> (show next0 ≤ s'.next; omega)) hm0 (by rw [hlist]; exact h2) (hSn w (fun _ => Below.refl _ _)) hK⟩
      ·cases h
     ·cases h
theorem sG {R : Type} {w0 : World} {nt n id : Nat} {ops : Array Oper} {draw : Bool} {s : St} {K : St → Option R} {r : R} {m : Nat → Nat} {a : Act} {w : World} {Q : Exit → Act → World → Prop} (hr : Rel w0 nt m s a w) (hQ : ∀ c a w, ¬ Q (.panic c) a w)
  (h : tJ P nt cl n ops draw s K = some r) (hK : ∀ s' m' a' w', K s' = some r → Rel w0 nt m' s' a' w' → Q .normal a' w') : (Code.region id ops draw).wp P Q a w := by
 unfold tJ at h
 cases draw with
 |false => exact wp_region_list (sO hcl hr h hK)
 |true =>
  obtain ⟨h1, h2⟩ := dO h
  rw [Bool.and_eq_true] at h1
  have hw : Below w.heap.size w w.drew := below_drew (Below.refl _ _)
  refine wp_region_last (S := fun w => ∀ g e ss, look s.heap g = some (e, ss) → w.heap[m g]? = some (.cells (vals m ss).toArray e (0, 0))) (ds := bH ops) h1.1 ?_
  refine rO hcl h1.2 (next0 := s.next) (fun g e ss hg => ⟨(hr.heap g e ss hg).1, (hr.heap g e ss hg).2.1⟩) hQ (hr.grow hw) (Nat.le_refl _) (fun _ _ => rfl) (by rw [Array.toList_replicate]; exact h2) (fun _ g e ss hg => (hr.heap g e ss hg).2.2.1) hK
end
/- Code, and functions: what the reckoner answers, the machine answers. -/

section
variable (m : Nat → Nat)
theorem C.pY (c : C) : c.gen.v m = c.v m := by cases c <;> rfl
theorem S.pY (s : S) : s.gen.v m = s.v m := by
 cases s with
 |c u => show [u.gen.v m] = [u.v m]; rw [C.pY]
 |a => rfl
theorem uI (ss : List S) : vals m (ss.map S.gen) = vals m ss := by
 induction ss with
 |nil => rfl
 |cons s r ih => show s.gen.v m ++ vals m (r.map S.gen) = _; rw [S.pY, ih]; rfl
theorem PV.pY (v : PV) : v.gen.v m = v.v m := by
 cases v with
 |one c => exact C.pY m c
 |agg ss => show Value.agg _ = Value.agg _; rw [uI]
theorem SV.pY (v : SV) : v.gen.v m = v.v m := by
 cases v with
 |pv u => exact PV.pY m u
 |tup vs =>
  show Value.tuple _ = Value.tuple _
  rw [List.map_map]
  congr 2
  exact List.map_congr_left fun u _ => PV.pY m u
 |und => rfl
end
section
variable {N : Nat}
theorem C.kL {c : C} (h : c.ok N) : c.gen.ok N := by cases c <;> exact h
theorem S.kL {s : S} (h : s.ok N) : s.gen.ok N := by
 cases s with
 |c u => exact C.kL h
 |a => exact h
theorem zC {ss : List S} (h : oks N ss) : oks N (ss.map S.gen) := by
 induction ss with
 |nil => trivial
 |cons s r ih => exact ⟨S.kL h.1, ih h.2⟩
theorem PV.kL {v : PV} (h : v.ok N) : v.gen.ok N := by
 cases v with
 |one c => exact C.kL h
 |agg ss => exact zC h
theorem SV.kL {v : SV} (h : v.ok N) : v.gen.ok N := by
 cases v with
 |pv u => exact PV.kL h
 |tup vs =>
  intro u hu
  obtain ⟨x, hx, rfl⟩ := List.mem_map.1 hu
  exact PV.kL (h x hx)
 |und => trivial
end
theorem rP {env : List (Nat × SV)} {mk : Nat} : ∀ {n t : Nat} {v : SV}, look (oJ env mk n) t = some v → ∃ u, look env t = some u ∧ v = u.gen := by
 intro n
 induction n with
 |zero => intro t v h; cases h
 |succ n ih =>
  intro t v h
  unfold oJ at h
  cases hb : Nat.beq (Nat.land (Nat.shiftRight mk n) 1) 1
  ·rw [hb] at h; exact ih h
  ·rw [hb] at h
   simp only [cnd] at h
   split at h
   ·next u hu =>
    rw [dF] at h
    by_cases c : n = t
    ·rw [if_pos c] at h; cases h; subst c; exact ⟨u, hu, rfl⟩
    ·rw [if_neg c] at h; exact ih h
   ·exact ih h
theorem rQ {mk : Nat} {heap : List (Nat × Nat × List S)} : ∀ {g e : Nat} {ss : List S}, look (lX mk heap) g = some (e, ss) → ∃ q, look heap g = some (e, q) ∧ ss = q.map S.gen := by
 induction heap with
 |nil => intro g e ss h; cases h
 |cons p r ih =>
  obtain ⟨k, t, q⟩ := p
  intro g e ss h
  have keep : ∀ {g e ss}, k ≠ g → look (lX mk r) g = some (e, ss) → ∃ q', look ((k, t, q) :: r) g = some (e, q') ∧ ss = q'.map S.gen := by
   intro g e ss hk h
   obtain ⟨q', h1, h2⟩ := ih h
   exact ⟨q', by rw [dF, if_neg hk]; exact h1, h2⟩
  unfold lX at h
  cases hb : Nat.beq (Nat.land (Nat.shiftRight mk k) 1) 1
  ·rw [hb] at h
   simp only [cnd] at h
   by_cases c : k = g
   ·exfalso
    subst c
    -- a block whose bit isn't set isn't kept
    have : ∀ (l : List (Nat × Nat × List S)), look (lX mk l) k = none := by
     intro l
     induction l with
     |nil => rfl
     |cons p l ihl =>
      obtain ⟨k', t', q'⟩ := p
      unfold lX
      cases hb' : Nat.beq (Nat.land (Nat.shiftRight mk k') 1) 1
      ·exact ihl
      ·simp only [cnd]
       rw [dF, if_neg (fun hh => by rw [hh, hb] at hb'; cases hb')]
       exact ihl
    rw [this] at h; cases h
   ·exact keep c h
  ·rw [hb] at h
   simp only [cnd] at h
   rw [dF] at h
   by_cases c : k = g
   ·rw [if_pos c] at h
    cases h
    exact ⟨q, by rw [dF, if_pos c], rfl⟩
   ·rw [if_neg c] at h; exact keep c h
theorem nG (a b : Nat) : a ≤ xK a b := by
 unfold xK
 cases h : Nat.ble a b
 ·exact Nat.le_refl _
 ·exact Nat.le_of_ble_eq_true h
theorem lW (a b : Nat) : b ≤ xK a b := by
 unfold xK
 cases h : Nat.ble a b
 ·have : ¬ a ≤ b := fun hh => by rw [Nat.ble_eq_true_of_le hh] at h; cases h
  show b ≤ a; omega
 ·exact Nat.le_refl _
section
variable {N : Nat}
theorem C.nT {c : C} (h : c.ok N) : c.ok c.top := by
 cases c with
 |pd g o j n => exact ⟨Nat.lt_succ_self _, h.2⟩
 |p g o => exact Nat.lt_succ_self _
 |sl g o n c => exact Nat.lt_succ_self _
 |_ => trivial
theorem xY {ss : List S} (h : oks N ss) : oks (tops ss) ss := by
 induction ss with
 |nil => trivial
 |cons s r ih =>
  cases s with
  |c u => exact ⟨C.dM (nG _ _) (C.nT h.1), eX (lW _ _) (ih h.2)⟩
  |a k xs n => exact ⟨h.1, ih h.2⟩
theorem PV.nT {v : PV} (h : v.ok N) : v.ok (tops v.segs) := by
 cases v with
 |one c => exact C.dM (nG _ _) (C.nT h)
 |agg ss => exact xY h
theorem SV.nT {v : SV} (h : v.ok N) : v.ok v.top := by
 cases v with
 |pv u => exact PV.nT h
 |tup vs =>
  show ∀ v ∈ vs, v.ok (topsV vs)
  have h' : ∀ v ∈ vs, v.ok N := h
  clear h
  induction vs with
  |nil => intro v hv; cases hv
  |cons u r ih =>
   intro v hv
   rcases List.mem_cons.1 hv with rfl | hv
   ·exact PV.dM (nG _ _) (PV.nT (h' v (List.mem_cons_self ..)))
   ·exact PV.dM (lW _ _) (ih (fun w hw => h' w (List.mem_cons_of_mem _ hw)) v hv)
 |und => trivial
end
theorem topE_le {env : List (Nat × SV)} {t : Nat} {v : SV} (h : look env t = some v) : v.top ≤ topE env := by
 induction env with
 |nil => cases h
 |cons p r ih =>
  obtain ⟨k, u⟩ := p
  rw [dF] at h
  by_cases c : k = t
  ·rw [if_pos c] at h; cases h; exact nG _ _
  ·rw [if_neg c] at h; exact Nat.le_trans (ih h) (lW _ _)
theorem topH_le {heap : List (Nat × Nat × List S)} {g e : Nat} {ss : List S} (h : look heap g = some (e, ss)) : g < topH heap ∧ tops ss ≤ topH heap := by
 induction heap with
 |nil => cases h
 |cons p r ih =>
  obtain ⟨k, t, q⟩ := p
  rw [dF] at h
  by_cases c : k = g
  ·rw [if_pos c] at h
   cases h
   subst c
   exact ⟨nG _ _, Nat.le_trans (nG _ _) (lW _ _)⟩
  ·rw [if_neg c] at h
   obtain ⟨h1, h2⟩ := ih h
   have := Nat.le_trans (lW (tops q) (topH r)) (lW (k + 1) (xK (tops q) (topH r)))
   exact ⟨Nat.lt_of_lt_of_le h1 this, Nat.le_trans h2 this⟩
theorem sI {w0 : World} {nt mk : Nat} {m : Nat → Nat} {s : St} {a : Act} {w : World} (h : Rel w0 nt m s a w) : Rel w0 nt m (clean nt mk s) a w := by
 have k : ∀ {g e ss}, look (clean nt mk s).heap g = some (e, ss) → ∃ q, look s.heap g = some (e, q) ∧ ss = q.map S.gen := fun h => rQ h
 refine ⟨h.size, h.dfr, ?_, ?_, ?_, h.bel⟩
 ·intro t v hv
  obtain ⟨u, hu, rfl⟩ := rP hv
  obtain ⟨o, e⟩ := h.env t u hu
  refine ⟨SV.dM (Nat.le_trans (topE_le hv) (nG _ _)) (SV.nT (SV.kL o)), by rw [SV.pY]; exact e⟩
 ·intro g e ss hg
  obtain ⟨q, h1, rfl⟩ := k hg
  obtain ⟨a1, a2, a3, a4⟩ := h.heap g e q h1
  obtain ⟨c1, c2⟩ := topH_le hg
  exact ⟨Nat.lt_of_lt_of_le c1 (lW _ _), eX (Nat.le_trans c2 (lW _ _)) (xY (zC a2)), by rw [uI]; exact a3, a4⟩
 ·intro g g' h1 h2 h3
  have k' : ∀ g, (look (clean nt mk s).heap g).isSome = true → (look s.heap g).isSome = true := fun g hg => by
   obtain ⟨⟨e, ss⟩, he⟩ := Option.isSome_iff_exists.mp hg
   obtain ⟨q, h1, _⟩ := k he
   rw [h1]; rfl
  exact h.inj g g' (k' g h1) (k' g' h2) h3

def Out.exit : Out → Exit
 |.nor => .normal
 |.ret => .ret
 |.ex id => .exit id
section
variable {P : Program} {cl : Cls} (hcl : bU P cl) {R : Type} {w0 : World} {nt rm : Nat} {cuts : List Nat} {r : R}
def Does (P : Program) (w0 : World) (nt : Nat) (r : R) (c : Code) (f : St → (Out → St → Option R) → Option R) : Prop :=
 ∀ (s : St) (K : Out → St → Option R) (m : Nat → Nat) (a : Act) (w : World) (Q : Exit → Act → World → Prop), Rel w0 nt m s a w → (∀ c a w, ¬ Q (.panic c) a w) → f s K = some r →
  (∀ o s' m' a' w', K o s' = some r → Rel w0 nt m' s' a' w' → Q o.exit a' w') → c.wp P Q a w
theorem xP {c : Code} {f : Nat → St → (Out → St → Option R) → Option R} {mk : Nat} (hf : ∀ n, Does P w0 nt r c (f n)) : ∀ (n : Nat) (s : St) (K : Out → St → Option R) (m : Nat → Nat) (a : Act) (w : World) (Q : Exit → Act → World → Prop), Rel w0 nt m s a w →
  (∀ c a w, ¬ Q (.panic c) a w) → oC nt f mk n s K = some r → (∀ o s' m' a' w', K o s' = some r → Rel w0 nt m' s' a' w' → Q o.exit a' w') → Code.rounds P c Q n a w := by
 intro n
 induction n with
 |zero => intro s K m a w Q _ _ h _; cases h
 |succ n ih =>
  intro s K m a w Q hr hQ h hK
  unfold oC at h
  refine hf n s _ m a w _ hr (fun c a w => hQ c a w) h fun o s' m' a' w' ho hr' => ?_
  cases o with
  |nor => exact ih _ _ m' a' w' Q (sI hr') hQ ho hK
  |ret => exact hK .ret _ _ _ _ ho hr'
  |ex id => exact hK (.ex id) _ _ _ _ ho hr'
include hcl in
theorem evC_v : ∀ (c : Code) (lv : Nat) (ex : List (Nat × Nat)) (n : Nat), Does P w0 nt r c (evC P nt cl rm cuts c lv ex n) := by
 intro c
 induction c with
 |skip => intro lv ex n s K m a w Q hr _ h hK; exact wp_skip (hK .nor _ _ _ _ h hr)
 |region id ops draw => intro lv ex n s K m a w Q hr hQ h hK; exact sG hcl hr hQ h (fun s' m' a' w' h' hr' => hK .nor _ _ _ _ h' hr')
 |seq x y ihx ihy =>
  intro lv ex n s K m a w Q hr hQ h hK
  refine wp_seq (ihx _ _ _ s _ m a w _ hr (fun c a w => hQ c a w) h fun o s' m' a' w' ho hr' => ?_)
  cases o with
  |nor =>
   have ho : (cnd (cutAt cuts y) (evJ (fun s => evC P nt cl rm cuts y lv ex n s K) (clean nt (lvC rm y lv ex) s')) <| evC P nt cl rm cuts y lv ex n s' K) = some r := ho
   show y.wp P Q a' w'
   rcases l8 ho with ⟨_, h1⟩ | ⟨_, h1⟩
   ·exact ihy _ _ _ _ K m' a' w' Q (sI hr') hQ h1 hK
   ·exact ihy _ _ _ _ K m' a' w' Q hr' hQ h1 hK
  |ret => exact hK .ret _ _ _ _ ho hr'
  |ex id => exact hK (.ex id) _ _ _ _ ho hr'
 |cond x y z ihy ihz =>
  intro lv ex n s K m a w Q hr hQ h hK
  unfold evC at h
  split at h
  ·next e he =>
   obtain ⟨_, eb⟩ := eO hr.env he
   have eb' : a.eval x = .bool e.d := eb
   rw [BE.yO] at h
   refine wp_cond_split eb' (fun hd => ?_) (fun hd => ?_)
   ·rw [if_pos hd] at h; exact ihy _ _ _ _ K m a w Q hr hQ h hK
   ·rw [if_neg (by rw [hd]; decide)] at h; exact ihz _ _ _ _ K m a w Q hr hQ h hK
  ·cases h
 |block id x ih =>
  intro lv ex n s K m a w Q hr hQ h hK
  refine wp_block (ih _ _ _ s _ m a w _ hr (fun c a w => hQ c a w) h fun o s' m' a' w' ho hr' => ?_)
  cases o with
  |nor => exact hK .nor _ _ _ _ ho hr'
  |ret => exact hK .ret _ _ _ _ ho hr'
  |ex j =>
   show if j = id then Q .normal a' w' else Q (.exit j) a' w'
   have ho : (cnd (Nat.beq j id) (K .nor s') <| K (.ex j) s') = some r := ho
   rcases l8 ho with ⟨h0, h1⟩ | ⟨h0, h1⟩
   ·rw [if_pos (Nat.eq_of_beq_eq_true h0)]; exact hK .nor _ _ _ _ h1 hr'
   ·rw [if_neg (Nat.ne_of_beq_eq_false h0)]; exact hK (.ex j) _ _ _ _ h1 hr'
 |loop x ih =>
  intro lv ex n s K m a w Q hr hQ h hK
  exact wp_loop_rounds n (xP (fun n => ih _ _ n) n _ K m a w Q (sI hr) hQ h hK)
 |exit id => intro lv ex n s K m a w Q hr _ h hK; exact wp_exit (hK (.ex id) _ _ _ _ h hr)
 |ret => intro lv ex n s K m a w Q hr _ h hK; exact wp_ret (hK .ret _ _ _ _ h hr)
 |_ => intro lv ex n s K m a w Q hr _ h hK; cases h

def jA (tmps : Array Value) : ResultVar → Sem Value
 |.tmp t => pure (tmps.getD t undef)
 |.cell b t => do loadVar t (← asAddr (tmps.getD b undef))
theorem lI (fn : Func) (tmps : Array Value) : results fn tmps = (do
  let vs ← fn.results.mapM (jA tmps)
  pure (if h : vs.size = 1 then vs[0] else .tuple vs)) := by
 unfold results
 have : (fun x => match x with
   |ResultVar.tmp t => pure (tmps.getD t undef)
   |ResultVar.cell a t => do loadVar t (← asAddr (tmps.getD a undef))) = jA tmps := by funext x; cases x <;> rfl
 exact congrArg (fun f => (do
  let vs ← fn.results.mapM f
  pure (if h : vs.size = 1 then vs[0] else .tuple vs) : Sem Value)) this
theorem sV {m : Nat → Nat} {s : St} {a : Act} {w : World} (hr : Rel w0 nt m s a w) {x : ResultVar} {v : PV} (h : yK P s x = some v) :
  v.ok s.next ∧ (jA a.tmps x).run P w = .ok (v.v m) w := by
 cases x with
 |tmp t =>
  have h : (match look s.env t with
   |some (.pv v) => some v
   |_ => none) = some v := h
  split at h
  ·next u hu =>
   cases h
   obtain ⟨o, e⟩ := hr.env t _ hu
   exact ⟨o, by show (pure (a.tmps.getD t undef) : Sem Value).run P w = _; rw [Sem.run_pure, e]; rfl⟩
  ·cases h
 |cell b t =>
  have h : (match look s.env b with
   |some (.pv (.one c)) => mD P t s.heap c
   |_ => none) = some v := h
  split at h
  ·next c hc =>
   obtain ⟨o, e⟩ := hr.env b _ hc
   obtain ⟨o1, e1⟩ := kC (w := w) o (fun g e ss hg => ⟨(hr.heap g e ss hg).2.1, (hr.heap g e ss hg).2.2.1⟩) h
   refine ⟨o1, ?_⟩
   have e' : a.tmps.getD b undef = c.v m := e
   have hp : ∃ ad, c.v m = .pointer (some ad) := by
    cases c with
    |p g o => exact ⟨_, rfl⟩
    |pd g o j n => exact ⟨_, rfl⟩
    |_ => cases h
   obtain ⟨ad, had⟩ := hp
   rw [had] at e1 e'
   have e1 : (loadVar t ad).run P w = .ok (v.v m) w := e1
   show (do loadVar t (← asAddr (a.tmps.getD b undef)) : Sem Value).run P w = _
   rw [e']
   exact e1
  ·cases h
theorem o9 {m : Nat → Nat} {s : St} {a : Act} {w : World} (hr : Rel w0 nt m s a w) {xs : List ResultVar} : ∀ {vs : List PV}, jP P s xs = some vs → (∀ v ∈ vs, v.ok s.next) ∧ (xs.mapM (jA a.tmps)).run P w = .ok (vs.map (PV.v m)) w := by
 induction xs with
 |nil => intro vs h; cases h; exact ⟨by simp, by simp⟩
 |cons x r ih =>
  intro vs h
  unfold jP at h
  split at h
  ·next v ws h1 h2 =>
   cases h
   obtain ⟨o, e⟩ := sV hr h1
   obtain ⟨o', e'⟩ := ih h2
   refine ⟨fun u hu => ?_, ?_⟩
   ·rcases List.mem_cons.1 hu with rfl | hu
    ·exact o
    ·exact o' u hu
   ·rw [List.mapM_cons, Sem.run_bind, e]
    simp only [Result.andThen_ok, Sem.run_bind, e', Sem.run_pure, List.map_cons]
  ·cases h
theorem rW {m : Nat → Nat} {s : St} {a : Act} {w : World} (hr : Rel w0 nt m s a w) {fn : Func} {v : SV} (h : nI P fn s = some v) : v.ok s.next ∧ (results fn a.tmps).run P w = .ok (v.v m) w := by
 unfold nI at h
 have hrun : ∀ vs, jP P s fn.results.toList = some vs → (∀ v ∈ vs, v.ok s.next) ∧ (results fn a.tmps).run P w = .ok (if h : (vs.map (PV.v m)).toArray.size = 1 then (vs.map (PV.v m)).toArray[0] else .tuple (vs.map (PV.v m)).toArray) w := by
  intro vs hvs
  obtain ⟨o, e⟩ := o9 hr hvs
  refine ⟨o, ?_⟩
  have e2 : (fn.results.mapM (jA a.tmps)).run P w = .ok (vs.map (PV.v m)).toArray w := by
   rw [Array.mapM_eq_mapM_toList]
   simp [e]
  rw [lI, Sem.run_bind, e2]
  rfl
 split at h
 ·next u hu =>
  cases h
  obtain ⟨o, e⟩ := hrun _ hu
  exact ⟨o u (List.mem_cons_self ..), by rw [e]; rfl⟩
 ·next vs hne hu =>
  cases h
  obtain ⟨o, e⟩ := hrun _ hu
  refine ⟨o, ?_⟩
  rw [e, dif_neg]
  ·rfl
  ·intro hl
   match vs, hl, hne with
   |[u], _, hne => exact hne u rfl
 ·cases h
theorem zI {vs : List PV} : ∀ {i t : Nat} {v : SV}, look (argE vs i) t = some v → ∃ u, i ≤ t ∧ vs[t - i]? = some u ∧ v = .pv u := by
 induction vs with
 |nil => intro i t v h; cases h
 |cons u r ih =>
  intro i t v h
  unfold argE at h
  rw [dF] at h
  by_cases c : i = t
  ·rw [if_pos c] at h; cases h; subst c; exact ⟨u, Nat.le_refl _, by simp, rfl⟩
  ·rw [if_neg c] at h
   obtain ⟨x, h1, h2, h3⟩ := ih h
   refine ⟨x, by omega, ?_, h3⟩
   rw [show t - i = (t - (i + 1)) + 1 by omega, List.getElem?_cons_succ]; exact h2
include hcl in
theorem evF_v {f n : Nat} {fn : Func} {vs : List PV} {K : SV → Option R} (hf : P.funcs[f]? = some fn) (ho : ∀ v ∈ vs, v.ok 0) (h : evF P cl fn cuts n vs K = some r) :
  ∀ (m : Nat → Nat) (w : World), Calls P f (vs.map (PV.v m)).toArray w fun e w' => ∃ v m', K v = some r ∧ e = .returned (v.v m') ∧ (∃ N, v.ok N) ∧ Below w.heap.size w w' := by
 intro m w
 unfold evF at h
 split at h
 ·next c hb =>
  obtain ⟨h0, h1⟩ := dO h
  rw [Bool.and_eq_true] at h0
  have h2 := Nat.eq_of_beq_eq_true h0.1
  have h3 := Nat.le_of_ble_eq_true h0.2
  have hrel : Rel w fn.ntmps m ⟨argE vs 0, [], 0⟩ { tmps := (vs.map (PV.v m)).toArray ++ Array.replicate (fn.ntmps - (vs.map (PV.v m)).toArray.size) undef, defers := [] } w := by
   refine ⟨by simp; omega, rfl, ?_, (fun g e ss hg => nomatch hg), (fun g g' hg => nomatch hg), Below.refl _ _⟩
   intro t v hv
   obtain ⟨u, _, hu, rfl⟩ := zI hv
   rw [Nat.sub_zero] at hu
   refine ⟨ho u (List.mem_of_getElem? hu), ?_⟩
   have hlt : t < vs.length := (List.getElem?_eq_some_iff.1 hu).1
   rw [Array.getD_eq_getD_getElem?, Array.getElem?_append_left (by simpa using hlt)]
   simp [hu]
   rfl
  refine calls_of_wp hf hb ?_
  refine wp_mono (Q := fun e a' w' => (∃ v m', K v = some r ∧ (∃ N, v.ok N) ∧ a'.defers = [] ∧ (results fn a'.tmps).run P w' = .ok (v.v m') w' ∧ Below w.heap.size w w') ∧ (e = .normal ∨ e = .ret)) (evC_v hcl c _ _ n _ _ m _ w _ hrel ?_ h1 ?_) ?_
  ·rintro c a w ⟨_, h | h⟩ <;> cases h
  ·intro o s' m' a' w' hk hr'
   have fin : (match nI P fn s' with
     |some v => K v
     |none => none) = some r → ∃ v m', K v = some r ∧ (∃ N, v.ok N) ∧ a'.defers = [] ∧ (results fn a'.tmps).run P w' = .ok (v.v m') w' ∧ Below w.heap.size w w' := by
    intro hk
    split at hk
    ·next v hv =>
     obtain ⟨o1, e1⟩ := rW hr' hv
     exact ⟨v, m', hk, ⟨_, o1⟩, hr'.dfr, e1, hr'.bel⟩
    ·cases hk
   cases o with
   |nor => exact ⟨fin hk, .inl rfl⟩
   |ret => exact ⟨fin hk, .inr rfl⟩
   |ex id => cases hk
  ·rintro e a' w' ⟨⟨v, m', g1, g2, g3, g4, g5⟩, he⟩
   rcases he with rfl | rfl
   ·exact ⟨g3, _, g4, v, m', g1, rfl, g2, g5⟩
   ·exact ⟨g3, _, g4, v, m', g1, rfl, g2, g5⟩
 ·cases h
end
/- Functions of numbers, truth values, structs and arrays of these: what they are given and answer, as plain values. -/

inductive Lf where
 |i (k : IntKind)
 |b
 |a (k : IntKind) (n : Nat)
def Lf.T : Lf → Type
 |.i _ => Int
 |.b => Bool
 |.a _ _ => List Int
def Tq : List Lf → Type
 |[] => Unit
 |l :: r => l.T × Tq r
def oL : (l : Lf) → l.T → S
 |.i k, x => .c (.i k (.x x))
 |.b, x => .c (.b (.q x))
 |.a k n, xs => .a k xs n
def oN : (ls : List Lf) → Tq ls → List S
 |[], _ => []
 |l :: r, x => oL l x.1 :: oN r x.2
def takeLf : (l : Lf) → List S → Option (l.T × List S)
 |.i k, .c (.i k' x) :: r => cnd (decide (k' = k)) (some (x.d, r)) <| none
 |.b, .c (.b x) :: r => some (x.d, r)
 |.a k n, .a k' xs n' :: r => cnd (decide (k' = k) && Nat.beq n' n) (some (xs, r)) <| none
 |.a k n, ss => match kS ss n with
  |some (q, r) => match qF k q with
   |some xs => some (xs, r)
   |none => none
  |none => none
 |_, _ => none
def rC : (ls : List Lf) → List S → Option (Tq ls)
 |[], [] => some ()
 |[], _ :: _ => none
 |l :: r, ss => match takeLf l ss with
  |some (x, q) => match rC r q with
   |some y => some (x, y)
   |none => none
  |none => none
inductive Sh where
 |one (l : Lf)
 |agg (ls : List Lf)
def Sh.lfs : Sh → List Lf
 |.one l => [l]
 |.agg ls => ls
def yX (h : Sh) (v : PV) : Option (Tq h.lfs) := match h, v with
 |.one l, .one c => rC [l] [.c c]
 |.agg ls, .agg ss => rC ls ss
 |_, _ => none
def oK : (h : Sh) → Tq h.lfs → PV
 |.one l, x => match oL l x.1 with
  |.c c => .one c
  |s => .agg [s]
 |.agg ls, x => .agg (oN ls x)
def Ts : List Sh → Type
 |[] => Unit
 |h :: r => Tq h.lfs × Ts r
def takes : (hs : List Sh) → List PV → Option (Ts hs)
 |[], [] => some ()
 |[], _ :: _ => none
 |_ :: _, [] => none
 |h :: r, v :: q => match yX h v, takes r q with
  |some x, some y => some (x, y)
  |_, _ => none
def gives : (hs : List Sh) → Ts hs → List PV
 |[], _ => []
 |h :: r, x => oK h x.1 :: gives r x.2
def Sh.plain : Sh → Bool
 |.one (.a _ _) => false
 |_ => true
def nE (hs : List Sh) : SV → Option (Ts hs)
 |.pv v => takes hs [v]
 |.tup vs => cnd (Nat.beq vs.length 1) (none) <| takes hs vs
 |.und => none
def iA (hs : List Sh) (x : Ts hs) : SV := match gives hs x with
 |[v] => .pv v
 |vs => .tup vs

theorem takeLf_v (m : Nat → Nat) {N : Nat} {l : Lf} {ss r : List S} {x : l.T} (ho : oks N ss) (h : takeLf l ss = some (x, r)) : oks N r ∧ (oL l x).ok 0 ∧ vals m ss = (oL l x).v m ++ vals m r := by
 cases l with
 |i k =>
  match ss, h with
  |.c (.i k' y) :: q, h =>
   obtain ⟨h1, h2⟩ := dO h
   cases h2
   obtain rfl := of_decide_eq_true h1
   exact ⟨ho.2, trivial, rfl⟩
 |b =>
  match ss, h with
  |.c (.b y) :: q, h => cases h; exact ⟨ho.2, trivial, rfl⟩
 |a k n =>
  have gen : (match kS ss n with
    |some (q, r) => match qF k q with
     |some xs => some (xs, r)
     |none => none
    |none => none) = some (x, r) → oks N r ∧ (oL (.a k n) x).ok 0 ∧ vals m ss = (oL (.a k n) x).v m ++ vals m r := by
   intro h
   split at h
   ·next q r' hs =>
    split at h
    ·next xs hi =>
     cases h
     obtain ⟨e, hl⟩ := kJ hs
     subst e
     rw [fO] at ho
     have hv := nA m hi
     have hlen := bB m q ho.1
     refine ⟨ho.2, ?_, ?_⟩
     ·have h1 : (vals m q).length = (show List Int from x).length := by rw [hv]; exact List.length_map ..
      show (show List Int from x).length = n
      omega
     ·rw [cZ, hv]; rfl
    ·cases h
   ·cases h
  match ss, h with
  |.a k' xs n' :: q, h =>
   obtain ⟨h1, h2⟩ := dO h
   cases h2
   rw [Bool.and_eq_true] at h1
   obtain rfl := of_decide_eq_true h1.1
   obtain rfl := Nat.eq_of_beq_eq_true h1.2
   exact ⟨ho.2, ho.1, rfl⟩
  |[], h => exact gen h
  |.c u :: q, h => exact gen h
theorem uA (m : Nat → Nat) {N : Nat} : ∀ {ls : List Lf} {ss : List S} {x : Tq ls}, oks N ss → rC ls ss = some x → oks 0 (oN ls x) ∧ vals m ss = vals m (oN ls x) := by
 intro ls
 induction ls with
 |nil =>
  intro ss x _ h
  cases ss with
  |nil => exact ⟨trivial, rfl⟩
  |cons s r => cases h
 |cons l ls ih =>
  intro ss x ho h
  unfold rC at h
  split at h
  ·next y q hy =>
   split at h
   ·next z hz =>
    cases h
    obtain ⟨o1, o2, e⟩ := takeLf_v m ho hy
    obtain ⟨o3, e2⟩ := ih o1 hz
    exact ⟨⟨o2, o3⟩, by rw [e, e2]; rfl⟩
   ·cases h
  ·cases h
theorem o7 (m : Nat → Nat) {N : Nat} {h : Sh} {v : PV} {x : Tq h.lfs} (hp : h.plain = true) (ho : v.ok N) (ht : yX h v = some x) : (oK h x).ok 0 ∧ v.v m = (oK h x).v m := by
 cases h with
 |one l =>
  cases v with
  |agg ss => cases ht
  |one c =>
   obtain ⟨o1, e⟩ := uA m (ls := [l]) (ss := [.c c]) (N := N) ⟨ho, trivial⟩ ht
   have e : [c.v m] = vals m (oN [l] x) := e
   cases l with
   |a k n => cases hp
   |i k =>
    refine ⟨trivial, ?_⟩
    have : [c.v m] = [Value.int k x.1] := e
    exact (List.cons.inj this).1
   |b =>
    refine ⟨trivial, ?_⟩
    have : [c.v m] = [Value.bool x.1] := e
    exact (List.cons.inj this).1
 |agg ls =>
  cases v with
  |one c => cases ht
  |agg ss =>
   obtain ⟨o1, e⟩ := uA m ho ht
   exact ⟨o1, by show Value.agg _ = Value.agg _; rw [e]⟩
theorem tK {N : Nat} : ∀ {hs : List Sh} {vs : List PV} {x : Ts hs}, hs.all Sh.plain = true → (∀ v ∈ vs, v.ok N) → takes hs vs = some x → (∀ v ∈ gives hs x, v.ok 0) ∧ ∀ m, vs.map (PV.v m) = (gives hs x).map (PV.v m) := by
 intro hs
 induction hs with
 |nil =>
  intro vs x _ _ h
  cases vs with
  |nil => exact ⟨(fun v hv => nomatch hv), fun _ => rfl⟩
  |cons v r => cases h
 |cons h hs ih =>
  intro vs x hp ho ht
  cases vs with
  |nil => cases ht
  |cons v r =>
   rw [List.all_cons, Bool.and_eq_true] at hp
   unfold takes at ht
   split at ht
   ·next y z hy hz =>
    cases ht
    obtain ⟨o2, e2⟩ := ih hp.2 (fun u hu => ho u (List.mem_cons_of_mem _ hu)) hz
    have hv := ho v (List.mem_cons_self ..)
    refine ⟨fun u hu => ?_, fun m => ?_⟩
    ·have hu : u ∈ oK h y :: gives hs z := hu
     rcases List.mem_cons.1 hu with rfl | hu
     ·exact (o7 id hp.1 hv hy).1
     ·exact o2 u hu
    ·show v.v m :: r.map (PV.v m) = (oK h y).v m :: (gives hs z).map (PV.v m)
     rw [(o7 m hp.1 hv hy).2, e2 m]
   ·cases ht
theorem takeR_v {N : Nat} {hs : List Sh} {v : SV} {x : Ts hs} (hp : hs.all Sh.plain = true) (ho : v.ok N) (h : nE hs v = some x) : (iA hs x).ok 0 ∧ ∀ m m', v.v m' = (iA hs x).v m := by
 have cong : ∀ (vs : List PV), (∀ v ∈ vs, v.ok 0) → ∀ m m' : Nat → Nat, vs.map (PV.v m') = vs.map (PV.v m) := fun vs hv m m' =>
  List.map_congr_left fun u hu => PV.dU (N := 0) (fun g hg => absurd hg (Nat.not_lt_zero _)) (hv u hu)
 have main : ∀ vs : List PV, (∀ v ∈ vs, v.ok N) → takes hs vs = some x → (∀ v ∈ gives hs x, v.ok 0) ∧ ∀ m m', vs.map (PV.v m') = (gives hs x).map (PV.v m) := fun vs hv ht => by
  obtain ⟨o, e⟩ := tK hp hv ht
  exact ⟨o, fun m m' => (e m').trans (cong _ o m m')⟩
 cases v with
 |und => cases h
 |pv u =>
  obtain ⟨o, e⟩ := main [u] (by intro v hv; rcases List.mem_cons.1 hv with rfl | hv; exact ho; cases hv) h
  unfold iA
  have hl : (gives hs x).length = 1 := by
   have := congrArg List.length (e id id); simpa using this.symm
  match hg : gives hs x, hl with
  |[w], _ =>
   rw [hg] at o e
   refine ⟨o w (List.mem_cons_self ..), fun m m' => ?_⟩
   have := e m m'
   exact (List.cons.inj this).1
 |tup vs =>
  have h0 : (cnd (Nat.beq vs.length 1) (none) <| takes hs vs) = some x := h
  have hne : vs.length ≠ 1 := by
   intro hl
   rw [hl] at h0
   cases h0
  have h' : takes hs vs = some x := by
   rcases l8 h0 with ⟨_, h1⟩ | ⟨_, h1⟩
   ·cases h1
   ·exact h1
  obtain ⟨o, e⟩ := main vs ho h'
  have hl : (gives hs x).length ≠ 1 := by
   intro hl
   have := congrArg List.length (e id id)
   simp only [List.length_map] at this
   omega
  have hg : iA hs x = .tup (gives hs x) := by
   unfold iA
   split
   ·next u hu => rw [hu] at hl; exact absurd rfl hl
   ·rfl
  rw [hg]
  exact ⟨o, fun m m' => by show Value.tuple _ = Value.tuple _; rw [e m m']⟩

def Lf.na : Lf → Bool
 |.a _ _ => false
 |_ => true
theorem wE : ∀ {ls : List Lf} (x : Tq ls), ls.all Lf.na = true → oks 0 (oN ls x) := by
 intro ls
 induction ls with
 |nil => intro x _; trivial
 |cons l ls ih =>
  intro x h
  rw [List.all_cons, Bool.and_eq_true] at h
  refine ⟨?_, ih x.2 h.2⟩
  cases l with
  |a k n => cases h.1
  |i k => trivial
  |b => trivial
theorem uC : ∀ {hs : List Sh} (x : Ts hs), hs.all (fun s => s.lfs.all Lf.na) = true → ∀ v ∈ gives hs x, v.ok 0 := by
 intro hs
 induction hs with
 |nil => intro x _ v hv; cases hv
 |cons h hs ih =>
  intro x hh v hv
  rw [List.all_cons, Bool.and_eq_true] at hh
  rcases List.mem_cons.1 hv with rfl | hv
  ·cases h with
   |agg ls => exact wE x.1 hh.1
   |one l =>
    cases l with
    |a k n => have := hh.1; cases this
    |i k => trivial
    |b => trivial
  ·exact ih x.2 hh.2 v hv
theorem cB {hs : List Sh} (h : hs.all (fun s => s.lfs.all Lf.na) = true) (x : Ts hs) : (iA hs x).ok 0 := by
 have k := uC x h
 unfold iA
 split
 ·next v hv => exact k v (by rw [hv]; exact List.mem_cons_self ..)
 ·exact k
def iH (as_ rs : List Sh) {T : Type} (un : T → Ts rs) (g : Nat → Ts as_ → Option T) : Fc := ⟨fun _ n _ vs K => match takes as_ vs with
 |some x => (g n x).bind fun y => K (iA rs (un y))
 |none => none⟩
theorem bU.nil {P : Program} : bU P [] := fun _ _ h => nomatch h
theorem bU.cons {P : Program} {f : FuncId} {c : Fc} {cl : Cls} (h : gX P f c) (k : bU P cl) : bU P ((f, c) :: cl) := fun f' c' hl => by
 rw [dF] at hl
 by_cases e : f = f'
 ·rw [if_pos e] at hl; cases hl; subst e; exact h
 ·rw [if_neg e] at hl; exact k f' c' hl
theorem dV {P : Program} {f : FuncId} {fn : Func} {as_ rs : List Sh} {T : Type} {un : T → Ts rs} {g : Nat → Ts as_ → Option T} (hf : P.funcs[f]? = some fn) (hb : fn.body.isSome = true) (hn : (fn.name == "runtime.NumGoroutine") = false)
  (hp : (as_.all Sh.plain && rs.all Sh.plain) = true) (h0 : ∀ y, (iA rs (un y)).ok 0) (hc : ∀ n x y, g n x = some y → ∀ (m : Nat → Nat) (w : World), Calls P f ((gives as_ x).map (PV.v m)).toArray w fun e w' => e = .returned ((iA rs (un y)).v m) ∧ Below w.heap.size w w') : gX P f (iH as_ rs un g) := by
 rw [Bool.and_eq_true] at hp
 refine ⟨⟨fn, hf, hb, hn⟩, fun R n N _ vs K r ho h => ?_⟩
 have h : (match takes as_ vs with
  |some x => (g n x).bind fun y => K (iA rs (un y))
  |none => none) = some r := h
 split at h
 ·next x hx =>
  obtain ⟨y, hy, hK⟩ := Option.bind_eq_some_iff.mp h
  obtain ⟨o1, e1⟩ := tK hp.1 ho hx
  exact ⟨_, hK, h0 y, fun m w _ => by rw [e1 m]; exact hc n x y hy m w⟩
 ·cases h
theorem mkOk {P : Program} {cl : Cls} (hcl : bU P cl) {f : FuncId} {fn : Func} {cuts : List Nat} {as_ rs : List Sh} {T : Type} {cv : Ts rs → T} {un : T → Ts rs} {g : Nat → Ts as_ → Option T} (hf : P.funcs[f]? = some fn) (hb : fn.body.isSome = true) (hn : (fn.name == "runtime.NumGoroutine") = false)
  (hp : (as_.all Sh.plain && rs.all Sh.plain) = true) (hu : ∀ z, un (cv z) = z) (hg : ∀ n x, g n x = evF P cl fn cuts n (gives as_ x) (fun v => (nE rs v).map cv)) : gX P f (iH as_ rs un g) := by
 rw [Bool.and_eq_true] at hp
 refine ⟨⟨fn, hf, hb, hn⟩, fun R n N _ vs K r ho h => ?_⟩
 have h : (match takes as_ vs with
  |some x => (g n x).bind fun y => K (iA rs (un y))
  |none => none) = some r := h
 split at h
 ·next x hx =>
  obtain ⟨y, hy, hK⟩ := Option.bind_eq_some_iff.mp h
  rw [hg] at hy
  obtain ⟨o1, e1⟩ := tK hp.1 ho hx
  refine ⟨_, hK, ?_⟩
  have hc : ∀ m w, Calls P f (vs.map (PV.v m)).toArray w fun e w' => (iA rs (un y)).ok 0 ∧ e = .returned ((iA rs (un y)).v m) ∧ Below w.heap.size w w' := fun m w => by
   rw [e1 m]
   refine (evF_v hcl hf o1 hy m w).mono ?_
   rintro e w' ⟨v, m', h1, rfl, ⟨N, h2⟩, h3⟩
   obtain ⟨z, hz, rfl⟩ := Option.map_eq_some_iff.mp h1
   rw [hu]
   obtain ⟨k1, k2⟩ := takeR_v hp.2 h2 hz
   exact ⟨k1, by rw [k2 m m'], h3⟩
  refine ⟨?_, fun m w _ => (hc m w).mono fun e w' he => he.2⟩
  obtain ⟨e, w', fr, hR, _⟩ := hc id default []
  exact hR.1
 ·cases h
theorem jU {P : Program} {f : FuncId} {as_ rs : List Sh} {T : Type} {un : T → Ts rs} {g : Nat → Ts as_ → Option T} (hok : gX P f (iH as_ rs un g)) (n : Nat) (x : Ts as_) (y : T) (ht : takes as_ (gives as_ x) = some x) (h : g n x = some y) (w : World) (hp : as_.all (fun s => s.lfs.all Lf.na) = true := by decide) :
  Calls P f ((gives as_ x).map (PV.v id)).toArray w fun e w' => e = .returned ((iA rs (un y)).v id) ∧ Below w.heap.size w w' := by
 have hr : (iH as_ rs un g).run SV n [] (gives as_ x) some = some (iA rs (un y)) := by
  show (match takes as_ (gives as_ x) with
   |some x => (g n x).bind fun y => some (iA rs (un y))
   |none => none) = _
  rw [ht]
  show (g n x).bind _ = _
  rw [h]; rfl
 obtain ⟨v, hv, _, hc⟩ := hok.run SV n 0 [] (gives as_ x) some _ (uC x hp) hr
 cases hv
 exact hc id w ⟨0, fun g e ss h => nomatch h⟩
inductive Ar where
 |s (h : Sh)
 |sl (k : IntKind)
def Ta : List Ar → Type
 |[] => Unit
 |.s h :: r => Tq h.lfs × Ta r
 |.sl _ :: r => List Int × Ta r
def tH (h : List (Nat × Nat × List S)) (k : IntKind) : PV → Option (List Int)
 |.one (.sl g o n c) => match look h g with
  |some (_, [.a k' xs q]) => cnd (Nat.beq o 0 && Nat.beq q n && Nat.ble n c && Nat.ble n 1000 && decide (k' = k)) (some xs) <| none
  |_ => none
 |_ => none
def takeA (h : List (Nat × Nat × List S)) : (as_ : List Ar) → List PV → Option (Ta as_)
 |[], [] => some ()
 |[], _ :: _ => none
 |_ :: _, [] => none
 |.s p :: r, v :: q => match yX p v, takeA h r q with
  |some x, some y => some (x, y)
  |_, _ => none
 |.sl k :: r, v :: q => match tH h k v, takeA h r q with
  |some x, some y => some (x, y)
  |_, _ => none
def Are (w : World) : (as_ : List Ar) → Ta as_ → List Value → Prop
 |[], _, vs => vs = []
 |.s p :: r, x, vs => ∃ q, vs = (oK p x.1).v id :: q ∧ Are w r x.2 q
 |.sl k :: r, x, vs => ∃ A c q, vs = .slice A x.1.length c :: q ∧ Kd.C (Kd.int k) w A x.1.length x.1 ∧ x.1.length ≤ c ∧ Are w r x.2 q
def Ar.plain : Ar → Bool
 |.s h => h.plain
 |_ => true
theorem xH {h : List (Nat × Nat × List S)} {k : IntKind} {v : PV} {xs : List Int} (e : tH h k v = some xs) {m : Nat → Nat} {w : World} (hw : xO m h w) : ∃ A c, v.v m = .slice A xs.length c ∧ Kd.C (Kd.int k) w A xs.length xs ∧ xs.length ≤ c := by
 unfold tH at e
 split at e
 ·next g o n c =>
  split at e
  ·next t k' ys q hl =>
   obtain ⟨h1, h2⟩ := dO e
   cases h2
   simp only [Bool.and_eq_true] at h1
   obtain ⟨⟨⟨⟨h1, h2⟩, h3⟩, h4⟩, h5⟩ := h1
   obtain rfl := Nat.eq_of_beq_eq_true h1
   obtain rfl := Nat.eq_of_beq_eq_true h2
   have h3 := Nat.le_of_ble_eq_true h3
   have h4 := Nat.le_of_ble_eq_true h4
   obtain rfl := of_decide_eq_true h5
   obtain ⟨N, hw⟩ := hw
   obtain ⟨o1, o2⟩ := hw g t _ hl
   have ol : xs.length = q := o1.1
   subst ol
   have o3 : vals m [S.a k' xs xs.length] = xs.map (Value.int k') := by show xs.map _ ++ [] = _; rw [List.append_nil]
   rw [o3] at o2
   refine ⟨some ⟨m g, 0, none⟩, c, rfl, ⟨rfl, by omega, fun _ => ⟨_, rfl, fun j p hj => ⟨[.int k' p], rfl, rfl, fun i u hu => ?_⟩⟩⟩, h3⟩
   have hi : i = 0 := by
    cases i with
    |zero => rfl
    |succ i => cases hu
   subst hi
   cases hu
   unfold World.cell? Addr.add
   have hk : (Kd.int k').sz = 1 := rfl
   by_cases j0 : j = 0
   ·subst j0; simp [hk, o2]; simpa using hj
   ·simp [hk, j0, o2]; simpa using hj
  ·cases e
 ·cases e
theorem takeA_v {h : List (Nat × Nat × List S)} {N : Nat} : ∀ {as_ : List Ar} {vs : List PV} {x : Ta as_}, as_.all Ar.plain = true → (∀ v ∈ vs, v.ok N) → takeA h as_ vs = some x → ∀ (m : Nat → Nat) (w : World), xO m h w → Are w as_ x (vs.map (PV.v m)) := by
 intro as_
 induction as_ with
 |nil =>
  intro vs x _ _ e m w _
  cases vs with
  |nil => rfl
  |cons v r => cases e
 |cons p as_ ih =>
  intro vs x hp ho e m w hw
  rw [List.all_cons, Bool.and_eq_true] at hp
  cases vs with
  |nil => cases p <;> cases e
  |cons v r =>
   cases p with
   |s q =>
    unfold takeA at e
    split at e
    ·next y z hy hz =>
     cases e
     obtain ⟨o1, e1⟩ := o7 m hp.1 (ho v (List.mem_cons_self ..)) hy
     refine ⟨r.map (PV.v m), ?_, ih hp.2 (fun u hu => ho u (List.mem_cons_of_mem _ hu)) hz m w hw⟩
     show v.v m :: _ = _
     rw [e1, PV.dU (N := 0) (m := m) (m' := id) (fun g hg => absurd hg (Nat.not_lt_zero _)) o1]
    ·cases e
   |sl k =>
    unfold takeA at e
    split at e
    ·next y z hy hz =>
     cases e
     obtain ⟨A, c, e1, e2, e3⟩ := xH hy hw
     refine ⟨A, c, r.map (PV.v m), ?_, e2, e3, ih hp.2 (fun u hu => ho u (List.mem_cons_of_mem _ hu)) hz m w hw⟩
     show v.v m :: _ = _
     rw [e1]
    ·cases e
def mkFcA (as_ : List Ar) (rs : List Sh) {T : Type} (un : T → Ts rs) (g : Nat → Ta as_ → Option T) : Fc := ⟨fun _ n h vs K => match takeA h as_ vs with
 |some x => (g n x).bind fun y => K (iA rs (un y))
 |none => none⟩
theorem oldA_ok {P : Program} {f : FuncId} {fn : Func} {as_ : List Ar} {rs : List Sh} {T : Type} {un : T → Ts rs} {g : Nat → Ta as_ → Option T} (hf : P.funcs[f]? = some fn) (hb : fn.body.isSome = true) (hn : (fn.name == "runtime.NumGoroutine") = false)
  (hp : (as_.all Ar.plain && rs.all Sh.plain) = true) (h0 : ∀ y, (iA rs (un y)).ok 0) (hc : ∀ n x y, g n x = some y → ∀ (m : Nat → Nat) (w : World) (vs : List Value), Are w as_ x vs → Calls P f vs.toArray w fun e w' => e = .returned ((iA rs (un y)).v m) ∧ Below w.heap.size w w') : gX P f (mkFcA as_ rs un g) := by
 rw [Bool.and_eq_true] at hp
 refine ⟨⟨fn, hf, hb, hn⟩, fun R n N hh vs K r ho h => ?_⟩
 have h : (match takeA hh as_ vs with
  |some x => (g n x).bind fun y => K (iA rs (un y))
  |none => none) = some r := h
 split at h
 ·next x hx =>
  obtain ⟨y, hy, hK⟩ := Option.bind_eq_some_iff.mp h
  exact ⟨_, hK, h0 y, fun m w hw => hc n x y hy m w _ (takeA_v hp.1 ho hx m w hw)⟩
 ·cases h
abbrev hI (k : IntKind) : Sh := .one (.i k)
abbrev hB : Sh := .one .b
abbrev vb (b : Bool) : SV := .pv (.one (.b (.q b)))
abbrev ci (k : IntKind) (x : Int) : S := .c (.i k (.x x))
abbrev cb (b : Bool) : S := .c (.b (.q b))
end Go.Proofs.Ytolpdiifmacdbaa.Ek

/- Entries of functions. -/
namespace Go.Proofs.Ytolpdiifmacdbaa.L
open Go.RowKit Go.Proofs.Ytolpdiifmacdbaa.P Go.Proofs.Ytolpdiifmacdbaa.Ek Go.Proofs.YtolpdiifmacdbaaW.PrintWords Go.Proofs.YtolpdiifmacdbaaW.PrintLast Go.Proofs.YtolpdiifmacdbaaW.PrintMore
noncomputable def aT.c : Fc := iH [hI .i64] [hI .i64, hI .i64] (T := Int × Int) (fun y => ((y.1, ()), (y.2, ()), ())) fun n x => aT.f x.1.1
theorem aT.ok : gX Try.prog 63 aT.c := dV Try.func63 (by kernel_rfl) (by kernel_rfl) (by decide) (fun _ => cB (by decide) _) fun n x y h m w => (aT.calls x.1.1 y.1 y.2 w h).mono fun e w' he => ⟨he.1, he.2.below⟩
noncomputable def bV.c : Fc := iH [hI .i64] [hI .u32] (T := Int) (fun y => ((y, ()), ())) fun n x => bV.f x.1.1
theorem bV.ok : gX Try.prog 65 bV.c := dV Try.func65 (by kernel_rfl) (by kernel_rfl) (by decide) (fun _ => cB (by decide) _) fun n x y h m w => (bV.calls x.1.1 y w h).mono fun e w' he => ⟨he.1, he.2.below⟩
noncomputable def aY.c : Fc := iH [hI .i64, hB] [hI .u32] (T := Int) (fun y => ((y, ()), ())) fun n x => aY.f x.1.1 x.2.1.1
theorem aY.ok : gX Try.prog 64 aY.c := dV Try.func64 (by kernel_rfl) (by kernel_rfl) (by decide) (fun _ => cB (by decide) _) fun n x y h m w => (aY.calls x.1.1 x.2.1.1 y w h).mono fun e w' he => ⟨he.1, he.2.below⟩
noncomputable def aV.cls : Cls := [(63, aT.c), (65, bV.c), (64, aY.c)]
theorem aV.jN : bU Try.prog aV.cls := bU.cons aT.ok (bU.cons bV.ok (bU.cons aY.ok (bU.nil)))
noncomputable def aV.K (v : SV) : Option (Int) := (nE [hI .u32] v).map (fun z => (z.1.1))
noncomputable def aV.cuts : List Nat := []
noncomputable def aV.f (k : Nat) (a0 a1 : Int) : Option (Int) := evF Try.prog aV.cls Try.f36 aV.cuts k [.one (.i .i64 (.x a0)), .one (.i .u32 (.x a1))] aV.K
noncomputable def aV.c : Fc := iH [hI .i64, hI .u32] [hI .u32] (T := Int) (fun y => ((y, ()), ())) fun n x => aV.f n x.1.1 x.2.1.1
theorem aV.ok : gX Try.prog 36 aV.c := mkOk aV.jN Try.func36 (by kernel_rfl) (by kernel_rfl) (by decide) (fun _ => rfl) (fun _ _ => rfl)
noncomputable def bO.c : Fc := iH [hI .i64, hB] [hI .u32] (T := Int) (fun y => ((y, ()), ())) fun n x => bO.f x.1.1 x.2.1.1
theorem bO.ok : gX Try.prog 118 bO.c := dV Try.func118 (by kernel_rfl) (by kernel_rfl) (by decide) (fun _ => cB (by decide) _) fun n x y h m w => (bO.calls x.1.1 x.2.1.1 y w h).mono fun e w' he => ⟨he.1, he.2.below⟩
noncomputable def bF.c : Fc := iH [hI .i64, hB] [hI .u32] (T := Int) (fun y => ((y, ()), ())) fun n x => bF.f x.1.1 x.2.1.1
theorem bF.ok : gX Try.prog 88 bF.c := dV Try.func88 (by kernel_rfl) (by kernel_rfl) (by decide) (fun _ => cB (by decide) _) fun n x y h m w => (bF.calls x.1.1 x.2.1.1 y w h).mono fun e w' he => ⟨he.1, he.2.below⟩
noncomputable def aW.cls : Cls := [(118, bO.c), (88, bF.c)]
theorem aW.jN : bU Try.prog aW.cls := bU.cons bO.ok (bU.cons bF.ok (bU.nil))
noncomputable def aW.K (v : SV) : Option (Int × Bool × Bool × Bool × Bool × Bool) := (nE [hI .u32, .agg [.b, .b, .b, .b, .b]] v).map (fun z => (z.1.1, z.2.1.1, z.2.1.2.1, z.2.1.2.2.1, z.2.1.2.2.2.1, z.2.1.2.2.2.2.1))
noncomputable def aW.cuts : List Nat := []
noncomputable def aW.f (k : Nat) (a0 a1 : Int) (a2 : Bool) : Option (Int × Bool × Bool × Bool × Bool × Bool) := evF Try.prog aW.cls Try.f107 aW.cuts k [.one (.i .i64 (.x a0)), .one (.i .i64 (.x a1)), .one (.b (.q a2))] aW.K
noncomputable def aW.c : Fc := iH [hI .i64, hI .i64, hB] [hI .u32, .agg [.b, .b, .b, .b, .b]] (T := Int × Bool × Bool × Bool × Bool × Bool) (fun y => ((y.1, ()), (y.2.1, y.2.2.1, y.2.2.2.1, y.2.2.2.2.1, y.2.2.2.2.2, ()), ())) fun n x => aW.f n x.1.1 x.2.1.1 x.2.2.1.1
theorem aW.ok : gX Try.prog 107 aW.c := mkOk aW.jN Try.func107 (by kernel_rfl) (by kernel_rfl) (by decide) (fun _ => rfl) (fun _ _ => rfl)
noncomputable def cO.c : Fc := iH [.agg [.b, .i .i64, .i .u64, .b]] [.agg [.b, .i .i64, .i .u64, .b]] (T := Bool × Int × Int × Bool) (fun y => ((y.1, y.2.1, y.2.2.1, y.2.2.2, ()), ())) fun n x => cO.f n x.1.1 x.1.2.1 x.1.2.2.1 x.1.2.2.2.1
theorem cO.ok : gX Try.prog 117 cO.c := dV Try.func117 (by kernel_rfl) (by kernel_rfl) (by decide) (fun _ => cB (by decide) _) fun n x y h m w => (cO.calls n x.1.1 x.1.2.1 x.1.2.2.1 x.1.2.2.2.1 y.1 y.2.1 y.2.2.1 y.2.2.2 w h).mono fun e w' he => ⟨he.1, he.2⟩
noncomputable def aH.c : Fc := iH [hI .u64, hI .i64] [hI .u64, hB] (T := Int × Bool) (fun y => ((y.1, ()), (y.2, ()), ())) fun n x => aH.f n x.1.1 x.2.1.1
theorem aH.ok : gX Try.prog 92 aH.c := dV Try.func92 (by kernel_rfl) (by kernel_rfl) (by decide) (fun _ => cB (by decide) _) fun n x y h m w => (aH.calls n x.1.1 x.2.1.1 y.1 y.2 w h).mono fun e w' he => ⟨he.1, he.2.below⟩
noncomputable def aG.cls : Cls := [(117, cO.c), (92, aH.c)]
theorem aG.jN : bU Try.prog aG.cls := bU.cons cO.ok (bU.cons aH.ok (bU.nil))
noncomputable def aG.K (v : SV) : Option (Bool × Int × Int × Bool) := (nE [.agg [.b, .i .i64, .i .u64, .b]] v).map (fun z => (z.1.1, z.1.2.1, z.1.2.2.1, z.1.2.2.2.1))
noncomputable def aG.cuts : List Nat := [7, 8, 16]
noncomputable def aG.f (k : Nat) (a0_0 : Bool) (a0_1 a0_2 : Int) (a0_3 a1_0 : Bool) (a1_1 a1_2 : Int) (a1_3 : Bool) : Option (Bool × Int × Int × Bool) := evF Try.prog aG.cls Try.f98 aG.cuts k [.agg [cb a0_0, ci .i64 a0_1, ci .u64 a0_2, cb a0_3], .agg [cb a1_0, ci .i64 a1_1, ci .u64 a1_2, cb a1_3]] aG.K
noncomputable def aG.c : Fc := iH [.agg [.b, .i .i64, .i .u64, .b], .agg [.b, .i .i64, .i .u64, .b]] [.agg [.b, .i .i64, .i .u64, .b]] (T := Bool × Int × Int × Bool) (fun y => ((y.1, y.2.1, y.2.2.1, y.2.2.2, ()), ())) fun n x => aG.f n x.1.1 x.1.2.1 x.1.2.2.1 x.1.2.2.2.1 x.2.1.1 x.2.1.2.1 x.2.1.2.2.1 x.2.1.2.2.2.1
theorem aG.ok : gX Try.prog 98 aG.c := mkOk aG.jN Try.func98 (by kernel_rfl) (by kernel_rfl) (by decide) (fun _ => rfl) (fun _ _ => rfl)
/- Entries of functions. -/
noncomputable def bN.c : Fc := iH [hI .i64, hB] [hI .u32] (T := Int) (fun y => ((y, ()), ())) fun n x => bN.f x.1.1 x.2.1.1
theorem bN.ok : gX Try.prog 89 bN.c := dV Try.func89 (by kernel_rfl) (by kernel_rfl) (by decide) (fun _ => cB (by decide) _) fun n x y h m w => (bN.calls x.1.1 x.2.1.1 y w h).mono fun e w' he => ⟨he.1, he.2.below⟩
noncomputable def aR.c : Fc := iH [hI .i64] [hI .i64, hI .i64] (T := Int × Int) (fun y => ((y.1, ()), (y.2, ()), ())) fun n x => aR.f x.1.1
theorem aR.ok : gX Try.prog 83 aR.c := dV Try.func83 (by kernel_rfl) (by kernel_rfl) (by decide) (fun _ => cB (by decide) _) fun n x y h m w => (aR.calls x.1.1 y.1 y.2 w h).mono fun e w' he => ⟨he.1, he.2.below⟩
noncomputable def bI.c : Fc := iH [hI .i64, hI .i64, hI .u64] [hI .i64] (T := Int) (fun y => ((y, ()), ())) fun n x => bI.f n x.1.1 x.2.1.1 x.2.2.1.1
theorem bI.ok : gX Try.prog 103 bI.c := dV Try.func103 (by kernel_rfl) (by kernel_rfl) (by decide) (fun _ => cB (by decide) _) fun n x y h m w => (bI.calls n x.1.1 x.2.1.1 x.2.2.1.1 y w h).mono fun e w' he => ⟨he.1, he.2⟩
noncomputable def aZ.c : Fc := iH [hI .u64, hI .i64, hB] [hI .u64, hI .i64] (T := Int × Int) (fun y => ((y.1, ()), (y.2, ()), ())) fun n x => aZ.f n x.1.1 x.2.1.1 x.2.2.1.1
theorem aZ.ok : gX Try.prog 104 aZ.c := dV Try.func104 (by kernel_rfl) (by kernel_rfl) (by decide) (fun _ => cB (by decide) _) fun n x y h m w => (aZ.calls n x.1.1 x.2.1.1 x.2.2.1.1 y.1 y.2 w h).mono fun e w' he => ⟨he.1, he.2.below⟩
noncomputable def eF.c : Fc := iH [hI .i64, hB, hI .u64, hI .i64] [hB] (T := Bool) (fun y => ((y, ()), ())) fun n x => eF.f x.1.1 x.2.1.1 x.2.2.1.1 x.2.2.2.1.1
theorem eF.ok : gX Try.prog 105 eF.c := dV Try.func105 (by kernel_rfl) (by kernel_rfl) (by decide) (fun _ => cB (by decide) _) fun n x y h m w => (eF.calls x.1.1 x.2.1.1 x.2.2.1.1 x.2.2.2.1.1 y w h).mono fun e w' he => ⟨he.1, he.2.below⟩
noncomputable def bD.c : Fc := iH [hI .i64] [hI .i64] (T := Int) (fun y => ((y, ()), ())) fun n x => bD.f x.1.1
theorem bD.ok : gX Try.prog 106 bD.c := dV Try.func106 (by kernel_rfl) (by kernel_rfl) (by decide) (fun _ => cB (by decide) _) fun n x y h m w => (bD.calls x.1.1 y w h).mono fun e w' he => ⟨he.1, he.2.below⟩
noncomputable def bK.c : Fc := iH [hI .i64] [hI .i64] (T := Int) (fun y => ((y, ()), ())) fun n x => bK.f x.1.1
theorem bK.ok : gX Try.prog 68 bK.c := dV Try.func68 (by kernel_rfl) (by kernel_rfl) (by decide) (fun _ => cB (by decide) _) fun n x y h m w => (bK.calls x.1.1 y w h).mono fun e w' he => ⟨he.1, he.2.below⟩
noncomputable def bits_Len.c : Fc := iH [hI .u64] [hI .i64] (T := Int) (fun y => ((y, ()), ())) fun n x => bits_Len.f n x.1.1
theorem bits_Len.ok : gX Try.prog 91 bits_Len.c := dV Try.func91 (by kernel_rfl) (by kernel_rfl) (by decide) (fun _ => cB (by decide) _) fun n x y h m w => (bits_Len.calls n x.1.1 y w h).mono fun e w' he => ⟨he.1, he.2.below⟩
noncomputable def dQ.c : Fc := iH [hI .u64, hI .i64] [hI .u64] (T := Int) (fun y => ((y, ()), ())) fun n x => dQ.f x.1.1 x.2.1.1
theorem dQ.ok : gX Try.prog 109 dQ.c := dV Try.func109 (by kernel_rfl) (by kernel_rfl) (by decide) (fun _ => cB (by decide) _) fun n x y h m w => (dQ.calls x.1.1 x.2.1.1 y w h).mono fun e w' he => ⟨he.1, he.2.below⟩
noncomputable def aX.c : Fc := iH [hI .i64, hB, hI .i64, hI .u32] [hI .u32] (T := Int) (fun y => ((y, ()), ())) fun n x => aX.f x.1.1 x.2.1.1 x.2.2.1.1 x.2.2.2.1.1
theorem aX.ok : gX Try.prog 108 aX.c := dV Try.func108 (by kernel_rfl) (by kernel_rfl) (by decide) (fun _ => cB (by decide) _) fun n x y h m w => (aX.calls x.1.1 x.2.1.1 x.2.2.1.1 x.2.2.2.1.1 y w h).mono fun e w' he => ⟨he.1, he.2.below⟩
noncomputable def aA.cls : Cls := [(89, bN.c), (83, aR.c), (103, bI.c), (104, aZ.c), (105, eF.c), (106, bD.c), (68, bK.c), (107, aW.c), (91, bits_Len.c), (109, dQ.c), (108, aX.c)]
theorem aA.jN : bU Try.prog aA.cls := bU.cons bN.ok (bU.cons aR.ok (bU.cons bI.ok (bU.cons aZ.ok (bU.cons eF.ok (bU.cons bD.ok (bU.cons bK.ok (bU.cons aW.ok (bU.cons bits_Len.ok (bU.cons dQ.ok (bU.cons aX.ok (bU.nil)))))))))))
noncomputable def aA.K (v : SV) : Option (Int × Bool × Bool × Bool × Bool × Bool) := (nE [hI .u32, .agg [.b, .b, .b, .b, .b]] v).map (fun z => (z.1.1, z.2.1.1, z.2.1.2.1, z.2.1.2.2.1, z.2.1.2.2.2.1, z.2.1.2.2.2.2.1))
noncomputable def aA.cuts : List Nat := [3, 9, 11, 14]
noncomputable def aA.f (k : Nat) (a0 a1 : Int) (a2 : Bool) (a3 a4 : Int) (a5 : Bool) : Option (Int × Bool × Bool × Bool × Bool × Bool) := evF Try.prog aA.cls Try.f78 aA.cuts k [.one (.i .i64 (.x a0)), .one (.i .i64 (.x a1)), .one (.b (.q a2)), .one (.i .i64 (.x a3)), .one (.i .u64 (.x a4)), .one (.b (.q a5))] aA.K
noncomputable def aA.c : Fc := iH [hI .i64, hI .i64, hB, hI .i64, hI .u64, hB] [hI .u32, .agg [.b, .b, .b, .b, .b]] (T := Int × Bool × Bool × Bool × Bool × Bool) (fun y => ((y.1, ()), (y.2.1, y.2.2.1, y.2.2.2.1, y.2.2.2.2.1, y.2.2.2.2.2, ()), ())) fun n x => aA.f n x.1.1 x.2.1.1 x.2.2.1.1 x.2.2.2.1.1 x.2.2.2.2.1.1 x.2.2.2.2.2.1.1
theorem aA.ok : gX Try.prog 78 aA.c := mkOk aA.jN Try.func78 (by kernel_rfl) (by kernel_rfl) (by decide) (fun _ => rfl) (fun _ _ => rfl)
/- Entries of functions. -/
noncomputable def aN.c : Fc := mkFcA [.s (hI .i64), .sl .u32] [hI .u32, .agg [.b, .b, .b, .b, .b], hB] (T := Int × Bool × Bool × Bool × Bool × Bool × Bool) (fun y => ((y.1, ()), (y.2.1, y.2.2.1, y.2.2.2.1, y.2.2.2.2.1, y.2.2.2.2.2.1, ()), (y.2.2.2.2.2.2, ()), ())) fun n x => aN.f n x.1.1 x.2.1
theorem aN.ok : gX Try.prog 84 aN.c := oldA_ok Try.func84 (by kernel_rfl) (by kernel_rfl) (by decide) (fun _ => cB (by decide) _) fun n x y h m w vs ha => by obtain ⟨q0, e0, ha⟩ := ha; subst e0; obtain ⟨A1, c1, q1, e1, R1, D1, ha⟩ := ha; subst e1; subst ha; exact (aN.calls n x.1.1 A1 c1 x.2.1 y.1 y.2.1 y.2.2.1 y.2.2.2.1 y.2.2.2.2.1 y.2.2.2.2.2.1 y.2.2.2.2.2.2 w R1 D1 h).mono fun e w' he => ⟨he.1, he.2⟩
noncomputable def dE.c : Fc := iH [hI .i64, hI .u32] [.agg [.b, .i .i64, .i .u64, .b]] (T := Bool × Int × Int × Bool) (fun y => ((y.1, y.2.1, y.2.2.1, y.2.2.2, ()), ())) fun n x => dE.f x.1.1 x.2.1.1
theorem dE.ok : gX Try.prog 90 dE.c := dV Try.func90 (by kernel_rfl) (by kernel_rfl) (by decide) (fun _ => cB (by decide) _) fun n x y h m w => (dE.calls x.1.1 x.2.1.1 y.1 y.2.1 y.2.2.1 y.2.2.2 w h).mono fun e w' he => ⟨he.1, he.2⟩
noncomputable def aQ.c : Fc := iH [hI .i64, hI .u32] [hB] (T := Bool) (fun y => ((y, ()), ())) fun n x => aQ.f n x.1.1 x.2.1.1
theorem aQ.ok : gX Try.prog 100 aQ.c := dV Try.func100 (by kernel_rfl) (by kernel_rfl) (by decide) (fun _ => cB (by decide) _) fun n x y h m w => (aQ.calls n x.1.1 x.2.1.1 y w h).mono fun e w' he => ⟨he.1, he.2.below⟩
noncomputable def dD.c : Fc := iH [hI .i64] [hI .u32, .agg [.b, .b, .b, .b, .b]] (T := Int × Bool × Bool × Bool × Bool × Bool) (fun y => ((y.1, ()), (y.2.1, y.2.2.1, y.2.2.2.1, y.2.2.2.2.1, y.2.2.2.2.2, ()), ())) fun n x => dD.f x.1.1
theorem dD.ok : gX Try.prog 87 dD.c := dV Try.func87 (by kernel_rfl) (by kernel_rfl) (by decide) (fun _ => cB (by decide) _) fun n x y h m w => (dD.calls x.1.1 y.1 y.2.1 y.2.2.1 y.2.2.2.1 y.2.2.2.2.1 y.2.2.2.2.2 w h).mono fun e w' he => ⟨he.1, he.2⟩
noncomputable def aD.c : Fc := iH [hI .i64, hI .u32] [hB] (T := Bool) (fun y => ((y, ()), ())) fun n x => aD.f n x.1.1 x.2.1.1
theorem aD.ok : gX Try.prog 94 aD.c := dV Try.func94 (by kernel_rfl) (by kernel_rfl) (by decide) (fun _ => cB (by decide) _) fun n x y h m w => (aD.calls n x.1.1 x.2.1.1 y w h).mono fun e w' he => ⟨he.1, he.2.below⟩
noncomputable def bM.c : Fc := iH [hI .u64] [hI .u32, hB] (T := Int × Bool) (fun y => ((y.1, ()), (y.2, ()), ())) fun n x => bM.f n x.1.1
theorem bM.ok : gX Try.prog 101 bM.c := dV Try.func101 (by kernel_rfl) (by kernel_rfl) (by decide) (fun _ => cB (by decide) _) fun n x y h m w => (bM.calls n x.1.1 y.1 y.2 w h).mono fun e w' he => ⟨he.1, he.2.below⟩
noncomputable def bT.cls : Cls := [(84, aN.c), (90, dE.c), (100, aQ.c), (89, bN.c), (87, dD.c), (94, aD.c), (88, bF.c), (91, bits_Len.c), (92, aH.c), (101, bM.c), (78, aA.c)]
theorem bT.jN : bU Try.prog bT.cls := bU.cons aN.ok (bU.cons dE.ok (bU.cons aQ.ok (bU.cons bN.ok (bU.cons dD.ok (bU.cons aD.ok (bU.cons bF.ok (bU.cons bits_Len.ok (bU.cons aH.ok (bU.cons bM.ok (bU.cons aA.ok (bU.nil)))))))))))
noncomputable def bT.K (v : SV) : Option (Int × Bool × Bool × Bool × Bool × Bool) := (nE [hI .u32, .agg [.b, .b, .b, .b, .b]] v).map (fun z => (z.1.1, z.2.1.1, z.2.1.2.1, z.2.1.2.2.1, z.2.1.2.2.2.1, z.2.1.2.2.2.2.1))
noncomputable def bT.cuts : List Nat := []
noncomputable def bT.f (k : Nat) (a0 a1 a2 : Int) : Option (Int × Bool × Bool × Bool × Bool × Bool) := evF Try.prog bT.cls Try.f76 bT.cuts k [.one (.i .i64 (.x a0)), .one (.i .i64 (.x a1)), .one (.i .u32 (.x a2))] bT.K
noncomputable def bT.c : Fc := iH [hI .i64, hI .i64, hI .u32] [hI .u32, .agg [.b, .b, .b, .b, .b]] (T := Int × Bool × Bool × Bool × Bool × Bool) (fun y => ((y.1, ()), (y.2.1, y.2.2.1, y.2.2.2.1, y.2.2.2.2.1, y.2.2.2.2.2, ()), ())) fun n x => bT.f n x.1.1 x.2.1.1 x.2.2.1.1
theorem bT.ok : gX Try.prog 76 bT.c := mkOk bT.jN Try.func76 (by kernel_rfl) (by kernel_rfl) (by decide) (fun _ => rfl) (fun _ _ => rfl)
noncomputable def bR.c : Fc := iH [hI .i64, hI .u32, hI .u32] [hB] (T := Bool) (fun y => ((y, ()), ())) fun n x => bR.f n x.1.1 x.2.1.1 x.2.2.1.1
theorem bR.ok : gX Try.prog 93 bR.c := dV Try.func93 (by kernel_rfl) (by kernel_rfl) (by decide) (fun _ => cB (by decide) _) fun n x y h m w => (bR.calls n x.1.1 x.2.1.1 x.2.2.1.1 y w h).mono fun e w' he => ⟨he.1, he.2.below⟩
noncomputable def bL.c : Fc := iH [hI .i64, hI .u32] [hB] (T := Bool) (fun y => ((y, ()), ())) fun n x => bL.f x.1.1 x.2.1.1
theorem bL.ok : gX Try.prog 85 bL.c := dV Try.func85 (by kernel_rfl) (by kernel_rfl) (by decide) (fun _ => cB (by decide) _) fun n x y h m w => (bL.calls x.1.1 x.2.1.1 y w h).mono fun e w' he => ⟨he.1, he.2.below⟩
noncomputable def aK.c : Fc := iH [hI .i64, hB, hB, hB, hB] [hI .u32, .agg [.b, .b, .b, .b, .b]] (T := Int × Bool × Bool × Bool × Bool × Bool) (fun y => ((y.1, ()), (y.2.1, y.2.2.1, y.2.2.2.1, y.2.2.2.2.1, y.2.2.2.2.2, ()), ())) fun n x => aK.f n x.1.1 x.2.1.1 x.2.2.1.1 x.2.2.2.1.1 x.2.2.2.2.1.1
theorem aK.ok : gX Try.prog 97 aK.c := dV Try.func97 (by kernel_rfl) (by kernel_rfl) (by decide) (fun _ => cB (by decide) _) fun n x y h m w => (aK.calls n x.1.1 x.2.1.1 x.2.2.1.1 x.2.2.2.1.1 x.2.2.2.2.1.1 y.1 y.2.1 y.2.2.1 y.2.2.2.1 y.2.2.2.2.1 y.2.2.2.2.2 w h).mono fun e w' he => ⟨he.1, he.2⟩
noncomputable def bY.c : Fc := iH [hI .i64, hI .u32, hI .u32] [.agg [.b, .i .i64, .i .u64, .b]] (T := Bool × Int × Int × Bool) (fun y => ((y.1, y.2.1, y.2.2.1, y.2.2.2, ()), ())) fun n x => bY.f x.1.1 x.2.1.1 x.2.2.1.1
theorem bY.ok : gX Try.prog 95 bY.c := dV Try.func95 (by kernel_rfl) (by kernel_rfl) (by decide) (fun _ => cB (by decide) _) fun n x y h m w => (bY.calls x.1.1 x.2.1.1 x.2.2.1.1 y.1 y.2.1 y.2.2.1 y.2.2.2 w h).mono fun e w' he => ⟨he.1, he.2⟩
noncomputable def dB.c : Fc := iH [hI .i64, hI .i64, hB, hB] [hI .u32] (T := Int) (fun y => ((y, ()), ())) fun n x => dB.f x.1.1 x.2.1.1 x.2.2.1.1 x.2.2.2.1.1
theorem dB.ok : gX Try.prog 99 dB.c := dV Try.func99 (by kernel_rfl) (by kernel_rfl) (by decide) (fun _ => cB (by decide) _) fun n x y h m w => (dB.calls x.1.1 x.2.1.1 x.2.2.1.1 x.2.2.2.1.1 y w h).mono fun e w' he => ⟨he.1, he.2.below⟩
noncomputable def aM.cls : Cls := [(93, bR.c), (84, aN.c), (87, dD.c), (85, bL.c), (94, aD.c), (97, aK.c), (95, bY.c), (90, dE.c), (98, aG.c), (99, dB.c), (78, aA.c)]
theorem aM.jN : bU Try.prog aM.cls := bU.cons bR.ok (bU.cons aN.ok (bU.cons dD.ok (bU.cons bL.ok (bU.cons aD.ok (bU.cons aK.ok (bU.cons bY.ok (bU.cons dE.ok (bU.cons aG.ok (bU.cons dB.ok (bU.cons aA.ok (bU.nil)))))))))))
noncomputable def aM.K (v : SV) : Option (Int × Bool × Bool × Bool × Bool × Bool) := (nE [hI .u32, .agg [.b, .b, .b, .b, .b]] v).map (fun z => (z.1.1, z.2.1.1, z.2.1.2.1, z.2.1.2.2.1, z.2.1.2.2.2.1, z.2.1.2.2.2.2.1))
noncomputable def aM.cuts : List Nat := [10, 11, 15]
noncomputable def aM.f (k : Nat) (a0 a1 : Int) (a2 a3 a4 : Int) : Option (Int × Bool × Bool × Bool × Bool × Bool) := evF Try.prog aM.cls Try.f96 aM.cuts k [.one (.i .i64 (.x a0)), .one (.i .i64 (.x a1)), .one (.i .u32 (.x a2)), .one (.i .u32 (.x a3)), .one (.i .u32 (.x a4))] aM.K
noncomputable def aM.c : Fc := iH [hI .i64, hI .i64, hI .u32, hI .u32, hI .u32] [hI .u32, .agg [.b, .b, .b, .b, .b]] (T := Int × Bool × Bool × Bool × Bool × Bool) (fun y => ((y.1, ()), (y.2.1, y.2.2.1, y.2.2.2.1, y.2.2.2.2.1, y.2.2.2.2.2, ()), ())) fun n x => aM.f n x.1.1 x.2.1.1 x.2.2.1.1 x.2.2.2.1.1 x.2.2.2.2.1.1
theorem aM.ok : gX Try.prog 96 aM.c := mkOk aM.jN Try.func96 (by kernel_rfl) (by kernel_rfl) (by decide) (fun _ => rfl) (fun _ _ => rfl)
noncomputable def aI.c : Fc := iH [hI .i64, hI .u32] [hI .i64] (T := Int) (fun y => ((y, ()), ())) fun n x => aI.f n x.1.1 x.2.1.1
theorem aI.ok : gX Try.prog 86 aI.c := dV Try.func86 (by kernel_rfl) (by kernel_rfl) (by decide) (fun _ => cB (by decide) _) fun n x y h m w => (aI.calls n x.1.1 x.2.1.1 y w h).mono fun e w' he => ⟨he.1, he.2.below⟩
noncomputable def aU.cls : Cls := [(84, aN.c), (85, bL.c), (86, aI.c), (87, dD.c), (88, bF.c), (89, bN.c), (90, dE.c), (91, bits_Len.c), (92, aH.c), (78, aA.c)]
theorem aU.jN : bU Try.prog aU.cls := bU.cons aN.ok (bU.cons bL.ok (bU.cons aI.ok (bU.cons dD.ok (bU.cons bF.ok (bU.cons bN.ok (bU.cons dE.ok (bU.cons bits_Len.ok (bU.cons aH.ok (bU.cons aA.ok (bU.nil))))))))))
noncomputable def aU.K (v : SV) : Option (Int × Bool × Bool × Bool × Bool × Bool) := (nE [hI .u32, .agg [.b, .b, .b, .b, .b]] v).map (fun z => (z.1.1, z.2.1.1, z.2.1.2.1, z.2.1.2.2.1, z.2.1.2.2.2.1, z.2.1.2.2.2.2.1))
noncomputable def aU.cuts : List Nat := [7, 11]
noncomputable def aU.f (k : Nat) (a0 a1 : Int) (a2 a3 : Int) : Option (Int × Bool × Bool × Bool × Bool × Bool) := evF Try.prog aU.cls Try.f70 aU.cuts k [.one (.i .i64 (.x a0)), .one (.i .i64 (.x a1)), .one (.i .u32 (.x a2)), .one (.i .u32 (.x a3))] aU.K
noncomputable def aU.c : Fc := iH [hI .i64, hI .i64, hI .u32, hI .u32] [hI .u32, .agg [.b, .b, .b, .b, .b]] (T := Int × Bool × Bool × Bool × Bool × Bool) (fun y => ((y.1, ()), (y.2.1, y.2.2.1, y.2.2.2.1, y.2.2.2.2.1, y.2.2.2.2.2, ()), ())) fun n x => aU.f n x.1.1 x.2.1.1 x.2.2.1.1 x.2.2.2.1.1
theorem aU.ok : gX Try.prog 70 aU.c := mkOk aU.jN Try.func70 (by kernel_rfl) (by kernel_rfl) (by decide) (fun _ => rfl) (fun _ _ => rfl)
noncomputable def bJ.cls : Cls := [(84, aN.c), (93, bR.c), (87, dD.c), (85, bL.c), (94, aD.c), (88, bF.c), (95, bY.c), (78, aA.c)]
theorem bJ.jN : bU Try.prog bJ.cls := bU.cons aN.ok (bU.cons bR.ok (bU.cons dD.ok (bU.cons bL.ok (bU.cons aD.ok (bU.cons bF.ok (bU.cons bY.ok (bU.cons aA.ok (bU.nil))))))))
noncomputable def bJ.K (v : SV) : Option (Int × Bool × Bool × Bool × Bool × Bool) := (nE [hI .u32, .agg [.b, .b, .b, .b, .b]] v).map (fun z => (z.1.1, z.2.1.1, z.2.1.2.1, z.2.1.2.2.1, z.2.1.2.2.2.1, z.2.1.2.2.2.2.1))
noncomputable def bJ.cuts : List Nat := [8]
noncomputable def bJ.f (k : Nat) (a0 a1 : Int) (a2 a3 : Int) : Option (Int × Bool × Bool × Bool × Bool × Bool) := evF Try.prog bJ.cls Try.f71 bJ.cuts k [.one (.i .i64 (.x a0)), .one (.i .i64 (.x a1)), .one (.i .u32 (.x a2)), .one (.i .u32 (.x a3))] bJ.K
noncomputable def bJ.c : Fc := iH [hI .i64, hI .i64, hI .u32, hI .u32] [hI .u32, .agg [.b, .b, .b, .b, .b]] (T := Int × Bool × Bool × Bool × Bool × Bool) (fun y => ((y.1, ()), (y.2.1, y.2.2.1, y.2.2.2.1, y.2.2.2.2.1, y.2.2.2.2.2, ()), ())) fun n x => bJ.f n x.1.1 x.2.1.1 x.2.2.1.1 x.2.2.2.1.1
theorem bJ.ok : gX Try.prog 71 bJ.c := mkOk bJ.jN Try.func71 (by kernel_rfl) (by kernel_rfl) (by decide) (fun _ => rfl) (fun _ _ => rfl)
noncomputable def bA.cls : Cls := [(84, aN.c), (94, aD.c), (85, bL.c), (97, aK.c), (90, dE.c), (98, aG.c), (99, dB.c), (78, aA.c)]
theorem bA.jN : bU Try.prog bA.cls := bU.cons aN.ok (bU.cons aD.ok (bU.cons bL.ok (bU.cons aK.ok (bU.cons dE.ok (bU.cons aG.ok (bU.cons dB.ok (bU.cons aA.ok (bU.nil))))))))
noncomputable def bA.K (v : SV) : Option (Int × Bool × Bool × Bool × Bool × Bool) := (nE [hI .u32, .agg [.b, .b, .b, .b, .b]] v).map (fun z => (z.1.1, z.2.1.1, z.2.1.2.1, z.2.1.2.2.1, z.2.1.2.2.2.1, z.2.1.2.2.2.2.1))
noncomputable def bA.cuts : List Nat := [6, 10]
noncomputable def bA.f (k : Nat) (a0 a1 : Int) (a2 a3 : Int) : Option (Int × Bool × Bool × Bool × Bool × Bool) := evF Try.prog bA.cls Try.f75 bA.cuts k [.one (.i .i64 (.x a0)), .one (.i .i64 (.x a1)), .one (.i .u32 (.x a2)), .one (.i .u32 (.x a3))] bA.K
noncomputable def bA.c : Fc := iH [hI .i64, hI .i64, hI .u32, hI .u32] [hI .u32, .agg [.b, .b, .b, .b, .b]] (T := Int × Bool × Bool × Bool × Bool × Bool) (fun y => ((y.1, ()), (y.2.1, y.2.2.1, y.2.2.2.1, y.2.2.2.2.1, y.2.2.2.2.2, ()), ())) fun n x => bA.f n x.1.1 x.2.1.1 x.2.2.1.1 x.2.2.2.1.1
theorem bA.ok : gX Try.prog 75 bA.c := mkOk bA.jN Try.func75 (by kernel_rfl) (by kernel_rfl) (by decide) (fun _ => rfl) (fun _ _ => rfl)
/- Functions' trees, printed by a tool of mine out of the reckoner; Lean's kernel checks each. -/
set_option maxRecDepth 100000
theorem bT.eq (n0 : Nat) (a0 a1 a2 : Int) : bT.f n0 a0 a1 a2 = ((aN.f n0 a0 [a2]).bind fun t0 => (if t0.2.2.2.2.2.2 = true then (some ((t0.1, t0.2.1, t0.2.2.1, t0.2.2.2.1, t0.2.2.2.2.1, t0.2.2.2.2.2.1))) else ((dE.f a0 a2).bind fun t1 => ((aQ.f n0 a0 a2).bind fun t2 => (if t2 = true then ((bN.f a0 t1.1).bind fun t3 => (some ((t3, false, false, false, false, false)))) else (if t1.1 = true then ((dD.f a0).bind fun t3 => (some ((t3.1, t3.2.1, t3.2.2.1, t3.2.2.2.1, t3.2.2.2.2.1, t3.2.2.2.2.2)))) else ((aD.f n0 a0 a2).bind fun t3 => (if t3 = true then ((bF.f a0 false).bind fun t4 => (some ((t4, false, false, false, false, false)))) else ((bits_Len.f n0 t1.2.2.1).bind fun t4 => (if Int.tmod (wrap64 (t1.2.1 - wrap64 (62 - t4))) 2 = 0 then ((aH.f n0 t1.2.2.1 (wrap64 (-wrap64 (62 - t4)))).bind fun t5 => ((bM.f n0 t5.1).bind fun t6 => ((aA.f n0 a0 a1 false (wrap64 (Int.tdiv (wrap64 (t1.2.1 - wrap64 (62 - t4))) 2)) (IntKind.wrap IntKind.u64 t6.1) !t6.2).bind fun t7 => (some ((t7.1, t7.2.1, t7.2.2.1, t7.2.2.2.1, t7.2.2.2.2.1, t7.2.2.2.2.2)))))) else ((aH.f n0 t1.2.2.1 (wrap64 (-wrap64 (wrap64 (62 - t4) - 1)))).bind fun t5 => ((bM.f n0 t5.1).bind fun t6 => ((aA.f n0 a0 a1 false (wrap64 (Int.tdiv (wrap64 (t1.2.1 - wrap64 (wrap64 (62 - t4) - 1))) 2)) (IntKind.wrap IntKind.u64 t6.1) !t6.2).bind fun t7 => (some ((t7.1, t7.2.1, t7.2.2.1, t7.2.2.2.1, t7.2.2.2.2.1, t7.2.2.2.2.2)))))))))))))))) := by kernel_rfl
noncomputable def aM.j10 (n0 : Nat) (x0 x1 x2 : Bool) (x3 x4 : Int) (x5 x6 x7 : Int) (x8 x9 : Bool) (x10 x11 x12 : Bool) := j5 Try.prog aM.cls Try.f96 aM.cuts [1, 1, 1, 1, 1, 1] [n0] n0 ⟨[(18, (.pv (.one (.b (.q x0))))), (17, (.pv (.one (.b (.q x1))))), (16, (.pv (.one (.b (.q x2))))), (11, (.pv (.one (.p 0 0)))), (4, (.pv (.one (.i .u32 (.x x3))))), (3, (.pv (.one (.i .u32 (.x x4))))), (2, (.pv (.one (.i .u32 (.x x5))))), (1, (.pv (.one (.i .i64 (.x x6))))), (0, (.pv (.one (.i .i64 (.x x7)))))], [(0, (82, [(.c (.b (.q x8))), (.c (.b (.q x9))), (.c (.b (.q x10))), (.c (.b (.q x11))), (.c (.b (.q x12)))]))], 1⟩ aM.K
noncomputable def aM.j11 (n0 : Nat) (x0 x1 : Bool) (x2 x3 : Bool) (x4 x5 : Int) (x6 x7 x8 : Int) (x9 x10 : Bool) (x11 x12 x13 : Bool) := j5 Try.prog aM.cls Try.f96 aM.cuts [1, 1, 1, 1, 1, 1, 0, 1] [n0] n0 ⟨[(71, (.pv (.one (.b (.q x0))))), (18, (.pv (.one (.b (.q x1))))), (17, (.pv (.one (.b (.q x2))))), (16, (.pv (.one (.b (.q x3))))), (11, (.pv (.one (.p 0 0)))), (4, (.pv (.one (.i .u32 (.x x4))))), (3, (.pv (.one (.i .u32 (.x x5))))), (2, (.pv (.one (.i .u32 (.x x6))))), (1, (.pv (.one (.i .i64 (.x x7))))), (0, (.pv (.one (.i .i64 (.x x8)))))], [(0, (82, [(.c (.b (.q x9))), (.c (.b (.q x10))), (.c (.b (.q x11))), (.c (.b (.q x12))), (.c (.b (.q x13)))]))], 1⟩ aM.K
noncomputable def aM.j15 (n0 : Nat) (x0 x1 : Bool) (x2 x3 : Int) (x4 : Bool) (x5 x6 : Int) (x7 x8 : Bool) (x9 x10 : Int) (x11 x12 : Bool) (x13 x14 : Bool) (x15 x16 : Bool) := j5 Try.prog aM.cls Try.f96 aM.cuts [1, 1, 1, 1, 1, 1, 1, 1, 1, 0, 1] [n0] n0 ⟨[(99, (.pv (.one (.b (.q x0))))), (21, (.pv (.one (.p 3 0)))), (20, (.pv (.one (.p 2 0)))), (16, (.pv (.one (.b (.q x1))))), (11, (.pv (.one (.p 0 0)))), (1, (.pv (.one (.i .i64 (.x x2))))), (0, (.pv (.one (.i .i64 (.x x3)))))], [(3, (101, [(.c (.b (.q x4))), (.c (.i .i64 (.x x5))), (.c (.i .u64 (.x x6))), (.c (.b (.q x7)))])), (2, (101, [(.c (.b (.q x8))), (.c (.i .i64 (.x x9))), (.c (.i .u64 (.x x10))), (.c (.b (.q x11)))])), (0, (82, [(.c (.b (.q x12))), (.c (.b (.q x13))), (.c (.b (.q x14))), (.c (.b (.q x15))), (.c (.b (.q x16)))]))], 4⟩ aM.K
theorem aM.eq (n0 : Nat) (a0 a1 : Int) (a2 a3 a4 : Int) : aM.f n0 a0 a1 a2 a3 a4 = ((bR.f n0 a0 a2 a3).bind fun t0 => ((aN.f n0 a0 [a2, a3, a4]).bind fun t1 => (if t1.2.2.2.2.2.2 = true then (if t1.2.1 = true then (some ((t1.1, true, t1.2.2.1, t1.2.2.2.1, t1.2.2.2.2.1, t1.2.2.2.2.2.1))) else (some ((t1.1, t0, t1.2.2.1, t1.2.2.2.1, t1.2.2.2.2.1, t1.2.2.2.2.2.1)))) else (if t0 = true then ((dD.f a0).bind fun t2 => (some ((t2.1, t2.2.1, t2.2.2.1, t2.2.2.2.1, t2.2.2.2.2.1, t2.2.2.2.2.2)))) else ((bL.f a0 a2).bind fun t2 => ((bL.f a0 a3).bind fun t3 => ((aD.f n0 a0 a2).bind fun t4 => (if t4 = true then ((aD.f n0 a0 a4).bind fun t5 => (aM.j10 n0 (t5) (true) (!(t2 == t3)) (a4) (a3) (a2) (a1) (a0) (false) (false) (false) (false) (false))) else ((aD.f n0 a0 a3).bind fun t5 => ((aD.f n0 a0 a4).bind fun t6 => (aM.j10 n0 (t6) (t5) (!(t2 == t3)) (a4) (a3) (a2) (a1) (a0) (false) (false) (false) (false) (false)))))))))))) := by kernel_rfl
theorem aM.yC (n0 : Nat) (x0 x1 x2 : Bool) (x3 x4 : Int) (x5 x6 x7 : Int) (x8 x9 : Bool) (x10 x11 x12 : Bool) : aM.j10 n0 x0 x1 x2 x3 x4 x5 x6 x7 x8 x9 x10 x11 x12 = (if x1 = true then (aM.j11 n0 (true) (x0) (x1) (x2) (x3) (x4) (x5) (x6) (x7) (x8) (x9) (x10) (x11) (x12)) else (aM.j11 n0 (x0) (x0) (x1) (x2) (x3) (x4) (x5) (x6) (x7) (x8) (x9) (x10) (x11) (x12))) := by kernel_rfl
theorem aM.rF (n0 : Nat) (x0 x1 : Bool) (x2 x3 : Bool) (x4 x5 : Int) (x6 x7 x8 : Int) (x9 x10 : Bool) (x11 x12 x13 : Bool) : aM.j11 n0 x0 x1 x2 x3 x4 x5 x6 x7 x8 x9 x10 x11 x12 x13 = (if x0 = true then ((bL.f x8 x4).bind fun t0 => ((aK.f n0 x8 x3 t0 x2 x1).bind fun t1 => (some ((t1.1, t1.2.1, t1.2.2.1, t1.2.2.2.1, t1.2.2.2.2.1, t1.2.2.2.2.2))))) else ((bY.f x8 x6 x5).bind fun t0 => ((dE.f x8 x4).bind fun t1 => ((Ytolpdiifmacdbaa.L.aG.f n0 t0.1 t0.2.1 t0.2.2.1 t0.2.2.2 t1.1 t1.2.1 t1.2.2.1 t1.2.2.2).bind fun t2 => (if t2.2.2.1 = 0 then (aM.j15 n0 (!t2.2.2.2) (x3) (x7) (x8) (t2.1) t2.2.1 t2.2.2.1 (t2.2.2.2) (t1.1) t1.2.1 t1.2.2.1 (t1.2.2.2) (x9) (x10) (x11) (x12) (x13)) else (aM.j15 n0 (false) (x3) (x7) (x8) (t2.1) t2.2.1 t2.2.2.1 (t2.2.2.2) (t1.1) t1.2.1 t1.2.2.1 (t1.2.2.2) (x9) (x10) (x11) (x12) (x13))))))) := by kernel_rfl
theorem aM.j15_eq (n0 : Nat) (x0 x1 : Bool) (x2 x3 : Int) (x4 : Bool) (x5 x6 : Int) (x7 x8 : Bool) (x9 x10 : Int) (x11 x12 : Bool) (x13 x14 : Bool) (x15 x16 : Bool) : aM.j15 n0 x0 x1 x2 x3 x4 x5 x6 x7 x8 x9 x10 x11 x12 x13 x14 x15 x16 = (if x0 = true then ((dB.f x3 x2 x1 x8).bind fun t0 => (some ((t0, false, false, false, false, false)))) else ((aA.f n0 x3 x2 x4 x5 x6 x7).bind fun t0 => (some ((t0.1, t0.2.1, t0.2.2.1, t0.2.2.2.1, t0.2.2.2.2.1, t0.2.2.2.2.2))))) := by kernel_rfl
noncomputable def aU.j7 (n0 : Nat) (x0 : Bool) (x1 x2 : Int) (x3 : Bool) (x4 x5 : Int) (x6 x7 : Int) (x8 x9 : Bool) (x10 x11 x12 : Bool) := j5 Try.prog aU.cls Try.f70 aU.cuts [1, 1, 1, 1, 0, 0, 1] [n0] n0 ⟨[(46, (.pv (.one (.b (.q x0))))), (15, (.pv (.one (.i .i64 (.x x1))))), (14, (.pv (.one (.i .i64 (.x x2))))), (13, (.pv (.one (.b (.q x3))))), (9, (.pv (.one (.p 0 0)))), (3, (.pv (.one (.i .u32 (.x x4))))), (2, (.pv (.one (.i .u32 (.x x5))))), (1, (.pv (.one (.i .i64 (.x x6))))), (0, (.pv (.one (.i .i64 (.x x7)))))], [(0, (82, [(.c (.b (.q x8))), (.c (.b (.q x9))), (.c (.b (.q x10))), (.c (.b (.q x11))), (.c (.b (.q x12)))]))], 1⟩ aU.K
noncomputable def aU.j11 (n0 : Nat) (x0 : Bool) (x1 : Int) (x2 : Bool) (x3 x4 : Int) (x5 x6 : Int) (x7 x8 : Bool) (x9 x10 x11 : Bool) := j5 Try.prog aU.cls Try.f70 aU.cuts [1, 1, 1, 1, 0, 0, 1, 1, 1, 1, 1] [n0] n0 ⟨[(69, (.pv (.one (.b (.q x0))))), (15, (.pv (.one (.i .i64 (.x x1))))), (13, (.pv (.one (.b (.q x2))))), (9, (.pv (.one (.p 0 0)))), (3, (.pv (.one (.i .u32 (.x x3))))), (2, (.pv (.one (.i .u32 (.x x4))))), (1, (.pv (.one (.i .i64 (.x x5))))), (0, (.pv (.one (.i .i64 (.x x6)))))], [(0, (82, [(.c (.b (.q x7))), (.c (.b (.q x8))), (.c (.b (.q x9))), (.c (.b (.q x10))), (.c (.b (.q x11)))]))], 1⟩ aU.K
theorem aU.eq (n0 : Nat) (a0 a1 : Int) (a2 a3 : Int) : aU.f n0 a0 a1 a2 a3 = ((aN.f n0 a0 [a2, a3]).bind fun t0 => (if t0.2.2.2.2.2.2 = true then (some ((t0.1, t0.2.1, t0.2.2.1, t0.2.2.2.1, t0.2.2.2.2.1, t0.2.2.2.2.2.1))) else ((bL.f a0 a2).bind fun t1 => ((bL.f a0 a3).bind fun t2 => ((aI.f n0 a0 a2).bind fun t3 => ((aI.f n0 a0 a3).bind fun t4 => (if t3 = t4 then (if t3 = 0 then (aU.j7 n0 (true) (t4) (t3) (!(t1 == t2)) (a3) (a2) (a1) (a0) (false) (false) (false) (false) (false)) else (aU.j7 n0 (Decidable.rec (fun h => false) (fun h => true) (Int.instDecidableEq t3 3)) (t4) (t3) (!(t1 == t2)) (a3) (a2) (a1) (a0) (false) (false) (false) (false) (false))) else (aU.j7 n0 (false) (t4) (t3) (!(t1 == t2)) (a3) (a2) (a1) (a0) (false) (false) (false) (false) (false))))))))) := by kernel_rfl
theorem aU.j7_eq (n0 : Nat) (x0 : Bool) (x1 x2 : Int) (x3 : Bool) (x4 x5 : Int) (x6 x7 : Int) (x8 x9 : Bool) (x10 x11 x12 : Bool) : aU.j7 n0 x0 x1 x2 x3 x4 x5 x6 x7 x8 x9 x10 x11 x12 = (if x0 = true then ((dD.f x7).bind fun t0 => (some ((t0.1, t0.2.1, t0.2.2.1, t0.2.2.2.1, t0.2.2.2.2.1, t0.2.2.2.2.2)))) else (if x2 = 3 then ((bF.f x7 x3).bind fun t0 => (some ((t0, false, false, false, false, false)))) else (if x1 = 3 then (aU.j11 n0 (true) (x1) (x3) (x4) (x5) (x6) (x7) (x8) (x9) (x10) (x11) (x12)) else (aU.j11 n0 (Decidable.rec (fun h => false) (fun h => true) (Int.instDecidableEq x2 0)) (x1) (x3) (x4) (x5) (x6) (x7) (x8) (x9) (x10) (x11) (x12))))) := by kernel_rfl
theorem aU.rF (n0 : Nat) (x0 : Bool) (x1 : Int) (x2 : Bool) (x3 x4 : Int) (x5 x6 : Int) (x7 x8 : Bool) (x9 x10 x11 : Bool) : aU.j11 n0 x0 x1 x2 x3 x4 x5 x6 x7 x8 x9 x10 x11 = (if x0 = true then ((bN.f x6 x2).bind fun t0 => (some ((t0, false, false, false, false, false)))) else (if x1 = 0 then ((bF.f x6 x2).bind fun t0 => (some ((t0, false, true, false, false, false)))) else ((dE.f x6 x4).bind fun t0 => ((dE.f x6 x3).bind fun t1 => ((bits_Len.f n0 t0.2.2.1).bind fun t2 => ((aH.f n0 t0.2.2.1 (wrap64 (-wrap64 (62 - t2)))).bind fun t3 => (if t1.2.2.1 = 0 then none else (if t1.2.2.1 = 0 then none else ((aA.f n0 x6 x5 x2 (wrap64 (wrap64 (t0.2.1 - wrap64 (62 - t2)) - t1.2.1)) (IntKind.wrap IntKind.u64 (Int.tdiv t3.1 t1.2.2.1)) !Int.tmod t3.1 t1.2.2.1 == 0).bind fun t4 => (some ((t4.1, t4.2.1, t4.2.2.1, t4.2.2.2.1, t4.2.2.2.2.1, t4.2.2.2.2.2)))))))))))) := by kernel_rfl
noncomputable def bJ.j8 (n0 : Nat) (x0 x1 : Bool) (x2 x3 : Int) (x4 x5 : Int) (x6 x7 : Bool) (x8 x9 x10 : Bool) := j5 Try.prog bJ.cls Try.f71 bJ.cuts [1, 1, 1, 1, 0, 1] [n0] n0 ⟨[(49, (.pv (.one (.b (.q x0))))), (13, (.pv (.one (.b (.q x1))))), (9, (.pv (.one (.p 0 0)))), (3, (.pv (.one (.i .u32 (.x x2))))), (2, (.pv (.one (.i .u32 (.x x3))))), (1, (.pv (.one (.i .i64 (.x x4))))), (0, (.pv (.one (.i .i64 (.x x5)))))], [(0, (82, [(.c (.b (.q x6))), (.c (.b (.q x7))), (.c (.b (.q x8))), (.c (.b (.q x9))), (.c (.b (.q x10)))]))], 1⟩ bJ.K
theorem bJ.eq (n0 : Nat) (a0 a1 : Int) (a2 a3 : Int) : bJ.f n0 a0 a1 a2 a3 = ((aN.f n0 a0 [a2, a3]).bind fun t0 => (if t0.2.2.2.2.2.2 = true then (some ((t0.1, t0.2.1, t0.2.2.1, t0.2.2.2.1, t0.2.2.2.2.1, t0.2.2.2.2.2.1))) else ((bR.f n0 a0 a2 a3).bind fun t1 => (if t1 = true then ((dD.f a0).bind fun t2 => (some ((t2.1, t2.2.1, t2.2.2.1, t2.2.2.2.1, t2.2.2.2.2.1, t2.2.2.2.2.2)))) else ((bL.f a0 a2).bind fun t2 => ((bL.f a0 a3).bind fun t3 => ((aD.f n0 a0 a2).bind fun t4 => (if t4 = true then (bJ.j8 n0 (true) (!(t2 == t3)) (a3) (a2) (a1) (a0) (false) (false) (false) (false) (false)) else ((aD.f n0 a0 a3).bind fun t5 => (bJ.j8 n0 (t5) (!(t2 == t3)) (a3) (a2) (a1) (a0) (false) (false) (false) (false) (false))))))))))) := by kernel_rfl
theorem bJ.j8_eq (n0 : Nat) (x0 x1 : Bool) (x2 x3 : Int) (x4 x5 : Int) (x6 x7 : Bool) (x8 x9 x10 : Bool) : bJ.j8 n0 x0 x1 x2 x3 x4 x5 x6 x7 x8 x9 x10 = (if x0 = true then ((bF.f x5 x1).bind fun t0 => (some ((t0, false, false, false, false, false)))) else ((bY.f x5 x3 x2).bind fun t0 => ((aA.f n0 x5 x4 x1 t0.2.1 t0.2.2.1 false).bind fun t1 => (some ((t1.1, t1.2.1, t1.2.2.1, t1.2.2.2.1, t1.2.2.2.2.1, t1.2.2.2.2.2)))))) := by kernel_rfl
noncomputable def bA.j6 (n0 : Nat) (x0 x1 x2 : Bool) (x3 x4 : Int) (x5 x6 : Int) (x7 x8 : Bool) (x9 x10 x11 : Bool) := j5 Try.prog bA.cls Try.f75 bA.cuts [1, 1, 1, 0, 1] [n0] n0 ⟨[(39, (.pv (.one (.b (.q x0))))), (14, (.pv (.one (.b (.q x1))))), (13, (.pv (.one (.b (.q x2))))), (9, (.pv (.one (.p 0 0)))), (3, (.pv (.one (.i .u32 (.x x3))))), (2, (.pv (.one (.i .u32 (.x x4))))), (1, (.pv (.one (.i .i64 (.x x5))))), (0, (.pv (.one (.i .i64 (.x x6)))))], [(0, (82, [(.c (.b (.q x7))), (.c (.b (.q x8))), (.c (.b (.q x9))), (.c (.b (.q x10))), (.c (.b (.q x11)))]))], 1⟩ bA.K
noncomputable def bA.j10 (n0 : Nat) (x0 : Bool) (x1 x2 : Int) (x3 : Bool) (x4 x5 : Int) (x6 x7 : Bool) (x8 x9 : Int) (x10 x11 : Bool) (x12 x13 : Int) (x14 x15 : Bool) (x16 x17 : Bool) (x18 x19 : Bool) := j5 Try.prog bA.cls Try.f75 bA.cuts [1, 1, 1, 1, 1, 1, 0, 1] [n0] n0 ⟨[(68, (.pv (.one (.b (.q x0))))), (17, (.pv (.one (.p 3 0)))), (16, (.pv (.one (.p 2 0)))), (15, (.pv (.one (.p 1 0)))), (9, (.pv (.one (.p 0 0)))), (1, (.pv (.one (.i .i64 (.x x1))))), (0, (.pv (.one (.i .i64 (.x x2)))))], [(3, (101, [(.c (.b (.q x3))), (.c (.i .i64 (.x x4))), (.c (.i .u64 (.x x5))), (.c (.b (.q x6)))])), (2, (101, [(.c (.b (.q x7))), (.c (.i .i64 (.x x8))), (.c (.i .u64 (.x x9))), (.c (.b (.q x10)))])), (1, (101, [(.c (.b (.q x11))), (.c (.i .i64 (.x x12))), (.c (.i .u64 (.x x13))), (.c (.b (.q x14)))])), (0, (82, [(.c (.b (.q x15))), (.c (.b (.q x16))), (.c (.b (.q x17))), (.c (.b (.q x18))), (.c (.b (.q x19)))]))], 4⟩ bA.K
theorem bA.eq (n0 : Nat) (a0 a1 : Int) (a2 a3 : Int) : bA.f n0 a0 a1 a2 a3 = ((aN.f n0 a0 [a2, a3]).bind fun t0 => (if t0.2.2.2.2.2.2 = true then (some ((t0.1, t0.2.1, t0.2.2.1, t0.2.2.2.1, t0.2.2.2.2.1, t0.2.2.2.2.2.1))) else ((aD.f n0 a0 a2).bind fun t1 => ((aD.f n0 a0 a3).bind fun t2 => (if t1 = true then (bA.j6 n0 (true) (t2) (t1) (a3) (a2) (a1) (a0) (false) (false) (false) (false) (false)) else (bA.j6 n0 (t2) (t2) (t1) (a3) (a2) (a1) (a0) (false) (false) (false) (false) (false))))))) := by kernel_rfl
theorem bA.j6_eq (n0 : Nat) (x0 x1 x2 : Bool) (x3 x4 : Int) (x5 x6 : Int) (x7 x8 : Bool) (x9 x10 x11 : Bool) : bA.j6 n0 x0 x1 x2 x3 x4 x5 x6 x7 x8 x9 x10 x11 = (if x0 = true then ((bL.f x6 x4).bind fun t0 => ((bL.f x6 x3).bind fun t1 => ((aK.f n0 x6 t0 t1 x2 x1).bind fun t2 => (some ((t2.1, t2.2.1, t2.2.2.1, t2.2.2.2.1, t2.2.2.2.2.1, t2.2.2.2.2.2)))))) else ((dE.f x6 x4).bind fun t0 => ((dE.f x6 x3).bind fun t1 => ((Ytolpdiifmacdbaa.L.aG.f n0 t0.1 t0.2.1 t0.2.2.1 t0.2.2.2 t1.1 t1.2.1 t1.2.2.1 t1.2.2.2).bind fun t2 => (if t2.2.2.1 = 0 then (bA.j10 n0 (!t2.2.2.2) (x5) (x6) (t2.1) t2.2.1 t2.2.2.1 (t2.2.2.2) (t1.1) t1.2.1 t1.2.2.1 (t1.2.2.2) (t0.1) t0.2.1 t0.2.2.1 (t0.2.2.2) (x7) (x8) (x9) (x10) (x11)) else (bA.j10 n0 (false) (x5) (x6) (t2.1) t2.2.1 t2.2.2.1 (t2.2.2.2) (t1.1) t1.2.1 t1.2.2.1 (t1.2.2.2) (t0.1) t0.2.1 t0.2.2.1 (t0.2.2.2) (x7) (x8) (x9) (x10) (x11))))))) := by kernel_rfl
theorem bA.yC (n0 : Nat) (x0 : Bool) (x1 x2 : Int) (x3 : Bool) (x4 x5 : Int) (x6 x7 : Bool) (x8 x9 : Int) (x10 x11 : Bool) (x12 x13 : Int) (x14 x15 : Bool) (x16 x17 : Bool) (x18 x19 : Bool) : bA.j10 n0 x0 x1 x2 x3 x4 x5 x6 x7 x8 x9 x10 x11 x12 x13 x14 x15 x16 x17 x18 x19 = (if x0 = true then ((dB.f x2 x1 x11 x7).bind fun t0 => (some ((t0, false, false, false, false, false)))) else ((aA.f n0 x2 x1 x3 x4 x5 x6).bind fun t0 => (some ((t0.1, t0.2.1, t0.2.2.1, t0.2.2.2.1, t0.2.2.2.2.1, t0.2.2.2.2.2))))) := by kernel_rfl
/- Functions' trees, printed by a tool of mine out of the reckoner; Lean's kernel checks each. -/
set_option maxRecDepth 100000
theorem aV.eq (n0 : Nat) (a0 a1 : Int) : aV.f n0 a0 a1 = ((aT.f a0).bind fun t0 => (if 0 ≤ t0.1 then (if 0 ≤ t0.2 then (if 0 ≤ t0.2 then (if 0 ≤ t0.2 then (if 0 ≤ t0.2 then (if 0 ≤ t0.2 then (if shl IntKind.u32 3 t0.2 = 0 then none else (if 0 ≤ t0.2 then (if 0 ≤ t0.2 then (if 0 ≤ t0.2 then (if 0 ≤ t0.2 then (if 0 ≤ wrap64 (t0.2 - 1) then (if 0 ≤ t0.2 then (if shl IntKind.u32 9 t0.2 = 0 then none else (if 0 ≤ Int.tmod a1 15 then (if Int.tmod a1 15 < ↑15 then ((bV.f a0).bind fun t1 => (if shr IntKind.u32 a1 31 = 1 then ((aY.f a0 true).bind fun t2 => (some (bits BinOp.or IntKind.u32 (bits BinOp.and IntKind.u32 (rd [0, 1, (shl IntKind.u32 1 t0.2 - 1) % 4294967296, shl IntKind.u32 1 t0.2, shl IntKind.u32 (shr IntKind.u32 ((shl IntKind.u32 1 t0.1 - 1) % 4294967296) 1) t0.2, (shl IntKind.u32 (shr IntKind.u32 ((shl IntKind.u32 1 t0.1 - 1) % 4294967296) 1) t0.2 + 1) % 4294967296, (shl IntKind.u32 (shr IntKind.u32 ((shl IntKind.u32 1 t0.1 - 1) % 4294967296) 1) t0.2 - 1) % 4294967296, (shl IntKind.u32 (shr IntKind.u32 ((shl IntKind.u32 1 t0.1 - 1) % 4294967296) 1) t0.2 + shl IntKind.u32 1 t0.2) % 4294967296, (shl IntKind.u32 (shr IntKind.u32 ((shl IntKind.u32 1 t0.1 - 1) % 4294967296) 1) t0.2 + Int.tmod (shr IntKind.u32 a1 4) (shl IntKind.u32 3 t0.2)) % 4294967296, (shl IntKind.u32 ((shl IntKind.u32 1 t0.1 - 1) % 4294967296) t0.2 - 1) % 4294967296, shl IntKind.u32 ((shl IntKind.u32 1 t0.1 - 1) % 4294967296) t0.2, bits BinOp.or IntKind.u32 (shl IntKind.u32 ((shl IntKind.u32 1 t0.1 - 1) % 4294967296) t0.2) 1, bits BinOp.or IntKind.u32 (shl IntKind.u32 ((shl IntKind.u32 1 t0.1 - 1) % 4294967296) t0.2) (shl IntKind.u32 1 (wrap64 (t0.2 - 1))), (shl IntKind.u32 (shr IntKind.u32 ((shl IntKind.u32 1 t0.1 - 1) % 4294967296) 1) t0.2 - Int.tmod (shr IntKind.u32 a1 4) (shl IntKind.u32 9 t0.2)) % 4294967296, shr IntKind.u32 a1 4] (Int.tmod a1 15)) t1) t2))) else (some (bits BinOp.and IntKind.u32 (rd [0, 1, (shl IntKind.u32 1 t0.2 - 1) % 4294967296, shl IntKind.u32 1 t0.2, shl IntKind.u32 (shr IntKind.u32 ((shl IntKind.u32 1 t0.1 - 1) % 4294967296) 1) t0.2, (shl IntKind.u32 (shr IntKind.u32 ((shl IntKind.u32 1 t0.1 - 1) % 4294967296) 1) t0.2 + 1) % 4294967296, (shl IntKind.u32 (shr IntKind.u32 ((shl IntKind.u32 1 t0.1 - 1) % 4294967296) 1) t0.2 - 1) % 4294967296, (shl IntKind.u32 (shr IntKind.u32 ((shl IntKind.u32 1 t0.1 - 1) % 4294967296) 1) t0.2 + shl IntKind.u32 1 t0.2) % 4294967296, (shl IntKind.u32 (shr IntKind.u32 ((shl IntKind.u32 1 t0.1 - 1) % 4294967296) 1) t0.2 + Int.tmod (shr IntKind.u32 a1 4) (shl IntKind.u32 3 t0.2)) % 4294967296, (shl IntKind.u32 ((shl IntKind.u32 1 t0.1 - 1) % 4294967296) t0.2 - 1) % 4294967296, shl IntKind.u32 ((shl IntKind.u32 1 t0.1 - 1) % 4294967296) t0.2, bits BinOp.or IntKind.u32 (shl IntKind.u32 ((shl IntKind.u32 1 t0.1 - 1) % 4294967296) t0.2) 1, bits BinOp.or IntKind.u32 (shl IntKind.u32 ((shl IntKind.u32 1 t0.1 - 1) % 4294967296) t0.2) (shl IntKind.u32 1 (wrap64 (t0.2 - 1))), (shl IntKind.u32 (shr IntKind.u32 ((shl IntKind.u32 1 t0.1 - 1) % 4294967296) 1) t0.2 - Int.tmod (shr IntKind.u32 a1 4) (shl IntKind.u32 9 t0.2)) % 4294967296, shr IntKind.u32 a1 4] (Int.tmod a1 15)) t1)))) else none) else none)) else none) else none) else none) else none) else none) else none)) else none) else none) else none) else none) else none) else none)) := by kernel_rfl
theorem aW.eq (n0 : Nat) (a0 a1 : Int) (a2 : Bool) : aW.f n0 a0 a1 a2 = (if a1 = 1 then ((bO.f a0 a2).bind fun t0 => (some ((t0, false, false, true, false, true)))) else (if a1 = 2 then (if a2 = true then ((bO.f a0 a2).bind fun t0 => (some ((t0, false, false, true, false, true)))) else ((bF.f a0 a2).bind fun t0 => (some ((t0, false, false, true, false, true))))) else (if a1 = 3 then (if a2 = true then ((bF.f a0 a2).bind fun t0 => (some ((t0, false, false, true, false, true)))) else ((bO.f a0 a2).bind fun t0 => (some ((t0, false, false, true, false, true))))) else ((bF.f a0 a2).bind fun t0 => (some ((t0, false, false, true, false, true))))))) := by kernel_rfl
noncomputable def aG.j7 (n0 : Nat) (x0 x1 : Bool) (x2 x3 : Int) (x4 x5 : Bool) (x6 x7 : Int) (x8 x9 : Bool) (x10 x11 : Int) (x12 : Bool) := j5 Try.prog aG.cls Try.f98 aG.cuts [1, 1, 1, 0, 1] [n0] n0 ⟨[(39, (.pv (.one (.b (.q x0))))), (4, (.pv (.one (.p 2 0)))), (3, (.pv (.one (.p 1 0)))), (2, (.pv (.one (.p 0 0))))], [(2, (101, [(.c (.b (.q x1))), (.c (.i .i64 (.x x2))), (.c (.i .u64 (.x x3))), (.c (.b (.q x4)))])), (1, (101, [(.c (.b (.q x5))), (.c (.i .i64 (.x x6))), (.c (.i .u64 (.x x7))), (.c (.b (.q x8)))])), (0, (101, [(.c (.b (.q x9))), (.c (.i .i64 (.x x10))), (.c (.i .u64 (.x x11))), (.c (.b (.q x12)))]))], 3⟩ aG.K
noncomputable def aG.j8 (n0 : Nat) (x0 : Bool) (x1 x2 : Int) (x3 x4 : Bool) (x5 x6 : Int) (x7 x8 : Bool) (x9 x10 : Int) (x11 : Bool) := j5 Try.prog aG.cls Try.f98 aG.cuts [1, 1, 1, 1] [n0] n0 ⟨[(4, (.pv (.one (.p 2 0)))), (3, (.pv (.one (.p 1 0)))), (2, (.pv (.one (.p 0 0))))], [(2, (101, [(.c (.b (.q x0))), (.c (.i .i64 (.x x1))), (.c (.i .u64 (.x x2))), (.c (.b (.q x3)))])), (1, (101, [(.c (.b (.q x4))), (.c (.i .i64 (.x x5))), (.c (.i .u64 (.x x6))), (.c (.b (.q x7)))])), (0, (101, [(.c (.b (.q x8))), (.c (.i .i64 (.x x9))), (.c (.i .u64 (.x x10))), (.c (.b (.q x11)))]))], 3⟩ aG.K
noncomputable def aG.j16 (n0 : Nat) (x0 : Bool) (x1 x2 : Int) (x3 x4 : Bool) (x5 x6 : Int) (x7 : Bool) := j5 Try.prog aG.cls Try.f98 aG.cuts [1, 1, 1, 1, 1, 1, 1, 1, 1] [n0] n0 ⟨[(4, (.pv (.one (.p 2 0)))), (2, (.pv (.one (.p 0 0))))], [(2, (101, [(.c (.b (.q x0))), (.c (.i .i64 (.x x1))), (.c (.i .u64 (.x x2))), (.c (.b (.q x3)))])), (0, (101, [(.c (.b (.q x4))), (.c (.i .i64 (.x x5))), (.c (.i .u64 (.x x6))), (.c (.b (.q x7)))]))], 3⟩ aG.K
theorem aG.eq (n0 : Nat) (a0_0 : Bool) (a0_1 a0_2 : Int) (a0_3 a1_0 : Bool) (a1_1 a1_2 : Int) (a1_3 : Bool) : aG.f n0 a0_0 a0_1 a0_2 a0_3 a1_0 a1_1 a1_2 a1_3 = (if a0_2 = 0 then (some ((a1_0, a1_1, a1_2, a1_3))) else (if a1_2 = 0 then (some ((a0_0, a0_1, a0_2, a0_3))) else ((cO.f n0 a0_0 a0_1 a0_2 a0_3).bind fun t0 => ((cO.f n0 a1_0 a1_1 a1_2 a1_3).bind fun t1 => (if t0.2.1 < t1.2.1 then (aG.j7 n0 (true) (false) (Int.ofNat 0) (Int.ofNat 0) (false) (t1.1) t1.2.1 t1.2.2.1 (t1.2.2.2) (t0.1) t0.2.1 t0.2.2.1 (t0.2.2.2)) else (if t0.2.1 = t1.2.1 then (aG.j7 n0 (Decidable.rec (fun h => false) (fun h => true) (Int.decLt t0.2.2.1 t1.2.2.1)) (false) (Int.ofNat 0) (Int.ofNat 0) (false) (t1.1) t1.2.1 t1.2.2.1 (t1.2.2.2) (t0.1) t0.2.1 t0.2.2.1 (t0.2.2.2)) else (aG.j7 n0 (false) (false) (Int.ofNat 0) (Int.ofNat 0) (false) (t1.1) t1.2.1 t1.2.2.1 (t1.2.2.2) (t0.1) t0.2.1 t0.2.2.1 (t0.2.2.2)))))))) := by kernel_rfl
theorem aG.j7_eq (n0 : Nat) (x0 x1 : Bool) (x2 x3 : Int) (x4 x5 : Bool) (x6 x7 : Int) (x8 x9 : Bool) (x10 x11 : Int) (x12 : Bool) : aG.j7 n0 x0 x1 x2 x3 x4 x5 x6 x7 x8 x9 x10 x11 x12 = (if x0 = true then (aG.j8 n0 (x1) (x2) (x3) (x4) (x9) (x10) (x11) (x12) (x5) (x6) (x7) (x8)) else (aG.j8 n0 (x1) (x2) (x3) (x4) (x5) (x6) (x7) (x8) (x9) (x10) (x11) (x12))) := by kernel_rfl
theorem aG.j8_eq (n0 : Nat) (x0 : Bool) (x1 x2 : Int) (x3 x4 : Bool) (x5 x6 : Int) (x7 x8 : Bool) (x9 x10 : Int) (x11 : Bool) : aG.j8 n0 x0 x1 x2 x3 x4 x5 x6 x7 x8 x9 x10 x11 = ((aH.f n0 x6 (wrap64 (x9 - x5))).bind fun t0 => (if (x8 == x4) = true then (some ((x8, x9, IntKind.wrap IntKind.u64 (x10 + t0.1), t0.2))) else (if t0.2 = true then (aG.j16 n0 (x0) (x1) (x2) (x3) (x8) (x9) (IntKind.wrap IntKind.u64 (IntKind.wrap IntKind.u64 (x10 - t0.1) - 1)) (t0.2)) else (aG.j16 n0 (x0) (x1) (x2) (x3) (x8) (x9) (IntKind.wrap IntKind.u64 (x10 - t0.1)) (t0.2))))) := by kernel_rfl
theorem aG.j16_eq (n0 : Nat) (x0 : Bool) (x1 x2 : Int) (x3 x4 : Bool) (x5 x6 : Int) (x7 : Bool) : aG.j16 n0 x0 x1 x2 x3 x4 x5 x6 x7 = (some ((x4, x5, x6, x7))) := by kernel_rfl
end Go.Proofs.Ytolpdiifmacdbaa.L

/- What the reckoner tells of printed functions. -/
namespace Go.Proofs.Ytolpdiifmacdbaa.P
open Go.RowKit Go.Proofs.YtolpdiifmacdbaaW.PrintWords Go.Proofs.YtolpdiifmacdbaaW.PrintLast Go.Proofs.YtolpdiifmacdbaaW.PrintMore
set_option maxRecDepth 100000
set_option maxHeartbeats 4000000 in
theorem aV.le {k n : Nat} (hk : k ≤ n) {a0 a1 : Int} : LeO (aV.f a0 a1) (L.aV.f n a0 a1) := by
 unfold aV.f
 rw [L.aV.eq]
 try simp only [Bool.and_true]
 repeat' first
  |(with_reducible exact LeO.refl _)
  |exact LeO.none _
  |(with_reducible first|refine LeO.bind ?_ (fun _ => ?_)|refine LeO.gQ Iff.rfl (fun _ => ?_) (fun _ => ?_))
  |exact LeO.refl _
  |(with_reducible first|refine LeO.pos (by assumption) ?_|refine LeO.neg (by assumption) ?_|refine LeO.mM (by assumption) ?_|refine LeO.mJ (by assumption) ?_|refine LeO.gQ (by omega) (fun _ => ?_) (fun _ => ?_))
theorem aV.calls (a0 a1 r : Int) (w : World) (h : aV.f a0 a1 = some r) :
  Calls Try.prog 36 #[.int .i64 a0, .int .u32 a1] w fun e w' => e = .returned (.int .u32 r) ∧ Below w.heap.size w w' :=
 Go.Proofs.Ytolpdiifmacdbaa.Ek.jU L.aV.ok 0 ((a0, ()), (a1, ()), ()) r rfl (aV.le (Nat.le_refl _) _ h) w
set_option maxHeartbeats 4000000 in
theorem aW.le {k n : Nat} (hk : k ≤ n) {a0 a1 : Int} {a2 : Bool} : LeO (aW.f a0 a1 a2) (L.aW.f n a0 a1 a2) := by
 unfold aW.f
 rw [L.aW.eq]
 try simp only [Bool.and_true]
 repeat' first
  |(with_reducible exact LeO.refl _)
  |exact LeO.none _
  |(with_reducible first|refine LeO.bind ?_ (fun _ => ?_)|refine LeO.gQ Iff.rfl (fun _ => ?_) (fun _ => ?_))
  |exact LeO.refl _
  |(with_reducible first|refine LeO.pos (by assumption) ?_|refine LeO.neg (by assumption) ?_|refine LeO.mM (by assumption) ?_|refine LeO.mJ (by assumption) ?_|refine LeO.gQ (by omega) (fun _ => ?_) (fun _ => ?_))
theorem aG.iD {k n : Nat} (hk : k ≤ n) {x344000 : Bool} {x344001 x344002 : Int} {x344003 ex0 : Bool} {ex1 ex2 : Int} {ex3 : Bool} : LeO (aG.j2 k x344000 x344001 x344002 x344003) (L.aG.j16 n ex0 ex1 ex2 ex3 x344000 x344001 x344002 x344003) := by
 cases k with
 |zero => rw [aG.j2]; exact LeO.none _
 |succ k =>
 replace hk := Nat.le_of_succ_le hk
 rw [aG.j2, L.aG.j16_eq]
 repeat' first
  |(with_reducible exact LeO.refl _)
  |exact LeO.none _
  |(with_reducible first|exact fun r h => at_rounds (cO.mono _ _ _ _) hk h|exact fun r h => at_rounds (aH.mono _ _) hk h|refine LeO.bind ?_ (fun _ => ?_)|refine LeO.gQ Iff.rfl (fun _ => ?_) (fun _ => ?_))
  |exact fun r h => at_rounds (cO.mono _ _ _ _) hk h
  |exact fun r h => at_rounds (aH.mono _ _) hk h
  |exact LeO.refl _
  |(with_reducible first|refine LeO.pos (by assumption) ?_|refine LeO.neg (by assumption) ?_|refine LeO.mM (by assumption) ?_|refine LeO.mJ (by assumption) ?_|refine LeO.gQ (by omega) (fun _ => ?_) (fun _ => ?_))
theorem aG.gI {k n : Nat} (hk : k ≤ n) {x344000 : Bool} {x344001 x344002 : Int} {x344003 x345000 : Bool} {x345001 x345002 : Int} {x345003 ex0 : Bool} {ex1 ex2 : Int} {ex3 : Bool} : LeO (aG.j1 k x344000 x344001 x344002 x344003 x345000 x345001 x345002 x345003) (L.aG.j8 n ex0 ex1 ex2 ex3 x345000 x345001 x345002 x345003 x344000 x344001 x344002 x344003) := by
 cases k with
 |zero => rw [aG.j1]; exact LeO.none _
 |succ k =>
 replace hk := Nat.le_of_succ_le hk
 rw [aG.j1, L.aG.j8_eq]
 repeat' first
  |(with_reducible exact LeO.refl _)
  |exact LeO.none _
  |(with_reducible first|exact aG.iD hk|exact fun r h => at_rounds (cO.mono _ _ _ _) hk h|exact fun r h => at_rounds (aH.mono _ _) hk h|refine LeO.bind ?_ (fun _ => ?_)|refine LeO.gQ Iff.rfl (fun _ => ?_) (fun _ => ?_))
  |exact aG.iD hk
  |exact fun r h => at_rounds (cO.mono _ _ _ _) hk h
  |exact fun r h => at_rounds (aH.mono _ _) hk h
  |exact LeO.refl _
  |(with_reducible first|refine LeO.pos (by assumption) ?_|refine LeO.neg (by assumption) ?_|refine LeO.mM (by assumption) ?_|refine LeO.mJ (by assumption) ?_|refine LeO.gQ (by omega) (fun _ => ?_) (fun _ => ?_))
theorem aG.jD {k n : Nat} (hk : k ≤ n) {x39 x344000 : Bool} {x344001 x344002 : Int} {x344003 x345000 : Bool} {x345001 x345002 : Int} {x345003 ex1 : Bool} {ex2 ex3 : Int} {ex4 : Bool} : LeO (aG.j0 k x39 x344000 x344001 x344002 x344003 x345000 x345001 x345002 x345003) (L.aG.j7 n x39 ex1 ex2 ex3 ex4 x345000 x345001 x345002 x345003 x344000 x344001 x344002 x344003) := by
 cases k with
 |zero => rw [aG.j0]; exact LeO.none _
 |succ k =>
 replace hk := Nat.le_of_succ_le hk
 rw [aG.j0, L.aG.j7_eq]
 repeat' first
  |(with_reducible exact LeO.refl _)
  |exact LeO.none _
  |(with_reducible first|exact aG.iD hk|exact aG.gI hk|exact fun r h => at_rounds (cO.mono _ _ _ _) hk h|exact fun r h => at_rounds (aH.mono _ _) hk h|refine LeO.bind ?_ (fun _ => ?_)|refine LeO.gQ Iff.rfl (fun _ => ?_) (fun _ => ?_))
  |exact aG.iD hk
  |exact aG.gI hk
  |exact fun r h => at_rounds (cO.mono _ _ _ _) hk h
  |exact fun r h => at_rounds (aH.mono _ _) hk h
  |exact LeO.refl _
  |(with_reducible first|refine LeO.pos (by assumption) ?_|refine LeO.neg (by assumption) ?_|refine LeO.mM (by assumption) ?_|refine LeO.mJ (by assumption) ?_|refine LeO.gQ (by omega) (fun _ => ?_) (fun _ => ?_))
set_option maxHeartbeats 4000000 in
theorem aG.le {k n : Nat} (hk : k ≤ n) {a0_0 : Bool} {a0_1 a0_2 : Int} {a0_3 a1_0 : Bool} {a1_1 a1_2 : Int} {a1_3 : Bool} : LeO (aG.f k a0_0 a0_1 a0_2 a0_3 a1_0 a1_1 a1_2 a1_3) (L.aG.f n a0_0 a0_1 a0_2 a0_3 a1_0 a1_1 a1_2 a1_3) := by
 unfold aG.f
 rw [L.aG.eq]
 try simp only [Bool.and_true]
 repeat' first
  |(with_reducible exact LeO.refl _)
  |exact LeO.none _
  |(with_reducible first|exact aG.iD hk|exact aG.gI hk|exact aG.jD hk|exact fun r h => at_rounds (cO.mono _ _ _ _) hk h|exact fun r h => at_rounds (aH.mono _ _) hk h|refine LeO.bind ?_ (fun _ => ?_)|refine LeO.gQ Iff.rfl (fun _ => ?_) (fun _ => ?_))
  |exact aG.iD hk
  |exact aG.gI hk
  |exact aG.jD hk
  |exact fun r h => at_rounds (cO.mono _ _ _ _) hk h
  |exact fun r h => at_rounds (aH.mono _ _) hk h
  |exact LeO.refl _
  |(with_reducible first|refine LeO.pos (by assumption) ?_|refine LeO.neg (by assumption) ?_|refine LeO.mM (by assumption) ?_|refine LeO.mJ (by assumption) ?_|refine LeO.gQ (by omega) (fun _ => ?_) (fun _ => ?_))
end Go.Proofs.Ytolpdiifmacdbaa.P

/- Functions' trees, printed by a tool of mine out of the reckoner; Lean's kernel checks each. -/
namespace Go.Proofs.Ytolpdiifmacdbaa.L
open Go.RowKit Go.Proofs.Ytolpdiifmacdbaa.P Go.Proofs.Ytolpdiifmacdbaa.Ek Go.Proofs.YtolpdiifmacdbaaW.PrintWords Go.Proofs.YtolpdiifmacdbaaW.PrintLast Go.Proofs.YtolpdiifmacdbaaW.PrintMore
set_option maxRecDepth 100000
noncomputable def aA.j3 (n0 : Nat) (x0 x1 : Bool) (x2 x3 : Int) (x4 : Bool) (x5 x6 : Int) (x7 x8 : Bool) (x9 x10 x11 : Bool) := j5 Try.prog aA.cls Try.f78 aA.cuts [1, 1, 0, 1] [n0] n0 ⟨[(29, (.pv (.one (.b (.q x0))))), (13, (.pv (.one (.p 0 0)))), (5, (.pv (.one (.b (.q x1))))), (4, (.pv (.one (.i .u64 (.x x2))))), (3, (.pv (.one (.i .i64 (.x x3))))), (2, (.pv (.one (.b (.q x4))))), (1, (.pv (.one (.i .i64 (.x x5))))), (0, (.pv (.one (.i .i64 (.x x6)))))], [(0, (82, [(.c (.b (.q x7))), (.c (.b (.q x8))), (.c (.b (.q x9))), (.c (.b (.q x10))), (.c (.b (.q x11)))]))], 1⟩ aA.K
noncomputable def aA.j9 (n0 : Nat) (x0 x1 : Int) (x2 x3 : Int) (x4 x5 : Int) (x6 : Bool) (x7 x8 : Int) (x9 x10 : Bool) (x11 x12 x13 : Bool) := j5 Try.prog aA.cls Try.f78 aA.cuts [1, 1, 1, 1, 1, 1, 1] [n0] n0 ⟨[(18, (.pv (.one (.i .i64 (.x x0))))), (17, (.pv (.one (.i .u64 (.x x1))))), (16, (.pv (.one (.i .i64 (.x x2))))), (15, (.pv (.one (.i .i64 (.x x3))))), (13, (.pv (.one (.p 0 0)))), (4, (.pv (.one (.i .u64 (.x x4))))), (3, (.pv (.one (.i .i64 (.x x5))))), (2, (.pv (.one (.b (.q x6))))), (1, (.pv (.one (.i .i64 (.x x7))))), (0, (.pv (.one (.i .i64 (.x x8)))))], [(0, (82, [(.c (.b (.q x9))), (.c (.b (.q x10))), (.c (.b (.q x11))), (.c (.b (.q x12))), (.c (.b (.q x13)))]))], 1⟩ aA.K
noncomputable def aA.j11 (n0 : Nat) (x0 x1 : Int) (x2 x3 : Int) (x4 x5 : Int) (x6 : Bool) (x7 x8 : Int) (x9 x10 : Bool) (x11 x12 x13 : Bool) := j5 Try.prog aA.cls Try.f78 aA.cuts [1, 1, 1, 1, 1, 1, 1, 1] [n0] n0 ⟨[(18, (.pv (.one (.i .i64 (.x x0))))), (17, (.pv (.one (.i .u64 (.x x1))))), (16, (.pv (.one (.i .i64 (.x x2))))), (15, (.pv (.one (.i .i64 (.x x3))))), (13, (.pv (.one (.p 0 0)))), (4, (.pv (.one (.i .u64 (.x x4))))), (3, (.pv (.one (.i .i64 (.x x5))))), (2, (.pv (.one (.b (.q x6))))), (1, (.pv (.one (.i .i64 (.x x7))))), (0, (.pv (.one (.i .i64 (.x x8)))))], [(0, (82, [(.c (.b (.q x9))), (.c (.b (.q x10))), (.c (.b (.q x11))), (.c (.b (.q x12))), (.c (.b (.q x13)))]))], 1⟩ aA.K
noncomputable def aA.j14 (n0 : Nat) (x0 x1 : Int) (x2 x3 : Int) (x4 x5 : Int) (x6 : Bool) (x7 x8 : Int) (x9 x10 : Bool) (x11 x12 x13 : Bool) := j5 Try.prog aA.cls Try.f78 aA.cuts [1, 1, 1, 1, 1, 1, 1, 1, 1, 1] [n0] n0 ⟨[(19, (.pv (.one (.i .i64 (.x x0))))), (18, (.pv (.one (.i .i64 (.x x1))))), (17, (.pv (.one (.i .u64 (.x x2))))), (15, (.pv (.one (.i .i64 (.x x3))))), (13, (.pv (.one (.p 0 0)))), (4, (.pv (.one (.i .u64 (.x x4))))), (3, (.pv (.one (.i .i64 (.x x5))))), (2, (.pv (.one (.b (.q x6))))), (1, (.pv (.one (.i .i64 (.x x7))))), (0, (.pv (.one (.i .i64 (.x x8)))))], [(0, (82, [(.c (.b (.q x9))), (.c (.b (.q x10))), (.c (.b (.q x11))), (.c (.b (.q x12))), (.c (.b (.q x13)))]))], 1⟩ aA.K
theorem aA.eq (n0 : Nat) (a0 a1 : Int) (a2 : Bool) (a3 a4 : Int) (a5 : Bool) : aA.f n0 a0 a1 a2 a3 a4 a5 = (if a4 = 0 then (aA.j3 n0 (!(a5)) (a5) (a4) (mn (mx a3 (-10000)) 10000) (a2) (a1) (a0) (false) (false) (false) (false) (false)) else (aA.j3 n0 (false) (a5) (a4) (mn (mx a3 (-10000)) 10000) (a2) (a1) (a0) (false) (false) (false) (false) (false))) := by kernel_rfl
theorem aA.j3_eq (n0 : Nat) (x0 x1 : Bool) (x2 x3 : Int) (x4 : Bool) (x5 x6 : Int) (x7 x8 : Bool) (x9 x10 x11 : Bool) : aA.j3 n0 x0 x1 x2 x3 x4 x5 x6 x7 x8 x9 x10 x11 = (if x0 = true then ((bN.f x6 x4).bind fun t0 => (some ((t0, false, false, false, false, false)))) else ((aR.f x6).bind fun t0 => ((bI.f n0 x6 x3 x2).bind fun t1 => ((aZ.f n0 x2 (wrap64 (t1 - x3)) x1).bind fun t2 => ((eF.f x5 x4 t2.1 t2.2).bind fun t3 => (if t3 = true then (aA.j9 n0 t2.2 (IntKind.wrap IntKind.u64 (t2.1 + 1)) (t1) t0.2 (x2) (x3) (x4) (x5) (x6) (x7) (x8) (x9) (x10) (x11)) else (aA.j9 n0 t2.2 t2.1 (t1) t0.2 (x2) (x3) (x4) (x5) (x6) (x7) (x8) (x9) (x10) (x11)))))))) := by kernel_rfl
theorem aA.j9_eq (n0 : Nat) (x0 x1 : Int) (x2 x3 : Int) (x4 x5 : Int) (x6 : Bool) (x7 x8 : Int) (x9 x10 : Bool) (x11 x12 x13 : Bool) : aA.j9 n0 x0 x1 x2 x3 x4 x5 x6 x7 x8 x9 x10 x11 x12 x13 = (if 0 ≤ IntKind.wrap IntKind.u64 (wrap64 (x3 + 1)) then (if shr IntKind.u64 x1 (IntKind.wrap IntKind.u64 (wrap64 (x3 + 1))) = 0 then (aA.j11 n0 (x0) (x1) (x2) (x3) (x4) (x5) (x6) (x7) (x8) (x9) (x10) (x11) (x12) (x13)) else (aA.j11 n0 (x0) (shr IntKind.u64 x1 1) (wrap64 (x2 + 1)) (x3) (x4) (x5) (x6) (x7) (x8) (x9) (x10) (x11) (x12) (x13))) else none) := by kernel_rfl
theorem aA.rF (n0 : Nat) (x0 x1 : Int) (x2 x3 : Int) (x4 x5 : Int) (x6 : Bool) (x7 x8 : Int) (x9 x10 : Bool) (x11 x12 x13 : Bool) : aA.j11 n0 x0 x1 x2 x3 x4 x5 x6 x7 x8 x9 x10 x11 x12 x13 = ((bD.f x8).bind fun t0 => (if 0 ≤ IntKind.wrap IntKind.u64 x3 then (if shr IntKind.u64 x1 (IntKind.wrap IntKind.u64 x3) = 0 then (aA.j14 n0 (Int.ofNat 0) (x0) (x1) (x3) (x4) (x5) (x6) (x7) (x8) (x9) (x10) (x11) (x12) (x13)) else (aA.j14 n0 (wrap64 (wrap64 (wrap64 (x2 + x3) - t0) + 1)) (x0) (x1) (x3) (x4) (x5) (x6) (x7) (x8) (x9) (x10) (x11) (x12) (x13))) else none)) := by kernel_rfl
theorem aA.j14_eq (n0 : Nat) (x0 x1 : Int) (x2 x3 : Int) (x4 x5 : Int) (x6 : Bool) (x7 x8 : Int) (x9 x10 : Bool) (x11 x12 x13 : Bool) : aA.j14 n0 x0 x1 x2 x3 x4 x5 x6 x7 x8 x9 x10 x11 x12 x13 = ((bK.f x8).bind fun t0 => (if t0 ≤ x0 then ((Ytolpdiifmacdbaa.L.aW.f n0 x8 x7 x6).bind fun t1 => (some ((t1.1, t1.2.1, t1.2.2.1, t1.2.2.2.1, t1.2.2.2.2.1, t1.2.2.2.2.2)))) else (if x1 = 0 then ((dQ.f x2 x3).bind fun t1 => ((aX.f x8 x6 x0 (t1 % 4294967296)).bind fun t2 => (some ((t2, false, false, false, false, !x1 == 0))))) else (if x4 = 0 then ((dQ.f x2 x3).bind fun t1 => ((aX.f x8 x6 x0 (t1 % 4294967296)).bind fun t2 => (some ((t2, false, false, false, true, !x1 == 0))))) else ((bits_Len.f n0 x4).bind fun t1 => ((bD.f x8).bind fun t2 => ((dQ.f x2 x3).bind fun t3 => ((aX.f x8 x6 x0 (t3 % 4294967296)).bind fun t4 => (some ((t4, false, false, false, decide (wrap64 (wrap64 (x5 + t1) - 1) < t2), !x1 == 0))))))))))) := by kernel_rfl
end Go.Proofs.Ytolpdiifmacdbaa.L

/- What the reckoner tells of printed functions. -/
namespace Go.Proofs.Ytolpdiifmacdbaa.P
open Go.RowKit Go.Proofs.YtolpdiifmacdbaaW.PrintWords Go.Proofs.YtolpdiifmacdbaaW.PrintLast Go.Proofs.YtolpdiifmacdbaaW.PrintMore
set_option maxRecDepth 100000
theorem aA.qX {k n : Nat} (hk : k ≤ n) {x0 x1 : Int} {x2 : Bool} {x3 x4 : Int} {x15 x17 : Int} {x18 x19 : Int} {ex9 ex10 : Bool} {ex11 ex12 ex13 : Bool} : LeO (aA.j3 k x0 x1 x2 x3 x4 x15 x17 x18 x19) (L.aA.j14 n x19 x18 x17 x15 x4 x3 x2 x1 x0 ex9 ex10 ex11 ex12 ex13) := by
 cases k with
 |zero => rw [aA.j3]; exact LeO.none _
 |succ k =>
 replace hk := Nat.le_of_succ_le hk
 rw [aA.j3, L.aA.j14_eq]
 repeat' first
  |(with_reducible exact LeO.refl _)
  |exact LeO.none _
  |(with_reducible first|exact fun r h => at_rounds (bI.mono _ _ _) hk h|exact fun r h => at_rounds (aZ.mono _ _ _) hk h|exact aW.le hk|exact fun r h => at_rounds (bits_Len.mono _) hk h|refine LeO.bind ?_ (fun _ => ?_)|refine LeO.gQ Iff.rfl (fun _ => ?_) (fun _ => ?_))
  |exact fun r h => at_rounds (bI.mono _ _ _) hk h
  |exact fun r h => at_rounds (aZ.mono _ _ _) hk h
  |exact aW.le hk
  |exact fun r h => at_rounds (bits_Len.mono _) hk h
  |exact LeO.refl _
  |(with_reducible first|refine LeO.pos (by assumption) ?_|refine LeO.neg (by assumption) ?_|refine LeO.mM (by assumption) ?_|refine LeO.mJ (by assumption) ?_|refine LeO.gQ (by omega) (fun _ => ?_) (fun _ => ?_))
theorem aA.iD {k n : Nat} (hk : k ≤ n) {x0 x1 : Int} {x2 : Bool} {x3 x4 : Int} {x15 x16 : Int} {x17 x18 : Int} {ex9 ex10 : Bool} {ex11 ex12 ex13 : Bool} : LeO (aA.j2 k x0 x1 x2 x3 x4 x15 x16 x17 x18) (L.aA.j11 n x18 x17 x16 x15 x4 x3 x2 x1 x0 ex9 ex10 ex11 ex12 ex13) := by
 cases k with
 |zero => rw [aA.j2]; exact LeO.none _
 |succ k =>
 replace hk := Nat.le_of_succ_le hk
 rw [aA.j2, L.aA.rF]
 repeat' first
  |(with_reducible exact LeO.refl _)
  |exact LeO.none _
  |(with_reducible first|exact aA.qX hk|exact fun r h => at_rounds (bI.mono _ _ _) hk h|exact fun r h => at_rounds (aZ.mono _ _ _) hk h|exact aW.le hk|exact fun r h => at_rounds (bits_Len.mono _) hk h|refine LeO.bind ?_ (fun _ => ?_)|refine LeO.gQ Iff.rfl (fun _ => ?_) (fun _ => ?_))
  |exact aA.qX hk
  |exact fun r h => at_rounds (bI.mono _ _ _) hk h
  |exact fun r h => at_rounds (aZ.mono _ _ _) hk h
  |exact aW.le hk
  |exact fun r h => at_rounds (bits_Len.mono _) hk h
  |exact LeO.refl _
  |(with_reducible first|refine LeO.pos (by assumption) ?_|refine LeO.neg (by assumption) ?_|refine LeO.mM (by assumption) ?_|refine LeO.mJ (by assumption) ?_|refine LeO.gQ (by omega) (fun _ => ?_) (fun _ => ?_))
theorem aA.gI {k n : Nat} (hk : k ≤ n) {x0 x1 : Int} {x2 : Bool} {x3 x4 : Int} {x15 x16 : Int} {x17 x18 : Int} {ex9 ex10 : Bool} {ex11 ex12 ex13 : Bool} : LeO (aA.j1 k x0 x1 x2 x3 x4 x15 x16 x17 x18) (L.aA.j9 n x18 x17 x16 x15 x4 x3 x2 x1 x0 ex9 ex10 ex11 ex12 ex13) := by
 cases k with
 |zero => rw [aA.j1]; exact LeO.none _
 |succ k =>
 replace hk := Nat.le_of_succ_le hk
 rw [aA.j1, L.aA.j9_eq]
 repeat' first
  |(with_reducible exact LeO.refl _)
  |exact LeO.none _
  |(with_reducible first|exact aA.qX hk|exact aA.iD hk|exact fun r h => at_rounds (bI.mono _ _ _) hk h|exact fun r h => at_rounds (aZ.mono _ _ _) hk h|exact aW.le hk|exact fun r h => at_rounds (bits_Len.mono _) hk h|refine LeO.bind ?_ (fun _ => ?_)|refine LeO.gQ Iff.rfl (fun _ => ?_) (fun _ => ?_))
  |exact aA.qX hk
  |exact aA.iD hk
  |exact fun r h => at_rounds (bI.mono _ _ _) hk h
  |exact fun r h => at_rounds (aZ.mono _ _ _) hk h
  |exact aW.le hk
  |exact fun r h => at_rounds (bits_Len.mono _) hk h
  |exact LeO.refl _
  |(with_reducible first|refine LeO.pos (by assumption) ?_|refine LeO.neg (by assumption) ?_|refine LeO.mM (by assumption) ?_|refine LeO.mJ (by assumption) ?_|refine LeO.gQ (by omega) (fun _ => ?_) (fun _ => ?_))
theorem aA.jD {k n : Nat} (hk : k ≤ n) {x0 x1 : Int} {x2 : Bool} {x3 x4 : Int} {x5 x29 : Bool} {ex7 ex8 : Bool} {ex9 ex10 ex11 : Bool} : LeO (aA.j0 k x0 x1 x2 x3 x4 x5 x29) (L.aA.j3 n x29 x5 x4 x3 x2 x1 x0 ex7 ex8 ex9 ex10 ex11) := by
 cases k with
 |zero => rw [aA.j0]; exact LeO.none _
 |succ k =>
 replace hk := Nat.le_of_succ_le hk
 rw [aA.j0, L.aA.j3_eq]
 repeat' first
  |(with_reducible exact LeO.refl _)
  |exact LeO.none _
  |(with_reducible first|exact aA.qX hk|exact aA.iD hk|exact aA.gI hk|exact fun r h => at_rounds (bI.mono _ _ _) hk h|exact fun r h => at_rounds (aZ.mono _ _ _) hk h|exact aW.le hk|exact fun r h => at_rounds (bits_Len.mono _) hk h|refine LeO.bind ?_ (fun _ => ?_)|refine LeO.gQ Iff.rfl (fun _ => ?_) (fun _ => ?_))
  |exact aA.qX hk
  |exact aA.iD hk
  |exact aA.gI hk
  |exact fun r h => at_rounds (bI.mono _ _ _) hk h
  |exact fun r h => at_rounds (aZ.mono _ _ _) hk h
  |exact aW.le hk
  |exact fun r h => at_rounds (bits_Len.mono _) hk h
  |exact LeO.refl _
  |(with_reducible first|refine LeO.pos (by assumption) ?_|refine LeO.neg (by assumption) ?_|refine LeO.mM (by assumption) ?_|refine LeO.mJ (by assumption) ?_|refine LeO.gQ (by omega) (fun _ => ?_) (fun _ => ?_))
set_option maxHeartbeats 4000000 in
theorem aA.le {k n : Nat} (hk : k ≤ n) {a0 a1 : Int} {a2 : Bool} {a3 a4 : Int} {a5 : Bool} : LeO (aA.f k a0 a1 a2 a3 a4 a5) (L.aA.f n a0 a1 a2 a3 a4 a5) := by
 unfold aA.f
 rw [L.aA.eq]
 try simp only [Bool.and_true]
 repeat' first
  |(with_reducible exact LeO.refl _)
  |exact LeO.none _
  |(with_reducible first|exact aA.qX hk|exact aA.iD hk|exact aA.gI hk|exact aA.jD hk|exact fun r h => at_rounds (bI.mono _ _ _) hk h|exact fun r h => at_rounds (aZ.mono _ _ _) hk h|exact aW.le hk|exact fun r h => at_rounds (bits_Len.mono _) hk h|refine LeO.bind ?_ (fun _ => ?_)|refine LeO.gQ Iff.rfl (fun _ => ?_) (fun _ => ?_))
  |exact aA.qX hk
  |exact aA.iD hk
  |exact aA.gI hk
  |exact aA.jD hk
  |exact fun r h => at_rounds (bI.mono _ _ _) hk h
  |exact fun r h => at_rounds (aZ.mono _ _ _) hk h
  |exact aW.le hk
  |exact fun r h => at_rounds (bits_Len.mono _) hk h
  |exact LeO.refl _
  |(with_reducible first|refine LeO.pos (by assumption) ?_|refine LeO.neg (by assumption) ?_|refine LeO.mM (by assumption) ?_|refine LeO.mJ (by assumption) ?_|refine LeO.gQ (by omega) (fun _ => ?_) (fun _ => ?_))
end Go.Proofs.Ytolpdiifmacdbaa.P
