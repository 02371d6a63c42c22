import Derived.Test.YtfapjegkilljnaaQobM8
import Derived.Test.YtfapjegkilljnaaProg
import Derived.Test.YtfapjegkilljnaaQobM6
import Derived.Test.YtfapjegkilljnaaQobM5
import Derived.Test.YtfapjegkilljnaaQobM4
import Derived.Test.YtfapjegkilljnaaQobZ
/- Operations behind one another, and in any order, by the reckoner's. -/
set_option linter.unusedVariables false
set_option linter.unusedSimpArgs false
namespace Go.Proofs.Ytfapjegkilljnaa.Ek
open Go.RowKit Go.Proofs.YtfapjegkilljnaaW.PrintWords Go.Proofs.YtfapjegkilljnaaW.PrintLast Go.Proofs.YtfapjegkilljnaaW.PrintMore

section
variable {P : Program}
theorem getD_some {a : Array Value} {t : Nat} {v : Value} (h : a.getD t undef = v) (hv : v ≠ undef) : a[t]? = some v := by
 rw [Array.getD_eq_getD_getElem?] at h
 cases hq : a[t]? with
 |none => rw [hq] at h; exact absurd h.symm hv
 |some u => rw [hq] at h; exact congrArg some h
theorem gG {R : Type} {w0 : World} {nt : Nat} {ops : Array Oper} {o : Oper} {s : St} {yes no : St → Option R} {r : R} {m : Nat → Nat} {a : Act} {w : World} (hr : Rel w0 nt m s a w) (h : guarded ops o s yes no = some r) :
  ∃ s', Rel w0 nt m s' a w ∧ s'.next = s.next ∧ s'.heap = s.heap ∧ ((Region.wanted o (yielded ops a.tmps) = true ∧ yes s' = some r) ∨ (Region.wanted o (yielded ops a.tmps) = false ∧ no s' = some r)) := by
 unfold guarded at h
 split at h
 ·next hg => exact ⟨s, hr, rfl, rfl, .inl ⟨by simp [Region.wanted, hg], h⟩⟩
 ·next j want hg =>
  split at h
  ·cases h
  ·next t ht =>
   have hw : Region.wanted o (yielded ops a.tmps) = ((match a.tmps[t]? with
     |some (.bool b) => some b
     |_ => none) == some want) := by
    have ht' : (ops[j]?).bind (fun x => x.dst) = some t := ht
    simp only [Region.wanted, hg, yielded, ht', Option.bind_some]
    cases a.tmps[t]? with
    |none => rfl
    |some v => cases v <;> rfl
   split at h
   ·next hl =>
    obtain ⟨_, e⟩ := hr.env t _ hl
    refine ⟨s, hr, rfl, rfl, .inr ⟨?_, h⟩⟩
    rw [hw]
    have e' : a.tmps.getD t undef = undef := e
    rw [Array.getD_eq_getD_getElem?] at e'
    cases hq : a.tmps[t]? with
    |none => rfl
    |some u => rw [hq] at e'; have e2 : u = undef := e'; subst e2; rfl
   ·next e hl =>
    obtain ⟨_, eb⟩ := hr.env t _ hl
    have eb' : a.tmps.getD t undef = .bool e.d := eb
    have hq := getD_some eb' (by intro hh; cases hh)
    rw [hq] at hw
    have hw' : Region.wanted o (yielded ops a.tmps) = (e.d == want) := by rw [hw]; rfl
    rw [BE.yB] at h
    have rel : ∀ b : BE, b.d = e.d → Rel w0 nt m ⟨(t, .pv (.one (.b b))) :: s.env, s.heap, s.next⟩ a w := fun b hb =>
     ⟨hr.size, hr.dfr, fun t' v hv => by
      rw [dI] at hv
      by_cases c : t = t'
      ·subst c
       rw [if_pos rfl] at hv
       cases hv
       exact ⟨trivial, by rw [eb']; show Value.bool e.d = Value.bool b.d; rw [hb]⟩
      ·rw [if_neg c] at hv
       exact hr.env t' v hv, hr.heap, hr.inj, hr.bel⟩
    split at h
    ·next hd =>
     refine ⟨_, rel .tt hd.symm, rfl, rfl, ?_⟩
     rw [hw', hd]
     cases want
     ·exact .inr ⟨rfl, h⟩
     ·exact .inl ⟨rfl, h⟩
    ·next hd =>
     have hd' : e.d = false := by simpa using hd
     refine ⟨_, rel .ff hd'.symm, rfl, rfl, ?_⟩
     rw [hw', hd']
     cases want
     ·exact .inl ⟨rfl, h⟩
     ·exact .inr ⟨rfl, h⟩
   ·cases h
theorem iB {R : Type} {w0 : World} {nt : Nat} {o : Oper} {s : St} {K : St → Option R} {r : R} {m : Nat → Nat} {a : Act} {w : World} (hr : Rel w0 nt m s a w) (h : fV nt o s K = some r) :
  K (s.put o.dst .und) = some r ∧ Rel w0 nt m (s.put o.dst .und) (a.put o.dst undef) w := by
 unfold fV at h
 obtain ⟨hd, h1⟩ := dY h
 exact ⟨h1, hr.put (v := .und) hd trivial⟩

variable {cl : Cls} (hcl : bW P cl)
 include hcl
theorem uI {R : Type} {w0 : World} {nt n : Nat} {ops : Array Oper} {r : R} {Q : Exit → Act → World → Prop} : ∀ {l : List Oper} {s : St} {K : St → Option R} {m : Nat → Nat} {a : Act} {w : World}, Rel w0 nt m s a w → nW P nt cl n ops l s K = some r →
  (∀ s' m' a' w', K s' = some r → Rel w0 nt m' s' a' w' → Q .normal a' w') → wpList P ops Q l a w := by
 intro l
 induction l with
 |nil =>
  intro s K m a w hr h hK
  exact hK _ _ _ _ h hr
 |cons o l ih =>
  intro s K m a w hr h hK
  unfold nW at h
  obtain ⟨s', hr', _, _, hc⟩ := gG hr h
  unfold wpList
  rcases hc with ⟨hw, hy⟩ | ⟨hw, hn⟩
  ·rw [if_pos hw]
   obtain ⟨s2, h2, h3⟩ := rW hcl hr' hy
   exact .inl (h3 _ Q fun m' a' w' hr2 _ _ _ => ih hr2 h2 hK)
  ·rw [if_neg (by rw [hw]; decide)]
   obtain ⟨h2, hr2⟩ := iB hr' hn
   exact ih hr2 h2 hK

omit hcl in
theorem jL {op : Op} (h : kN op = true) : fA op = false := by
 cases op <;> first | rfl | cases h
set_option maxHeartbeats 1000000 in
theorem tZ {R : Type} {w0 : World} {nt n : Nat} {ops : Array Oper} {r : R} {Q : Exit → Act → World → Prop} {B : List Nat} (hT : waitsOk (rtab .any ops).2 B = true) {heap0 : List (Nat × Nat × List S)} {next0 : Nat} {m0 : Nat → Nat}
  (ho0 : ∀ g e ss, look heap0 g = some (e, ss) → g < next0 ∧ oks next0 ss) (hQ : ∀ c a w, ¬ Q (.panic c) a w) :
  ∀ {f : Nat} {l : Array Bool} {s : St} {K : St → Option R} {m : Nat → Nat} {a : Act} {w : World}, Rel w0 nt m s a w → next0 ≤ s.next → (∀ g, g < next0 → m g = m0 g) →
  fK P nt cl n ops (rtab .any ops) B (bI ops) heap0 f l.toList s K = some r →
  ((∀ d ∈ bI ops, l.getD d true = false) → ∀ g e ss, look heap0 g = some (e, ss) → w.heap[m0 g]? = some (.cells (vals m0 ss).toArray e (0, 0))) →
  (∀ s' m' a' w', K s' = some r → Rel w0 nt m' s' a' w' → Q .normal a' w') →
  wpAnyLast P .any ops Q (fun w => ∀ g e ss, look heap0 g = some (e, ss) → w.heap[m0 g]? = some (.cells (vals m0 ss).toArray e (0, 0))) (bI ops) f l a w := by
 intro f
 induction f with
 |zero =>
  intro l s K m a w hr hn0 hm0 h hS hK
  unfold fK at h
  split at h
  ·next hrd => exact ⟨by rw [ready_eq]; exact hrd, hK _ _ _ _ h hr⟩
  ·cases h
 |succ f ih =>
  intro l s K m a w hr hn0 hm0 h hS hK
  unfold fK at h
  split at h
  ·next hrd => exact wpAnyLast_done (by rw [ready_eq]; exact hrd) (hK _ _ _ _ h hr) _
  ·next hne =>
   split at h
   ·next i hi =>
    have hi' := List.find?_some hi
    simp only [Bool.and_eq_true] at hi'
    obtain ⟨hp, ha⟩ := hi'
    split at h
    ·next o ho =>
     have hany : anyB .any ops l (l.setIfInBounds i true) i = true := any_of rfl (by simpa using ha)
     have hlist : (l.setIfInBounds i true).toList = l.toList.set i true := by simp
     obtain ⟨s', hr', hnx, _, hc⟩ := gG hr h
     have hstore : ∀ d ∈ bI ops, d ≠ i := by
      intro d hd hdi
      subst hdi
      unfold bI at hd
      have h5 := (List.mem_filter.1 hd).2
      rw [ho] at h5
      have h6 : kN o.op = true := by unfold kL at hp; rw [ho] at hp; exact hp
      have h5' : fA o.op = true := h5
      rw [jL h6] at h5'
      cases h5'
     have hS' : ∀ (w : World), ((∀ d ∈ bI ops, l.getD d true = false) → ∀ g e ss, look heap0 g = some (e, ss) → w.heap[m0 g]? = some (.cells (vals m0 ss).toArray e (0, 0))) →
       (∀ d ∈ bI ops, (l.setIfInBounds i true).getD d true = false) → ∀ g e ss, look heap0 g = some (e, ss) → w.heap[m0 g]? = some (.cells (vals m0 ss).toArray e (0, 0)) := by
      intro w hw hd
      refine hw fun d hdm => ?_
      rw [← hd d hdm, getD_set_ne true (Ne.symm (hstore d hdm))]
     rcases hc with ⟨hw, hy⟩ | ⟨hw, hno⟩
     ·obtain ⟨hd, hy⟩ := dY hy
      obtain ⟨v, h1, h2, h3⟩ := oI hr'.env hy
      refine pure_ (l.setIfInBounds i true) ho rfl hany (fun c a w hq => absurd hq (hQ c _ w)) (.inl ⟨hw, h3⟩) rfl ?_
      exact ih (hr'.put hd h2) (by cases o.dst <;> (show next0 ≤ s'.next; omega)) hm0 (by rw [hlist]; exact h1) (hS' w hS) hK
     ·obtain ⟨h2, hr2⟩ := iB hr' hno
      refine pure_ (l.setIfInBounds i true) ho rfl hany (fun c a w hq => absurd hq (hQ c _ w)) (.inr ⟨hw, rfl⟩) rfl ?_
      exact ih hr2 (by cases o.dst <;> (show next0 ≤ s'.next; omega)) hm0 (by rw [hlist]; exact h2) (hS' w hS) hK
    ·cases h
   ·next =>
    split at h
    ·next i hi =>
     have hi' := List.find?_some hi
     simp only [Bool.and_eq_true] at hi'
     obtain ⟨⟨hp, ha⟩, hds⟩ := hi'
     have hds' : ∀ d ∈ bI ops, l.getD d true = false := by
      intro d hd
      have := List.all_eq_true.1 hds d hd
      have e : l.toList.getD d true = l.getD d true := (gd l d true).symm
      rw [e] at this
      simpa using this
     have hSw := hS hds'
     split at h
     ·next o ho =>
      have htake : takeB .any ops (bI ops) l (l.setIfInBounds i true) i = true := take_ofW rfl hT (by simpa using ha)
      have hlist : (l.setIfInBounds i true).toList = l.toList.set i true := by simp
      obtain ⟨s', hr', hnx, _, hc⟩ := gG hr h
      rcases hc with ⟨hw, hy⟩ | ⟨hw, hno⟩
      ·obtain ⟨hd, hy⟩ := dY hy
       split at hy
       ·next t x hop =>
        split at hy
        ·next c hx =>
         split at hy
         ·next v hv =>
          obtain ⟨ok, ex⟩ := fE hr'.env hx
          have ex' : a.eval x = c.v m := ex
          have hval : ∀ w : World, (∀ g e ss, look heap0 g = some (e, ss) → w.heap[m0 g]? = some (.cells (vals m0 ss).toArray e (0, 0))) → v.ok s'.next ∧ (execOp a.eval o).run P w = .ok (.value (v.v m)) w := by
           intro w hw
           obtain ⟨q1, q2⟩ := kS (m := m) (w := w) (heap := heap0) ok (fun g e ss hg => by
            obtain ⟨b1, b2⟩ := ho0 g e ss hg
            refine ⟨fJ (by rw [hnx]; exact hn0) b2, ?_⟩
            rw [hm0 g b1, eP hm0 b2]
            exact hw g e ss hg) hv
           refine ⟨q1, ?_⟩
           obtain ⟨dst, op, ty, pos, after, guard⟩ := o
           simp only at hop
           subst hop
           exact gH (by rw [ex']; exact q2)
          refine take_ (v := v.v m) (l.setIfInBounds i true) ho rfl htake (fun c a w hq => absurd hq (hQ c _ w)) (.inl ⟨hw, fun w hw => (hval w hw).2⟩) hSw rfl ?_
          refine ih (hr'.put (v := .pv v) hd (hval w hSw).1) (by cases o.dst <;> (show next0 ≤ s'.next; omega)) hm0 (by rw [hlist]; exact hy) (fun _ => hSw) hK
         ·cases hy
        ·cases hy
       ·cases hy
      ·obtain ⟨h2, hr2⟩ := iB hr' hno
       refine take_ (l.setIfInBounds i true) ho rfl htake (fun c a w hq => absurd hq (hQ c _ w)) (.inr ⟨hw, rfl⟩) hSw rfl ?_
       exact ih hr2 (by cases o.dst <;> (show next0 ≤ s'.next; omega)) hm0 (by rw [hlist]; exact h2) (fun _ => hSw) hK
     ·cases h
    ·split at h
     ·next i hrd =>
      split at h
      ·next o ho =>
       have hlist : (l.setIfInBounds i true).toList = l.toList.set i true := by simp
       have hready : Region.ready .any ops l = [i] := by rw [ready_eq]; exact hrd
       have hun : l.getD i true = false := (mem_ready.1 (by rw [hready]; exact List.mem_cons_self ..)).1
       refine wpAnyLast_all hready (by simp) fun j hj => ?_
       obtain rfl : j = i := by simpa using hj
       have hmem : j ∈ bI ops ↔ fA o.op = true := by
        unfold bI
        rw [List.mem_filter, List.mem_range, ho]
        exact ⟨fun hh => hh.2, fun hh => ⟨(Array.getElem?_eq_some_iff.1 ho).1, hh⟩⟩
       have hSn : ∀ w' : World, (j ∉ bI ops → Below w.heap.size w w') → (∀ d ∈ bI ops, (l.setIfInBounds j true).getD d true = false) → ∀ g e ss, look heap0 g = some (e, ss) → w'.heap[m0 g]? = some (.cells (vals m0 ss).toArray e (0, 0)) := by
        intro w' hb hd g e ss hg
        have hnot : j ∉ bI ops := fun hh => by
         have := hd j hh
         have hlt : j < l.size := by
          rcases Nat.lt_or_ge j l.size with h' | h'
          ·exact h'
          ·rw [Array.getD_eq_getD_getElem?, Array.getElem?_eq_none h'] at hun; cases hun
         simp [hlt] at this
        have h0 := hS (fun d hdm => by
         have hne : j ≠ d := fun hh => hnot (by rw [hh]; exact hdm)
         rw [← hd d hdm, getD_set_ne true hne]) g e ss hg
        exact (hb hnot).block _ (blk_lt h0) |>.trans h0
       obtain ⟨s', hr', hnx, _, hc⟩ := gG hr h
       unfold wpOp
       rw [ho]
       show if Region.wanted o (yielded ops a.tmps) = true then _ else _
       rcases hc with ⟨hw, hy⟩ | ⟨hw, hno⟩
       ·rw [if_pos hw]
        obtain ⟨s2, h2, h3⟩ := rW hcl hr' hy
        refine .inl (h3 _ Q fun m' a' w' hr2 hmm hnn hb => ?_)
        have hb' : j ∉ bI ops → Below w.heap.size w w' := fun hh => hb (by
         cases hst : fA o.op
         ·rfl
         ·exact absurd (hmem.2 hst) hh)
        exact ⟨fun hnot hSw g e ss hg => ((hb' hnot).block _ (blk_lt (hSw g e ss hg))).trans (hSw g e ss hg), ih hr2 (by omega) (fun g hg => (hmm g (by omega)).trans (hm0 g hg)) (by rw [hlist]; exact h2) (hSn w' hb') hK⟩
       ·rw [if_neg (by rw [hw]; decide)]
        obtain ⟨h2, hr2⟩ := iB hr' hno
        exact ⟨fun _ hSw => hSw, ih hr2 (by cases o.dst <;> (show next0 ≤ s'.next; omega)) hm0 (by rw [hlist]; exact h2) (hSn w (fun _ => Below.refl _ _)) hK⟩
      ·cases h
     ·cases h
theorem uB {R : Type} {w0 : World} {nt n id : Nat} {ops : Array Oper} {draw : Bool} {s : St} {K : St → Option R} {r : R} {m : Nat → Nat} {a : Act} {w : World} {Q : Exit → Act → World → Prop} (hr : Rel w0 nt m s a w) (hQ : ∀ c a w, ¬ Q (.panic c) a w)
  (h : tV P nt cl n ops draw s K = some r) (hK : ∀ s' m' a' w', K s' = some r → Rel w0 nt m' s' a' w' → Q .normal a' w') : (Code.region id ops draw).wp P Q a w := by
 unfold tV at h
 cases draw with
 |false => exact wp_region_list (uI hcl hr h hK)
 |true =>
  obtain ⟨h1, h2⟩ := dY h
  rw [Bool.and_eq_true] at h1
  have hw : Below w.heap.size w w.drew := below_drew (Below.refl _ _)
  refine wp_region_last (S := fun w => ∀ g e ss, look s.heap g = some (e, ss) → w.heap[m g]? = some (.cells (vals m ss).toArray e (0, 0))) (ds := bI ops) h1.1 ?_
  refine tZ hcl h1.2 (next0 := s.next) (fun g e ss hg => ⟨(hr.heap g e ss hg).1, (hr.heap g e ss hg).2.1⟩) hQ (hr.grow hw) (Nat.le_refl _) (fun _ _ => rfl) (by rw [Array.toList_replicate]; exact h2) (fun _ g e ss hg => (hr.heap g e ss hg).2.2.1) hK
end
/- Code, and functions: what the reckoner answers, the machine answers. -/

section
variable (m : Nat → Nat)
theorem C.qR (c : C) : c.gen.v m = c.v m := by cases c <;> rfl
theorem S.qR (s : S) : s.gen.v m = s.v m := by
 cases s with
 |c u => show [u.gen.v m] = [u.v m]; rw [C.qR]
 |a => rfl
theorem uX (ss : List S) : vals m (ss.map S.gen) = vals m ss := by
 induction ss with
 |nil => rfl
 |cons s r ih => show s.gen.v m ++ vals m (r.map S.gen) = _; rw [S.qR, ih]; rfl
theorem PV.qR (v : PV) : v.gen.v m = v.v m := by
 cases v with
 |one c => exact C.qR m c
 |agg ss => show Value.agg _ = Value.agg _; rw [uX]
theorem SV.qR (v : SV) : v.gen.v m = v.v m := by
 cases v with
 |pv u => exact PV.qR m u
 |tup vs =>
  show Value.tuple _ = Value.tuple _
  rw [List.map_map]
  congr 2
  exact List.map_congr_left fun u _ => PV.qR m u
 |und => rfl
end
section
variable {N : Nat}
theorem C.lN {c : C} (h : c.ok N) : c.gen.ok N := by cases c <;> exact h
theorem S.lN {s : S} (h : s.ok N) : s.gen.ok N := by
 cases s with
 |c u => exact C.lN h
 |a => exact h
theorem xA {ss : List S} (h : oks N ss) : oks N (ss.map S.gen) := by
 induction ss with
 |nil => trivial
 |cons s r ih => exact ⟨S.lN h.1, ih h.2⟩
theorem PV.lN {v : PV} (h : v.ok N) : v.gen.ok N := by
 cases v with
 |one c => exact C.lN h
 |agg ss => exact xA h
theorem SV.lN {v : SV} (h : v.ok N) : v.gen.ok N := by
 cases v with
 |pv u => exact PV.lN h
 |tup vs =>
  intro u hu
  obtain ⟨x, hx, rfl⟩ := List.mem_map.1 hu
  exact PV.lN (h x hx)
 |und => trivial
end
theorem sW {env : List (Nat × SV)} {mk : Nat} : ∀ {n t : Nat} {v : SV}, look (pO env mk n) t = some v → ∃ u, look env t = some u ∧ v = u.gen := by
 intro n
 induction n with
 |zero => intro t v h; cases h
 |succ n ih =>
  intro t v h
  unfold pO at h
  cases hb : Nat.beq (Nat.land (Nat.shiftRight mk n) 1) 1
  ·rw [hb] at h; exact ih h
  ·rw [hb] at h
   simp only [cnd] at h
   split at h
   ·next u hu =>
    rw [dI] at h
    by_cases c : n = t
    ·rw [if_pos c] at h; cases h; subst c; exact ⟨u, hu, rfl⟩
    ·rw [if_neg c] at h; exact ih h
   ·exact ih h
theorem sP {mk : Nat} {heap : List (Nat × Nat × List S)} : ∀ {g e : Nat} {ss : List S}, look (mP mk heap) g = some (e, ss) → ∃ q, look heap g = some (e, q) ∧ ss = q.map S.gen := by
 induction heap with
 |nil => intro g e ss h; cases h
 |cons p r ih =>
  obtain ⟨k, t, q⟩ := p
  intro g e ss h
  have keep : ∀ {g e ss}, k ≠ g → look (mP mk r) g = some (e, ss) → ∃ q', look ((k, t, q) :: r) g = some (e, q') ∧ ss = q'.map S.gen := by
   intro g e ss hk h
   obtain ⟨q', h1, h2⟩ := ih h
   exact ⟨q', by rw [dI, if_neg hk]; exact h1, h2⟩
  unfold mP at h
  cases hb : Nat.beq (Nat.land (Nat.shiftRight mk k) 1) 1
  ·rw [hb] at h
   simp only [cnd] at h
   by_cases c : k = g
   ·exfalso
    subst c
    -- a block whose bit isn't set isn't kept
    have : ∀ (l : List (Nat × Nat × List S)), look (mP mk l) k = none := by
     intro l
     induction l with
     |nil => rfl
     |cons p l ihl =>
      obtain ⟨k', t', q'⟩ := p
      unfold mP
      cases hb' : Nat.beq (Nat.land (Nat.shiftRight mk k') 1) 1
      ·exact ihl
      ·simp only [cnd]
       rw [dI, if_neg (fun hh => by rw [hh, hb] at hb'; cases hb')]
       exact ihl
    rw [this] at h; cases h
   ·exact keep c h
  ·rw [hb] at h
   simp only [cnd] at h
   rw [dI] at h
   by_cases c : k = g
   ·rw [if_pos c] at h
    cases h
    exact ⟨q, by rw [dI, if_pos c], rfl⟩
   ·rw [if_neg c] at h; exact keep c h
theorem nT (a b : Nat) : a ≤ xD a b := by
 unfold xD
 cases h : Nat.ble a b
 ·exact Nat.le_refl _
 ·exact Nat.le_of_ble_eq_true h
theorem mR (a b : Nat) : b ≤ xD a b := by
 unfold xD
 cases h : Nat.ble a b
 ·have : ¬ a ≤ b := fun hh => by rw [Nat.ble_eq_true_of_le hh] at h; cases h
  show b ≤ a; omega
 ·exact Nat.le_refl _
section
variable {N : Nat}
theorem C.oP {c : C} (h : c.ok N) : c.ok c.top := by
 cases c with
 |pd g o j n => exact ⟨Nat.lt_succ_self _, h.2⟩
 |p g o => exact Nat.lt_succ_self _
 |sl g o n c => exact Nat.lt_succ_self _
 |_ => trivial
theorem zC {ss : List S} (h : oks N ss) : oks (tops ss) ss := by
 induction ss with
 |nil => trivial
 |cons s r ih =>
  cases s with
  |c u => exact ⟨C.dU (nT _ _) (C.oP h.1), fJ (mR _ _) (ih h.2)⟩
  |a k xs n => exact ⟨h.1, ih h.2⟩
theorem PV.oP {v : PV} (h : v.ok N) : v.ok (tops v.segs) := by
 cases v with
 |one c => exact C.dU (nT _ _) (C.oP h)
 |agg ss => exact zC h
theorem SV.oP {v : SV} (h : v.ok N) : v.ok v.top := by
 cases v with
 |pv u => exact PV.oP h
 |tup vs =>
  show ∀ v ∈ vs, v.ok (topsV vs)
  have h' : ∀ v ∈ vs, v.ok N := h
  clear h
  induction vs with
  |nil => intro v hv; cases hv
  |cons u r ih =>
   intro v hv
   rcases List.mem_cons.1 hv with rfl | hv
   ·exact PV.dU (nT _ _) (PV.oP (h' v (List.mem_cons_self ..)))
   ·exact PV.dU (mR _ _) (ih (fun w hw => h' w (List.mem_cons_of_mem _ hw)) v hv)
 |und => trivial
end
theorem topE_le {env : List (Nat × SV)} {t : Nat} {v : SV} (h : look env t = some v) : v.top ≤ topE env := by
 induction env with
 |nil => cases h
 |cons p r ih =>
  obtain ⟨k, u⟩ := p
  rw [dI] at h
  by_cases c : k = t
  ·rw [if_pos c] at h; cases h; exact nT _ _
  ·rw [if_neg c] at h; exact Nat.le_trans (ih h) (mR _ _)
theorem topH_le {heap : List (Nat × Nat × List S)} {g e : Nat} {ss : List S} (h : look heap g = some (e, ss)) : g < topH heap ∧ tops ss ≤ topH heap := by
 induction heap with
 |nil => cases h
 |cons p r ih =>
  obtain ⟨k, t, q⟩ := p
  rw [dI] at h
  by_cases c : k = g
  ·rw [if_pos c] at h
   cases h
   subst c
   exact ⟨nT _ _, Nat.le_trans (nT _ _) (mR _ _)⟩
  ·rw [if_neg c] at h
   obtain ⟨h1, h2⟩ := ih h
   have := Nat.le_trans (mR (tops q) (topH r)) (mR (k + 1) (xD (tops q) (topH r)))
   exact ⟨Nat.lt_of_lt_of_le h1 this, Nat.le_trans h2 this⟩
theorem tT {w0 : World} {nt mk : Nat} {m : Nat → Nat} {s : St} {a : Act} {w : World} (h : Rel w0 nt m s a w) : Rel w0 nt m (clean nt mk s) a w := by
 have k : ∀ {g e ss}, look (clean nt mk s).heap g = some (e, ss) → ∃ q, look s.heap g = some (e, q) ∧ ss = q.map S.gen := fun h => sP h
 refine ⟨h.size, h.dfr, ?_, ?_, ?_, h.bel⟩
 ·intro t v hv
  obtain ⟨u, hu, rfl⟩ := sW hv
  obtain ⟨o, e⟩ := h.env t u hu
  refine ⟨SV.dU (Nat.le_trans (topE_le hv) (nT _ _)) (SV.oP (SV.lN o)), by rw [SV.qR]; exact e⟩
 ·intro g e ss hg
  obtain ⟨q, h1, rfl⟩ := k hg
  obtain ⟨a1, a2, a3, a4⟩ := h.heap g e q h1
  obtain ⟨c1, c2⟩ := topH_le hg
  exact ⟨Nat.lt_of_lt_of_le c1 (mR _ _), fJ (Nat.le_trans c2 (mR _ _)) (zC (xA a2)), by rw [uX]; exact a3, a4⟩
 ·intro g g' h1 h2 h3
  have k' : ∀ g, (look (clean nt mk s).heap g).isSome = true → (look s.heap g).isSome = true := fun g hg => by
   obtain ⟨⟨e, ss⟩, he⟩ := Option.isSome_iff_exists.mp hg
   obtain ⟨q, h1, _⟩ := k he
   rw [h1]; rfl
  exact h.inj g g' (k' g h1) (k' g' h2) h3

def Out.exit : Out → Exit
 |.nor => .normal
 |.ret => .ret
 |.ex id => .exit id
section
variable {P : Program} {cl : Cls} (hcl : bW P cl) {R : Type} {w0 : World} {nt rm : Nat} {cuts : List Nat} {r : R}
def Does (P : Program) (w0 : World) (nt : Nat) (r : R) (c : Code) (f : St → (Out → St → Option R) → Option R) : Prop :=
 ∀ (s : St) (K : Out → St → Option R) (m : Nat → Nat) (a : Act) (w : World) (Q : Exit → Act → World → Prop), Rel w0 nt m s a w → (∀ c a w, ¬ Q (.panic c) a w) → f s K = some r →
  (∀ o s' m' a' w', K o s' = some r → Rel w0 nt m' s' a' w' → Q o.exit a' w') → c.wp P Q a w
theorem zR {c : Code} {f : Nat → St → (Out → St → Option R) → Option R} {mk : Nat} (hf : ∀ n, Does P w0 nt r c (f n)) : ∀ (n : Nat) (s : St) (K : Out → St → Option R) (m : Nat → Nat) (a : Act) (w : World) (Q : Exit → Act → World → Prop), Rel w0 nt m s a w →
  (∀ c a w, ¬ Q (.panic c) a w) → o8 nt f mk n s K = some r → (∀ o s' m' a' w', K o s' = some r → Rel w0 nt m' s' a' w' → Q o.exit a' w') → Code.rounds P c Q n a w := by
 intro n
 induction n with
 |zero => intro s K m a w Q _ _ h _; cases h
 |succ n ih =>
  intro s K m a w Q hr hQ h hK
  unfold o8 at h
  refine hf n s _ m a w _ hr (fun c a w => hQ c a w) h fun o s' m' a' w' ho hr' => ?_
  cases o with
  |nor => exact ih _ _ m' a' w' Q (tT hr') hQ ho hK
  |ret => exact hK .ret _ _ _ _ ho hr'
  |ex id => exact hK (.ex id) _ _ _ _ ho hr'
include hcl in
theorem evC_v : ∀ (c : Code) (lv : Nat) (ex : List (Nat × Nat)) (n : Nat), Does P w0 nt r c (evC P nt cl rm cuts c lv ex n) := by
 intro c
 induction c with
 |skip => intro lv ex n s K m a w Q hr _ h hK; exact wp_skip (hK .nor _ _ _ _ h hr)
 |region id ops draw => intro lv ex n s K m a w Q hr hQ h hK; exact uB hcl hr hQ h (fun s' m' a' w' h' hr' => hK .nor _ _ _ _ h' hr')
 |seq x y ihx ihy =>
  intro lv ex n s K m a w Q hr hQ h hK
  refine wp_seq (ihx _ _ _ s _ m a w _ hr (fun c a w => hQ c a w) h fun o s' m' a' w' ho hr' => ?_)
  cases o with
  |nor =>
   have ho : (cnd (cutAt cuts y) (evJ (fun s => evC P nt cl rm cuts y lv ex n s K) (clean nt (lvC rm y lv ex) s')) <| evC P nt cl rm cuts y lv ex n s' K) = some r := ho
   show y.wp P Q a' w'
   rcases nC ho with ⟨_, h1⟩ | ⟨_, h1⟩
   ·exact ihy _ _ _ _ K m' a' w' Q (tT hr') hQ h1 hK
   ·exact ihy _ _ _ _ K m' a' w' Q hr' hQ h1 hK
  |ret => exact hK .ret _ _ _ _ ho hr'
  |ex id => exact hK (.ex id) _ _ _ _ ho hr'
 |cond x y z ihy ihz =>
  intro lv ex n s K m a w Q hr hQ h hK
  unfold evC at h
  split at h
  ·next e he =>
   obtain ⟨_, eb⟩ := fE hr.env he
   have eb' : a.eval x = .bool e.d := eb
   rw [BE.yB] at h
   refine wp_cond_split eb' (fun hd => ?_) (fun hd => ?_)
   ·rw [if_pos hd] at h; exact ihy _ _ _ _ K m a w Q hr hQ h hK
   ·rw [if_neg (by rw [hd]; decide)] at h; exact ihz _ _ _ _ K m a w Q hr hQ h hK
  ·cases h
 |block id x ih =>
  intro lv ex n s K m a w Q hr hQ h hK
  refine wp_block (ih _ _ _ s _ m a w _ hr (fun c a w => hQ c a w) h fun o s' m' a' w' ho hr' => ?_)
  cases o with
  |nor => exact hK .nor _ _ _ _ ho hr'
  |ret => exact hK .ret _ _ _ _ ho hr'
  |ex j =>
   show if j = id then Q .normal a' w' else Q (.exit j) a' w'
   have ho : (cnd (Nat.beq j id) (K .nor s') <| K (.ex j) s') = some r := ho
   rcases nC ho with ⟨h0, h1⟩ | ⟨h0, h1⟩
   ·rw [if_pos (Nat.eq_of_beq_eq_true h0)]; exact hK .nor _ _ _ _ h1 hr'
   ·rw [if_neg (Nat.ne_of_beq_eq_false h0)]; exact hK (.ex j) _ _ _ _ h1 hr'
 |loop x ih =>
  intro lv ex n s K m a w Q hr hQ h hK
  exact wp_loop_rounds n (zR (fun n => ih _ _ n) n _ K m a w Q (tT hr) hQ h hK)
 |exit id => intro lv ex n s K m a w Q hr _ h hK; exact wp_exit (hK (.ex id) _ _ _ _ h hr)
 |ret => intro lv ex n s K m a w Q hr _ h hK; exact wp_ret (hK .ret _ _ _ _ h hr)
 |_ => intro lv ex n s K m a w Q hr _ h hK; cases h

def jT (tmps : Array Value) : ResultVar → Sem Value
 |.tmp t => pure (tmps.getD t undef)
 |.cell b t => do loadVar t (← asAddr (tmps.getD b undef))
theorem mF (fn : Func) (tmps : Array Value) : results fn tmps = (do
  let vs ← fn.results.mapM (jT tmps)
  pure (if h : vs.size = 1 then vs[0] else .tuple vs)) := by
 unfold results
 have : (fun x => match x with
   |ResultVar.tmp t => pure (tmps.getD t undef)
   |ResultVar.cell a t => do loadVar t (← asAddr (tmps.getD a undef))) = jT tmps := by funext x; cases x <;> rfl
 exact congrArg (fun f => (do
  let vs ← fn.results.mapM f
  pure (if h : vs.size = 1 then vs[0] else .tuple vs) : Sem Value)) this
theorem sQ {m : Nat → Nat} {s : St} {a : Act} {w : World} (hr : Rel w0 nt m s a w) {x : ResultVar} {v : PV} (h : xZ P s x = some v) :
  v.ok s.next ∧ (jT a.tmps x).run P w = .ok (v.v m) w := by
 cases x with
 |tmp t =>
  have h : (match look s.env t with
   |some (.pv v) => some v
   |_ => none) = some v := h
  split at h
  ·next u hu =>
   cases h
   obtain ⟨o, e⟩ := hr.env t _ hu
   exact ⟨o, by show (pure (a.tmps.getD t undef) : Sem Value).run P w = _; rw [Sem.run_pure, e]; rfl⟩
  ·cases h
 |cell b t =>
  have h : (match look s.env b with
   |some (.pv (.one c)) => nA P t s.heap c
   |_ => none) = some v := h
  split at h
  ·next c hc =>
   obtain ⟨o, e⟩ := hr.env b _ hc
   obtain ⟨o1, e1⟩ := kS (w := w) o (fun g e ss hg => ⟨(hr.heap g e ss hg).2.1, (hr.heap g e ss hg).2.2.1⟩) h
   refine ⟨o1, ?_⟩
   have e' : a.tmps.getD b undef = c.v m := e
   have hp : ∃ ad, c.v m = .pointer (some ad) := by
    cases c with
    |p g o => exact ⟨_, rfl⟩
    |pd g o j n => exact ⟨_, rfl⟩
    |_ => cases h
   obtain ⟨ad, had⟩ := hp
   rw [had] at e1 e'
   have e1 : (loadVar t ad).run P w = .ok (v.v m) w := e1
   show (do loadVar t (← asAddr (a.tmps.getD b undef)) : Sem Value).run P w = _
   rw [e']
   exact e1
  ·cases h
theorem rA {m : Nat → Nat} {s : St} {a : Act} {w : World} (hr : Rel w0 nt m s a w) {xs : List ResultVar} : ∀ {vs : List PV}, kC P s xs = some vs → (∀ v ∈ vs, v.ok s.next) ∧ (xs.mapM (jT a.tmps)).run P w = .ok (vs.map (PV.v m)) w := by
 induction xs with
 |nil => intro vs h; cases h; exact ⟨by simp, by simp⟩
 |cons x r ih =>
  intro vs h
  unfold kC at h
  split at h
  ·next v ws h1 h2 =>
   cases h
   obtain ⟨o, e⟩ := sQ hr h1
   obtain ⟨o', e'⟩ := ih h2
   refine ⟨fun u hu => ?_, ?_⟩
   ·rcases List.mem_cons.1 hu with rfl | hu
    ·exact o
    ·exact o' u hu
   ·rw [List.mapM_cons, Sem.run_bind, e]
    simp only [Result.andThen_ok, Sem.run_bind, e', Sem.run_pure, List.map_cons]
  ·cases h
theorem sN {m : Nat → Nat} {s : St} {a : Act} {w : World} (hr : Rel w0 nt m s a w) {fn : Func} {v : SV} (h : nU P fn s = some v) : v.ok s.next ∧ (results fn a.tmps).run P w = .ok (v.v m) w := by
 unfold nU at h
 have hrun : ∀ vs, kC P s fn.results.toList = some vs → (∀ v ∈ vs, v.ok s.next) ∧ (results fn a.tmps).run P w = .ok (if h : (vs.map (PV.v m)).toArray.size = 1 then (vs.map (PV.v m)).toArray[0] else .tuple (vs.map (PV.v m)).toArray) w := by
  intro vs hvs
  obtain ⟨o, e⟩ := rA hr hvs
  refine ⟨o, ?_⟩
  have e2 : (fn.results.mapM (jT a.tmps)).run P w = .ok (vs.map (PV.v m)).toArray w := by
   rw [Array.mapM_eq_mapM_toList]
   simp [e]
  rw [mF, Sem.run_bind, e2]
  rfl
 split at h
 ·next u hu =>
  cases h
  obtain ⟨o, e⟩ := hrun _ hu
  exact ⟨o u (List.mem_cons_self ..), by rw [e]; rfl⟩
 ·next vs hne hu =>
  cases h
  obtain ⟨o, e⟩ := hrun _ hu
  refine ⟨o, ?_⟩
  rw [e, dif_neg]
  ·rfl
  ·intro hl
   match vs, hl, hne with
   |[u], _, hne => exact hne u rfl
 ·cases h
theorem yD {vs : List PV} : ∀ {i t : Nat} {v : SV}, look (argE vs i) t = some v → ∃ u, i ≤ t ∧ vs[t - i]? = some u ∧ v = .pv u := by
 induction vs with
 |nil => intro i t v h; cases h
 |cons u r ih =>
  intro i t v h
  unfold argE at h
  rw [dI] at h
  by_cases c : i = t
  ·rw [if_pos c] at h; cases h; subst c; exact ⟨u, Nat.le_refl _, by simp, rfl⟩
  ·rw [if_neg c] at h
   obtain ⟨x, h1, h2, h3⟩ := ih h
   refine ⟨x, by omega, ?_, h3⟩
   rw [show t - i = (t - (i + 1)) + 1 by omega, List.getElem?_cons_succ]; exact h2
include hcl in
theorem evF_v {f n : Nat} {fn : Func} {vs : List PV} {K : SV → Option R} (hf : P.funcs[f]? = some fn) (ho : ∀ v ∈ vs, v.ok 0) (h : evF P cl fn cuts n vs K = some r) :
  ∀ (m : Nat → Nat) (w : World), Calls P f (vs.map (PV.v m)).toArray w fun e w' => ∃ v m', K v = some r ∧ e = .returned (v.v m') ∧ (∃ N, v.ok N) ∧ Below w.heap.size w w' := by
 intro m w
 unfold evF at h
 split at h
 ·next c hb =>
  obtain ⟨h0, h1⟩ := dY h
  rw [Bool.and_eq_true] at h0
  have h2 := Nat.eq_of_beq_eq_true h0.1
  have h3 := Nat.le_of_ble_eq_true h0.2
  have hrel : Rel w fn.ntmps m ⟨argE vs 0, [], 0⟩ { tmps := (vs.map (PV.v m)).toArray ++ Array.replicate (fn.ntmps - (vs.map (PV.v m)).toArray.size) undef, defers := [] } w := by
   refine ⟨by simp; omega, rfl, ?_, (fun g e ss hg => nomatch hg), (fun g g' hg => nomatch hg), Below.refl _ _⟩
   intro t v hv
   obtain ⟨u, _, hu, rfl⟩ := yD hv
   rw [Nat.sub_zero] at hu
   refine ⟨ho u (List.mem_of_getElem? hu), ?_⟩
   have hlt : t < vs.length := (List.getElem?_eq_some_iff.1 hu).1
   rw [Array.getD_eq_getD_getElem?, Array.getElem?_append_left (by simpa using hlt)]
   simp [hu]
   rfl
  refine calls_of_wp hf hb ?_
  refine wp_mono (Q := fun e a' w' => (∃ v m', K v = some r ∧ (∃ N, v.ok N) ∧ a'.defers = [] ∧ (results fn a'.tmps).run P w' = .ok (v.v m') w' ∧ Below w.heap.size w w') ∧ (e = .normal ∨ e = .ret)) (evC_v hcl c _ _ n _ _ m _ w _ hrel ?_ h1 ?_) ?_
  ·rintro c a w ⟨_, h | h⟩ <;> cases h
  ·intro o s' m' a' w' hk hr'
   have fin : (match nU P fn s' with
     |some v => K v
     |none => none) = some r → ∃ v m', K v = some r ∧ (∃ N, v.ok N) ∧ a'.defers = [] ∧ (results fn a'.tmps).run P w' = .ok (v.v m') w' ∧ Below w.heap.size w w' := by
    intro hk
    split at hk
    ·next v hv =>
     obtain ⟨o1, e1⟩ := sN hr' hv
     exact ⟨v, m', hk, ⟨_, o1⟩, hr'.dfr, e1, hr'.bel⟩
    ·cases hk
   cases o with
   |nor => exact ⟨fin hk, .inl rfl⟩
   |ret => exact ⟨fin hk, .inr rfl⟩
   |ex id => cases hk
  ·rintro e a' w' ⟨⟨v, m', g1, g2, g3, g4, g5⟩, he⟩
   rcases he with rfl | rfl
   ·exact ⟨g3, _, g4, v, m', g1, rfl, g2, g5⟩
   ·exact ⟨g3, _, g4, v, m', g1, rfl, g2, g5⟩
 ·cases h
end
/- Functions of numbers, truth values, structs and arrays of these: what they are given and answer, as plain values. -/

inductive Lf where
 |i (k : IntKind)
 |b
 |a (k : IntKind) (n : Nat)
def Lf.T : Lf → Type
 |.i _ => Int
 |.b => Bool
 |.a _ _ => List Int
def Tq : List Lf → Type
 |[] => Unit
 |l :: r => l.T × Tq r
def p8 : (l : Lf) → l.T → S
 |.i k, x => .c (.i k (.x x))
 |.b, x => .c (.b (.q x))
 |.a k n, xs => .a k xs n
def pY : (ls : List Lf) → Tq ls → List S
 |[], _ => []
 |l :: r, x => p8 l x.1 :: pY r x.2
def takeLf : (l : Lf) → List S → Option (l.T × List S)
 |.i k, .c (.i k' x) :: r => cnd (decide (k' = k)) (some (x.d, r)) <| none
 |.b, .c (.b x) :: r => some (x.d, r)
 |.a k n, .a k' xs n' :: r => cnd (decide (k' = k) && Nat.beq n' n) (some (xs, r)) <| none
 |.a k n, ss => match lK ss n with
  |some (q, r) => match rD k q with
   |some xs => some (xs, r)
   |none => none
  |none => none
 |_, _ => none
def rM : (ls : List Lf) → List S → Option (Tq ls)
 |[], [] => some ()
 |[], _ :: _ => none
 |l :: r, ss => match takeLf l ss with
  |some (x, q) => match rM r q with
   |some y => some (x, y)
   |none => none
  |none => none
inductive Sh where
 |one (l : Lf)
 |agg (ls : List Lf)
def Sh.lfs : Sh → List Lf
 |.one l => [l]
 |.agg ls => ls
def xM (h : Sh) (v : PV) : Option (Tq h.lfs) := match h, v with
 |.one l, .one c => rM [l] [.c c]
 |.agg ls, .agg ss => rM ls ss
 |_, _ => none
def pQ : (h : Sh) → Tq h.lfs → PV
 |.one l, x => match p8 l x.1 with
  |.c c => .one c
  |s => .agg [s]
 |.agg ls, x => .agg (pY ls x)
def Ts : List Sh → Type
 |[] => Unit
 |h :: r => Tq h.lfs × Ts r
def takes : (hs : List Sh) → List PV → Option (Ts hs)
 |[], [] => some ()
 |[], _ :: _ => none
 |_ :: _, [] => none
 |h :: r, v :: q => match xM h v, takes r q with
  |some x, some y => some (x, y)
  |_, _ => none
def gives : (hs : List Sh) → Ts hs → List PV
 |[], _ => []
 |h :: r, x => pQ h x.1 :: gives r x.2
def Sh.plain : Sh → Bool
 |.one (.a _ _) => false
 |_ => true
def mY (hs : List Sh) : SV → Option (Ts hs)
 |.pv v => takes hs [v]
 |.tup vs => cnd (Nat.beq vs.length 1) (none) <| takes hs vs
 |.und => none
def iO (hs : List Sh) (x : Ts hs) : SV := match gives hs x with
 |[v] => .pv v
 |vs => .tup vs

theorem takeLf_v (m : Nat → Nat) {N : Nat} {l : Lf} {ss r : List S} {x : l.T} (ho : oks N ss) (h : takeLf l ss = some (x, r)) : oks N r ∧ (p8 l x).ok 0 ∧ vals m ss = (p8 l x).v m ++ vals m r := by
 cases l with
 |i k =>
  match ss, h with
  |.c (.i k' y) :: q, h =>
   obtain ⟨h1, h2⟩ := dY h
   cases h2
   obtain rfl := of_decide_eq_true h1
   exact ⟨ho.2, trivial, rfl⟩
 |b =>
  match ss, h with
  |.c (.b y) :: q, h => cases h; exact ⟨ho.2, trivial, rfl⟩
 |a k n =>
  have gen : (match lK ss n with
    |some (q, r) => match rD k q with
     |some xs => some (xs, r)
     |none => none
    |none => none) = some (x, r) → oks N r ∧ (p8 (.a k n) x).ok 0 ∧ vals m ss = (p8 (.a k n) x).v m ++ vals m r := by
   intro h
   split at h
   ·next q r' hs =>
    split at h
    ·next xs hi =>
     cases h
     obtain ⟨e, hl⟩ := lU hs
     subst e
     rw [gN] at ho
     have hv := oH m hi
     have hlen := bB m q ho.1
     refine ⟨ho.2, ?_, ?_⟩
     ·have h1 : (vals m q).length = (show List Int from x).length := by rw [hv]; exact List.length_map ..
      show (show List Int from x).length = n
      omega
     ·rw [dB, hv]; rfl
    ·cases h
   ·cases h
  match ss, h with
  |.a k' xs n' :: q, h =>
   obtain ⟨h1, h2⟩ := dY h
   cases h2
   rw [Bool.and_eq_true] at h1
   obtain rfl := of_decide_eq_true h1.1
   obtain rfl := Nat.eq_of_beq_eq_true h1.2
   exact ⟨ho.2, ho.1, rfl⟩
  |[], h => exact gen h
  |.c u :: q, h => exact gen h
theorem vR (m : Nat → Nat) {N : Nat} : ∀ {ls : List Lf} {ss : List S} {x : Tq ls}, oks N ss → rM ls ss = some x → oks 0 (pY ls x) ∧ vals m ss = vals m (pY ls x) := by
 intro ls
 induction ls with
 |nil =>
  intro ss x _ h
  cases ss with
  |nil => exact ⟨trivial, rfl⟩
  |cons s r => cases h
 |cons l ls ih =>
  intro ss x ho h
  unfold rM at h
  split at h
  ·next y q hy =>
   split at h
   ·next z hz =>
    cases h
    obtain ⟨o1, o2, e⟩ := takeLf_v m ho hy
    obtain ⟨o3, e2⟩ := ih o1 hz
    exact ⟨⟨o2, o3⟩, by rw [e, e2]; rfl⟩
   ·cases h
  ·cases h
theorem qL (m : Nat → Nat) {N : Nat} {h : Sh} {v : PV} {x : Tq h.lfs} (hp : h.plain = true) (ho : v.ok N) (ht : xM h v = some x) : (pQ h x).ok 0 ∧ v.v m = (pQ h x).v m := by
 cases h with
 |one l =>
  cases v with
  |agg ss => cases ht
  |one c =>
   obtain ⟨o1, e⟩ := vR m (ls := [l]) (ss := [.c c]) (N := N) ⟨ho, trivial⟩ ht
   have e : [c.v m] = vals m (pY [l] x) := e
   cases l with
   |a k n => cases hp
   |i k =>
    refine ⟨trivial, ?_⟩
    have : [c.v m] = [Value.int k x.1] := e
    exact (List.cons.inj this).1
   |b =>
    refine ⟨trivial, ?_⟩
    have : [c.v m] = [Value.bool x.1] := e
    exact (List.cons.inj this).1
 |agg ls =>
  cases v with
  |one c => cases ht
  |agg ss =>
   obtain ⟨o1, e⟩ := vR m ho ht
   exact ⟨o1, by show Value.agg _ = Value.agg _; rw [e]⟩
theorem tY {N : Nat} : ∀ {hs : List Sh} {vs : List PV} {x : Ts hs}, hs.all Sh.plain = true → (∀ v ∈ vs, v.ok N) → takes hs vs = some x → (∀ v ∈ gives hs x, v.ok 0) ∧ ∀ m, vs.map (PV.v m) = (gives hs x).map (PV.v m) := by
 intro hs
 induction hs with
 |nil =>
  intro vs x _ _ h
  cases vs with
  |nil => exact ⟨(fun v hv => nomatch hv), fun _ => rfl⟩
  |cons v r => cases h
 |cons h hs ih =>
  intro vs x hp ho ht
  cases vs with
  |nil => cases ht
  |cons v r =>
   rw [List.all_cons, Bool.and_eq_true] at hp
   unfold takes at ht
   split at ht
   ·next y z hy hz =>
    cases ht
    obtain ⟨o2, e2⟩ := ih hp.2 (fun u hu => ho u (List.mem_cons_of_mem _ hu)) hz
    have hv := ho v (List.mem_cons_self ..)
    refine ⟨fun u hu => ?_, fun m => ?_⟩
    ·have hu : u ∈ pQ h y :: gives hs z := hu
     rcases List.mem_cons.1 hu with rfl | hu
     ·exact (qL id hp.1 hv hy).1
     ·exact o2 u hu
    ·show v.v m :: r.map (PV.v m) = (pQ h y).v m :: (gives hs z).map (PV.v m)
     rw [(qL m hp.1 hv hy).2, e2 m]
   ·cases ht
theorem takeR_v {N : Nat} {hs : List Sh} {v : SV} {x : Ts hs} (hp : hs.all Sh.plain = true) (ho : v.ok N) (h : mY hs v = some x) : (iO hs x).ok 0 ∧ ∀ m m', v.v m' = (iO hs x).v m := by
 have cong : ∀ (vs : List PV), (∀ v ∈ vs, v.ok 0) → ∀ m m' : Nat → Nat, vs.map (PV.v m') = vs.map (PV.v m) := fun vs hv m m' =>
  List.map_congr_left fun u hu => PV.eF (N := 0) (fun g hg => absurd hg (Nat.not_lt_zero _)) (hv u hu)
 have main : ∀ vs : List PV, (∀ v ∈ vs, v.ok N) → takes hs vs = some x → (∀ v ∈ gives hs x, v.ok 0) ∧ ∀ m m', vs.map (PV.v m') = (gives hs x).map (PV.v m) := fun vs hv ht => by
  obtain ⟨o, e⟩ := tY hp hv ht
  exact ⟨o, fun m m' => (e m').trans (cong _ o m m')⟩
 cases v with
 |und => cases h
 |pv u =>
  obtain ⟨o, e⟩ := main [u] (by intro v hv; rcases List.mem_cons.1 hv with rfl | hv; exact ho; cases hv) h
  unfold iO
  have hl : (gives hs x).length = 1 := by
   have := congrArg List.length (e id id); simpa using this.symm
  match hg : gives hs x, hl with
  |[w], _ =>
   rw [hg] at o e
   refine ⟨o w (List.mem_cons_self ..), fun m m' => ?_⟩
   have := e m m'
   exact (List.cons.inj this).1
 |tup vs =>
  have h0 : (cnd (Nat.beq vs.length 1) (none) <| takes hs vs) = some x := h
  have hne : vs.length ≠ 1 := by
   intro hl
   rw [hl] at h0
   cases h0
  have h' : takes hs vs = some x := by
   rcases nC h0 with ⟨_, h1⟩ | ⟨_, h1⟩
   ·cases h1
   ·exact h1
  obtain ⟨o, e⟩ := main vs ho h'
  have hl : (gives hs x).length ≠ 1 := by
   intro hl
   have := congrArg List.length (e id id)
   simp only [List.length_map] at this
   omega
  have hg : iO hs x = .tup (gives hs x) := by
   unfold iO
   split
   ·next u hu => rw [hu] at hl; exact absurd rfl hl
   ·rfl
  rw [hg]
  exact ⟨o, fun m m' => by show Value.tuple _ = Value.tuple _; rw [e m m']⟩

def Lf.na : Lf → Bool
 |.a _ _ => false
 |_ => true
theorem yJ : ∀ {ls : List Lf} (x : Tq ls), ls.all Lf.na = true → oks 0 (pY ls x) := by
 intro ls
 induction ls with
 |nil => intro x _; trivial
 |cons l ls ih =>
  intro x h
  rw [List.all_cons, Bool.and_eq_true] at h
  refine ⟨?_, ih x.2 h.2⟩
  cases l with
  |a k n => cases h.1
  |i k => trivial
  |b => trivial
theorem uW : ∀ {hs : List Sh} (x : Ts hs), hs.all (fun s => s.lfs.all Lf.na) = true → ∀ v ∈ gives hs x, v.ok 0 := by
 intro hs
 induction hs with
 |nil => intro x _ v hv; cases hv
 |cons h hs ih =>
  intro x hh v hv
  rw [List.all_cons, Bool.and_eq_true] at hh
  rcases List.mem_cons.1 hv with rfl | hv
  ·cases h with
   |agg ls => exact yJ x.1 hh.1
   |one l =>
    cases l with
    |a k n => have := hh.1; cases this
    |i k => trivial
    |b => trivial
  ·exact ih x.2 hh.2 v hv
theorem cO {hs : List Sh} (h : hs.all (fun s => s.lfs.all Lf.na) = true) (x : Ts hs) : (iO hs x).ok 0 := by
 have k := uW x h
 unfold iO
 split
 ·next v hv => exact k v (by rw [hv]; exact List.mem_cons_self ..)
 ·exact k
def iR (as_ rs : List Sh) {T : Type} (un : T → Ts rs) (g : Nat → Ts as_ → Option T) : Fc := ⟨fun _ n _ vs K => match takes as_ vs with
 |some x => (g n x).bind fun y => K (iO rs (un y))
 |none => none⟩
theorem bW.nil {P : Program} : bW P [] := fun _ _ h => nomatch h
theorem bW.cons {P : Program} {f : FuncId} {c : Fc} {cl : Cls} (h : iI P f c) (k : bW P cl) : bW P ((f, c) :: cl) := fun f' c' hl => by
 rw [dI] at hl
 by_cases e : f = f'
 ·rw [if_pos e] at hl; cases hl; subst e; exact h
 ·rw [if_neg e] at hl; exact k f' c' hl
theorem eD {P : Program} {f : FuncId} {fn : Func} {as_ rs : List Sh} {T : Type} {un : T → Ts rs} {g : Nat → Ts as_ → Option T} (hf : P.funcs[f]? = some fn) (hb : fn.body.isSome = true) (hn : (fn.name == "runtime.NumGoroutine") = false)
  (hp : (as_.all Sh.plain && rs.all Sh.plain) = true) (h0 : ∀ y, (iO rs (un y)).ok 0) (hc : ∀ n x y, g n x = some y → ∀ (m : Nat → Nat) (w : World), Calls P f ((gives as_ x).map (PV.v m)).toArray w fun e w' => e = .returned ((iO rs (un y)).v m) ∧ Below w.heap.size w w') : iI P f (iR as_ rs un g) := by
 rw [Bool.and_eq_true] at hp
 refine ⟨⟨fn, hf, hb, hn⟩, fun R n N _ vs K r ho h => ?_⟩
 have h : (match takes as_ vs with
  |some x => (g n x).bind fun y => K (iO rs (un y))
  |none => none) = some r := h
 split at h
 ·next x hx =>
  obtain ⟨y, hy, hK⟩ := Option.bind_eq_some_iff.mp h
  obtain ⟨o1, e1⟩ := tY hp.1 ho hx
  exact ⟨_, hK, h0 y, fun m w _ => by rw [e1 m]; exact hc n x y hy m w⟩
 ·cases h
theorem mkOk {P : Program} {cl : Cls} (hcl : bW P cl) {f : FuncId} {fn : Func} {cuts : List Nat} {as_ rs : List Sh} {T : Type} {cv : Ts rs → T} {un : T → Ts rs} {g : Nat → Ts as_ → Option T} (hf : P.funcs[f]? = some fn) (hb : fn.body.isSome = true) (hn : (fn.name == "runtime.NumGoroutine") = false)
  (hp : (as_.all Sh.plain && rs.all Sh.plain) = true) (hu : ∀ z, un (cv z) = z) (hg : ∀ n x, g n x = evF P cl fn cuts n (gives as_ x) (fun v => (mY rs v).map cv)) : iI P f (iR as_ rs un g) := by
 rw [Bool.and_eq_true] at hp
 refine ⟨⟨fn, hf, hb, hn⟩, fun R n N _ vs K r ho h => ?_⟩
 have h : (match takes as_ vs with
  |some x => (g n x).bind fun y => K (iO rs (un y))
  |none => none) = some r := h
 split at h
 ·next x hx =>
  obtain ⟨y, hy, hK⟩ := Option.bind_eq_some_iff.mp h
  rw [hg] at hy
  obtain ⟨o1, e1⟩ := tY hp.1 ho hx
  refine ⟨_, hK, ?_⟩
  have hc : ∀ m w, Calls P f (vs.map (PV.v m)).toArray w fun e w' => (iO rs (un y)).ok 0 ∧ e = .returned ((iO rs (un y)).v m) ∧ Below w.heap.size w w' := fun m w => by
   rw [e1 m]
   refine (evF_v hcl hf o1 hy m w).mono ?_
   rintro e w' ⟨v, m', h1, rfl, ⟨N, h2⟩, h3⟩
   obtain ⟨z, hz, rfl⟩ := Option.map_eq_some_iff.mp h1
   rw [hu]
   obtain ⟨k1, k2⟩ := takeR_v hp.2 h2 hz
   exact ⟨k1, by rw [k2 m m'], h3⟩
  refine ⟨?_, fun m w _ => (hc m w).mono fun e w' he => he.2⟩
  obtain ⟨e, w', fr, hR, _⟩ := hc id default []
  exact hR.1
 ·cases h
theorem jG {P : Program} {f : FuncId} {as_ rs : List Sh} {T : Type} {un : T → Ts rs} {g : Nat → Ts as_ → Option T} (hok : iI P f (iR as_ rs un g)) (n : Nat) (x : Ts as_) (y : T) (ht : takes as_ (gives as_ x) = some x) (h : g n x = some y) (w : World) (hp : as_.all (fun s => s.lfs.all Lf.na) = true := by decide) :
  Calls P f ((gives as_ x).map (PV.v id)).toArray w fun e w' => e = .returned ((iO rs (un y)).v id) ∧ Below w.heap.size w w' := by
 have hr : (iR as_ rs un g).run SV n [] (gives as_ x) some = some (iO rs (un y)) := by
  show (match takes as_ (gives as_ x) with
   |some x => (g n x).bind fun y => some (iO rs (un y))
   |none => none) = _
  rw [ht]
  show (g n x).bind _ = _
  rw [h]; rfl
 obtain ⟨v, hv, _, hc⟩ := hok.run SV n 0 [] (gives as_ x) some _ (uW x hp) hr
 cases hv
 exact hc id w ⟨0, fun g e ss h => nomatch h⟩
inductive Ar where
 |s (h : Sh)
 |sl (k : IntKind)
def Ta : List Ar → Type
 |[] => Unit
 |.s h :: r => Tq h.lfs × Ta r
 |.sl _ :: r => List Int × Ta r
def tO (h : List (Nat × Nat × List S)) (k : IntKind) : PV → Option (List Int)
 |.one (.sl g o n c) => match look h g with
  |some (_, [.a k' xs q]) => cnd (Nat.beq o 0 && Nat.beq q n && Nat.ble n c && Nat.ble n 1000 && decide (k' = k)) (some xs) <| none
  |_ => none
 |_ => none
def takeA (h : List (Nat × Nat × List S)) : (as_ : List Ar) → List PV → Option (Ta as_)
 |[], [] => some ()
 |[], _ :: _ => none
 |_ :: _, [] => none
 |.s p :: r, v :: q => match xM p v, takeA h r q with
  |some x, some y => some (x, y)
  |_, _ => none
 |.sl k :: r, v :: q => match tO h k v, takeA h r q with
  |some x, some y => some (x, y)
  |_, _ => none
def Are (w : World) : (as_ : List Ar) → Ta as_ → List Value → Prop
 |[], _, vs => vs = []
 |.s p :: r, x, vs => ∃ q, vs = (pQ p x.1).v id :: q ∧ Are w r x.2 q
 |.sl k :: r, x, vs => ∃ A c q, vs = .slice A x.1.length c :: q ∧ Kd.C (Kd.int k) w A x.1.length x.1 ∧ x.1.length ≤ c ∧ Are w r x.2 q
def Ar.plain : Ar → Bool
 |.s h => h.plain
 |_ => true
theorem z8 {h : List (Nat × Nat × List S)} {k : IntKind} {v : PV} {xs : List Int} (e : tO h k v = some xs) {m : Nat → Nat} {w : World} (hw : aAa m h w) : ∃ A c, v.v m = .slice A xs.length c ∧ Kd.C (Kd.int k) w A xs.length xs ∧ xs.length ≤ c := by
 unfold tO at e
 split at e
 ·next g o n c =>
  split at e
  ·next t k' ys q hl =>
   obtain ⟨h1, h2⟩ := dY e
   cases h2
   simp only [Bool.and_eq_true] at h1
   obtain ⟨⟨⟨⟨h1, h2⟩, h3⟩, h4⟩, h5⟩ := h1
   obtain rfl := Nat.eq_of_beq_eq_true h1
   obtain rfl := Nat.eq_of_beq_eq_true h2
   have h3 := Nat.le_of_ble_eq_true h3
   have h4 := Nat.le_of_ble_eq_true h4
   obtain rfl := of_decide_eq_true h5
   obtain ⟨N, hw⟩ := hw
   obtain ⟨o1, o2⟩ := hw g t _ hl
   have ol : xs.length = q := o1.1
   subst ol
   have o3 : vals m [S.a k' xs xs.length] = xs.map (Value.int k') := by show xs.map _ ++ [] = _; rw [List.append_nil]
   rw [o3] at o2
   refine ⟨some ⟨m g, 0, none⟩, c, rfl, ⟨rfl, by omega, fun _ => ⟨_, rfl, fun j p hj => ⟨[.int k' p], rfl, rfl, fun i u hu => ?_⟩⟩⟩, h3⟩
   have hi : i = 0 := by
    cases i with
    |zero => rfl
    |succ i => cases hu
   subst hi
   cases hu
   unfold World.cell? Addr.add
   have hk : (Kd.int k').sz = 1 := rfl
   by_cases j0 : j = 0
   ·subst j0; simp [hk, o2]; simpa using hj
   ·simp [hk, j0, o2]; simpa using hj
  ·cases e
 ·cases e
theorem takeA_v {h : List (Nat × Nat × List S)} {N : Nat} : ∀ {as_ : List Ar} {vs : List PV} {x : Ta as_}, as_.all Ar.plain = true → (∀ v ∈ vs, v.ok N) → takeA h as_ vs = some x → ∀ (m : Nat → Nat) (w : World), aAa m h w → Are w as_ x (vs.map (PV.v m)) := by
 intro as_
 induction as_ with
 |nil =>
  intro vs x _ _ e m w _
  cases vs with
  |nil => rfl
  |cons v r => cases e
 |cons p as_ ih =>
  intro vs x hp ho e m w hw
  rw [List.all_cons, Bool.and_eq_true] at hp
  cases vs with
  |nil => cases p <;> cases e
  |cons v r =>
   cases p with
   |s q =>
    unfold takeA at e
    split at e
    ·next y z hy hz =>
     cases e
     obtain ⟨o1, e1⟩ := qL m hp.1 (ho v (List.mem_cons_self ..)) hy
     refine ⟨r.map (PV.v m), ?_, ih hp.2 (fun u hu => ho u (List.mem_cons_of_mem _ hu)) hz m w hw⟩
     show v.v m :: _ = _
     rw [e1, PV.eF (N := 0) (m := m) (m' := id) (fun g hg => absurd hg (Nat.not_lt_zero _)) o1]
    ·cases e
   |sl k =>
    unfold takeA at e
    split at e
    ·next y z hy hz =>
     cases e
     obtain ⟨A, c, e1, e2, e3⟩ := z8 hy hw
     refine ⟨A, c, r.map (PV.v m), ?_, e2, e3, ih hp.2 (fun u hu => ho u (List.mem_cons_of_mem _ hu)) hz m w hw⟩
     show v.v m :: _ = _
     rw [e1]
    ·cases e
def mkFcA (as_ : List Ar) (rs : List Sh) {T : Type} (un : T → Ts rs) (g : Nat → Ta as_ → Option T) : Fc := ⟨fun _ n h vs K => match takeA h as_ vs with
 |some x => (g n x).bind fun y => K (iO rs (un y))
 |none => none⟩
theorem oldA_ok {P : Program} {f : FuncId} {fn : Func} {as_ : List Ar} {rs : List Sh} {T : Type} {un : T → Ts rs} {g : Nat → Ta as_ → Option T} (hf : P.funcs[f]? = some fn) (hb : fn.body.isSome = true) (hn : (fn.name == "runtime.NumGoroutine") = false)
  (hp : (as_.all Ar.plain && rs.all Sh.plain) = true) (h0 : ∀ y, (iO rs (un y)).ok 0) (hc : ∀ n x y, g n x = some y → ∀ (m : Nat → Nat) (w : World) (vs : List Value), Are w as_ x vs → Calls P f vs.toArray w fun e w' => e = .returned ((iO rs (un y)).v m) ∧ Below w.heap.size w w') : iI P f (mkFcA as_ rs un g) := by
 rw [Bool.and_eq_true] at hp
 refine ⟨⟨fn, hf, hb, hn⟩, fun R n N hh vs K r ho h => ?_⟩
 have h : (match takeA hh as_ vs with
  |some x => (g n x).bind fun y => K (iO rs (un y))
  |none => none) = some r := h
 split at h
 ·next x hx =>
  obtain ⟨y, hy, hK⟩ := Option.bind_eq_some_iff.mp h
  exact ⟨_, hK, h0 y, fun m w hw => hc n x y hy m w _ (takeA_v hp.1 ho hx m w hw)⟩
 ·cases h
abbrev hI (k : IntKind) : Sh := .one (.i k)
abbrev hB : Sh := .one .b
abbrev vb (b : Bool) : SV := .pv (.one (.b (.q b)))
abbrev ci (k : IntKind) (x : Int) : S := .c (.i k (.x x))
abbrev cb (b : Bool) : S := .c (.b (.q b))
end Go.Proofs.Ytfapjegkilljnaa.Ek

/- Entries of functions. -/
namespace Go.Proofs.Ytfapjegkilljnaa.L
open Go.RowKit Go.Proofs.Ytfapjegkilljnaa.P Go.Proofs.Ytfapjegkilljnaa.Ek Go.Proofs.YtfapjegkilljnaaW.PrintWords Go.Proofs.YtfapjegkilljnaaW.PrintLast Go.Proofs.YtfapjegkilljnaaW.PrintMore
noncomputable def bS.c : Fc := iR [hI .i64, hB] [hI .u32] (T := Int) (fun y => ((y, ()), ())) fun n x => bS.f x.1.1 x.2.1.1
theorem bS.ok : iI Try.prog 99 bS.c := eD Try.func99 (by kernel_rfl) (by kernel_rfl) (by decide) (fun _ => cO (by decide) _) fun n x y h m w => (bS.calls x.1.1 x.2.1.1 y w h).mono fun e w' he => ⟨he.1, he.2.below⟩
noncomputable def bH.c : Fc := iR [hI .i64, hB] [hI .u32] (T := Int) (fun y => ((y, ()), ())) fun n x => bH.f x.1.1 x.2.1.1
theorem bH.ok : iI Try.prog 54 bH.c := eD Try.func54 (by kernel_rfl) (by kernel_rfl) (by decide) (fun _ => cO (by decide) _) fun n x y h m w => (bH.calls x.1.1 x.2.1.1 y w h).mono fun e w' he => ⟨he.1, he.2.below⟩
noncomputable def aX.cls : Cls := [(99, bS.c), (54, bH.c)]
theorem aX.jI : bW Try.prog aX.cls := bW.cons bS.ok (bW.cons bH.ok (bW.nil))
noncomputable def aX.K (v : SV) : Option (Int × Bool × Bool × Bool × Bool × Bool) := (mY [hI .u32, .agg [.b, .b, .b, .b, .b]] v).map (fun z => (z.1.1, z.2.1.1, z.2.1.2.1, z.2.1.2.2.1, z.2.1.2.2.2.1, z.2.1.2.2.2.2.1))
noncomputable def aX.cuts : List Nat := []
noncomputable def aX.f (k : Nat) (a0 a1 : Int) (a2 : Bool) : Option (Int × Bool × Bool × Bool × Bool × Bool) := evF Try.prog aX.cls Try.f83 aX.cuts k [.one (.i .i64 (.x a0)), .one (.i .i64 (.x a1)), .one (.b (.q a2))] aX.K
noncomputable def aX.c : Fc := iR [hI .i64, hI .i64, hB] [hI .u32, .agg [.b, .b, .b, .b, .b]] (T := Int × Bool × Bool × Bool × Bool × Bool) (fun y => ((y.1, ()), (y.2.1, y.2.2.1, y.2.2.2.1, y.2.2.2.2.1, y.2.2.2.2.2, ()), ())) fun n x => aX.f n x.1.1 x.2.1.1 x.2.2.1.1
theorem aX.ok : iI Try.prog 83 aX.c := mkOk aX.jI Try.func83 (by kernel_rfl) (by kernel_rfl) (by decide) (fun _ => rfl) (fun _ _ => rfl)
noncomputable def dA.c : Fc := iR [.agg [.b, .i .i64, .i .u64, .b]] [.agg [.b, .i .i64, .i .u64, .b]] (T := Bool × Int × Int × Bool) (fun y => ((y.1, y.2.1, y.2.2.1, y.2.2.2, ()), ())) fun n x => dA.f n x.1.1 x.1.2.1 x.1.2.2.1 x.1.2.2.2.1
theorem dA.ok : iI Try.prog 105 dA.c := eD Try.func105 (by kernel_rfl) (by kernel_rfl) (by decide) (fun _ => cO (by decide) _) fun n x y h m w => (dA.calls n x.1.1 x.1.2.1 x.1.2.2.1 x.1.2.2.2.1 y.1 y.2.1 y.2.2.1 y.2.2.2 w h).mono fun e w' he => ⟨he.1, he.2⟩
noncomputable def aH.c : Fc := iR [hI .u64, hI .i64] [hI .u64, hB] (T := Int × Bool) (fun y => ((y.1, ()), (y.2, ()), ())) fun n x => aH.f n x.1.1 x.2.1.1
theorem aH.ok : iI Try.prog 98 aH.c := eD Try.func98 (by kernel_rfl) (by kernel_rfl) (by decide) (fun _ => cO (by decide) _) fun n x y h m w => (aH.calls n x.1.1 x.2.1.1 y.1 y.2 w h).mono fun e w' he => ⟨he.1, he.2.below⟩
noncomputable def aG.cls : Cls := [(105, dA.c), (98, aH.c)]
theorem aG.jI : bW Try.prog aG.cls := bW.cons dA.ok (bW.cons aH.ok (bW.nil))
noncomputable def aG.K (v : SV) : Option (Bool × Int × Int × Bool) := (mY [.agg [.b, .i .i64, .i .u64, .b]] v).map (fun z => (z.1.1, z.1.2.1, z.1.2.2.1, z.1.2.2.2.1))
noncomputable def aG.cuts : List Nat := [7, 8, 16]
noncomputable def aG.f (k : Nat) (a0_0 : Bool) (a0_1 a0_2 : Int) (a0_3 a1_0 : Bool) (a1_1 a1_2 : Int) (a1_3 : Bool) : Option (Bool × Int × Int × Bool) := evF Try.prog aG.cls Try.f92 aG.cuts k [.agg [cb a0_0, ci .i64 a0_1, ci .u64 a0_2, cb a0_3], .agg [cb a1_0, ci .i64 a1_1, ci .u64 a1_2, cb a1_3]] aG.K
noncomputable def aG.c : Fc := iR [.agg [.b, .i .i64, .i .u64, .b], .agg [.b, .i .i64, .i .u64, .b]] [.agg [.b, .i .i64, .i .u64, .b]] (T := Bool × Int × Int × Bool) (fun y => ((y.1, y.2.1, y.2.2.1, y.2.2.2, ()), ())) fun n x => aG.f n x.1.1 x.1.2.1 x.1.2.2.1 x.1.2.2.2.1 x.2.1.1 x.2.1.2.1 x.2.1.2.2.1 x.2.1.2.2.2.1
theorem aG.ok : iI Try.prog 92 aG.c := mkOk aG.jI Try.func92 (by kernel_rfl) (by kernel_rfl) (by decide) (fun _ => rfl) (fun _ _ => rfl)
noncomputable def aV.c : Fc := iR [hI .i64] [hI .i64, hI .i64] (T := Int × Int) (fun y => ((y.1, ()), (y.2, ()), ())) fun n x => aV.f x.1.1
theorem aV.ok : iI Try.prog 23 aV.c := eD Try.func23 (by kernel_rfl) (by kernel_rfl) (by decide) (fun _ => cO (by decide) _) fun n x y h m w => (aV.calls x.1.1 y.1 y.2 w h).mono fun e w' he => ⟨he.1, he.2.below⟩
noncomputable def bZ.c : Fc := iR [hI .i64] [hI .u32] (T := Int) (fun y => ((y, ()), ())) fun n x => bZ.f x.1.1
theorem bZ.ok : iI Try.prog 48 bZ.c := eD Try.func48 (by kernel_rfl) (by kernel_rfl) (by decide) (fun _ => cO (by decide) _) fun n x y h m w => (bZ.calls x.1.1 y w h).mono fun e w' he => ⟨he.1, he.2.below⟩
noncomputable def aY.c : Fc := iR [hI .i64, hB] [hI .u32] (T := Int) (fun y => ((y, ()), ())) fun n x => aY.f x.1.1 x.2.1.1
theorem aY.ok : iI Try.prog 24 aY.c := eD Try.func24 (by kernel_rfl) (by kernel_rfl) (by decide) (fun _ => cO (by decide) _) fun n x y h m w => (aY.calls x.1.1 x.2.1.1 y w h).mono fun e w' he => ⟨he.1, he.2.below⟩
noncomputable def aW.cls : Cls := [(23, aV.c), (48, bZ.c), (24, aY.c)]
theorem aW.jI : bW Try.prog aW.cls := bW.cons aV.ok (bW.cons bZ.ok (bW.cons aY.ok (bW.nil)))
noncomputable def aW.K (v : SV) : Option (Int) := (mY [hI .u32] v).map (fun z => (z.1.1))
noncomputable def aW.cuts : List Nat := []
noncomputable def aW.f (k : Nat) (a0 a1 : Int) : Option (Int) := evF Try.prog aW.cls Try.f26 aW.cuts k [.one (.i .i64 (.x a0)), .one (.i .u32 (.x a1))] aW.K
noncomputable def aW.c : Fc := iR [hI .i64, hI .u32] [hI .u32] (T := Int) (fun y => ((y, ()), ())) fun n x => aW.f n x.1.1 x.2.1.1
theorem aW.ok : iI Try.prog 26 aW.c := mkOk aW.jI Try.func26 (by kernel_rfl) (by kernel_rfl) (by decide) (fun _ => rfl) (fun _ _ => rfl)
/- Entries of functions. -/
noncomputable def bR.c : Fc := iR [hI .i64, hB] [hI .u32] (T := Int) (fun y => ((y, ()), ())) fun n x => bR.f x.1.1 x.2.1.1
theorem bR.ok : iI Try.prog 77 bR.c := eD Try.func77 (by kernel_rfl) (by kernel_rfl) (by decide) (fun _ => cO (by decide) _) fun n x y h m w => (bR.calls x.1.1 x.2.1.1 y w h).mono fun e w' he => ⟨he.1, he.2.below⟩
noncomputable def aR.c : Fc := iR [hI .i64] [hI .i64, hI .i64] (T := Int × Int) (fun y => ((y.1, ()), (y.2, ()), ())) fun n x => aR.f x.1.1
theorem aR.ok : iI Try.prog 78 aR.c := eD Try.func78 (by kernel_rfl) (by kernel_rfl) (by decide) (fun _ => cO (by decide) _) fun n x y h m w => (aR.calls x.1.1 y.1 y.2 w h).mono fun e w' he => ⟨he.1, he.2.below⟩
noncomputable def bN.c : Fc := iR [hI .i64, hI .i64, hI .u64] [hI .i64] (T := Int) (fun y => ((y, ()), ())) fun n x => bN.f n x.1.1 x.2.1.1 x.2.2.1.1
theorem bN.ok : iI Try.prog 79 bN.c := eD Try.func79 (by kernel_rfl) (by kernel_rfl) (by decide) (fun _ => cO (by decide) _) fun n x y h m w => (bN.calls n x.1.1 x.2.1.1 x.2.2.1.1 y w h).mono fun e w' he => ⟨he.1, he.2⟩
noncomputable def bC.c : Fc := iR [hI .u64, hI .i64, hB] [hI .u64, hI .i64] (T := Int × Int) (fun y => ((y.1, ()), (y.2, ()), ())) fun n x => bC.f n x.1.1 x.2.1.1 x.2.2.1.1
theorem bC.ok : iI Try.prog 80 bC.c := eD Try.func80 (by kernel_rfl) (by kernel_rfl) (by decide) (fun _ => cO (by decide) _) fun n x y h m w => (bC.calls n x.1.1 x.2.1.1 x.2.2.1.1 y.1 y.2 w h).mono fun e w' he => ⟨he.1, he.2.below⟩
noncomputable def eX.c : Fc := iR [hI .i64, hB, hI .u64, hI .i64] [hB] (T := Bool) (fun y => ((y, ()), ())) fun n x => eX.f x.1.1 x.2.1.1 x.2.2.1.1 x.2.2.2.1.1
theorem eX.ok : iI Try.prog 81 eX.c := eD Try.func81 (by kernel_rfl) (by kernel_rfl) (by decide) (fun _ => cO (by decide) _) fun n x y h m w => (eX.calls x.1.1 x.2.1.1 x.2.2.1.1 x.2.2.2.1.1 y w h).mono fun e w' he => ⟨he.1, he.2.below⟩
noncomputable def bE.c : Fc := iR [hI .i64] [hI .i64] (T := Int) (fun y => ((y, ()), ())) fun n x => bE.f x.1.1
theorem bE.ok : iI Try.prog 82 bE.c := eD Try.func82 (by kernel_rfl) (by kernel_rfl) (by decide) (fun _ => cO (by decide) _) fun n x y h m w => (bE.calls x.1.1 y w h).mono fun e w' he => ⟨he.1, he.2.below⟩
noncomputable def bP.c : Fc := iR [hI .i64] [hI .i64] (T := Int) (fun y => ((y, ()), ())) fun n x => bP.f x.1.1
theorem bP.ok : iI Try.prog 75 bP.c := eD Try.func75 (by kernel_rfl) (by kernel_rfl) (by decide) (fun _ => cO (by decide) _) fun n x y h m w => (bP.calls x.1.1 y w h).mono fun e w' he => ⟨he.1, he.2.below⟩
noncomputable def bits_Len.c : Fc := iR [hI .u64] [hI .i64] (T := Int) (fun y => ((y, ()), ())) fun n x => bits_Len.f n x.1.1
theorem bits_Len.ok : iI Try.prog 84 bits_Len.c := eD Try.func84 (by kernel_rfl) (by kernel_rfl) (by decide) (fun _ => cO (by decide) _) fun n x y h m w => (bits_Len.calls n x.1.1 y w h).mono fun e w' he => ⟨he.1, he.2.below⟩
noncomputable def dX.c : Fc := iR [hI .u64, hI .i64] [hI .u64] (T := Int) (fun y => ((y, ()), ())) fun n x => dX.f x.1.1 x.2.1.1
theorem dX.ok : iI Try.prog 85 dX.c := eD Try.func85 (by kernel_rfl) (by kernel_rfl) (by decide) (fun _ => cO (by decide) _) fun n x y h m w => (dX.calls x.1.1 x.2.1.1 y w h).mono fun e w' he => ⟨he.1, he.2.below⟩
noncomputable def aZ.c : Fc := iR [hI .i64, hB, hI .i64, hI .u32] [hI .u32] (T := Int) (fun y => ((y, ()), ())) fun n x => aZ.f x.1.1 x.2.1.1 x.2.2.1.1 x.2.2.2.1.1
theorem aZ.ok : iI Try.prog 74 aZ.c := eD Try.func74 (by kernel_rfl) (by kernel_rfl) (by decide) (fun _ => cO (by decide) _) fun n x y h m w => (aZ.calls x.1.1 x.2.1.1 x.2.2.1.1 x.2.2.2.1.1 y w h).mono fun e w' he => ⟨he.1, he.2.below⟩
noncomputable def aA.cls : Cls := [(77, bR.c), (78, aR.c), (79, bN.c), (80, bC.c), (81, eX.c), (82, bE.c), (75, bP.c), (83, aX.c), (84, bits_Len.c), (85, dX.c), (74, aZ.c)]
theorem aA.jI : bW Try.prog aA.cls := bW.cons bR.ok (bW.cons aR.ok (bW.cons bN.ok (bW.cons bC.ok (bW.cons eX.ok (bW.cons bE.ok (bW.cons bP.ok (bW.cons aX.ok (bW.cons bits_Len.ok (bW.cons dX.ok (bW.cons aZ.ok (bW.nil)))))))))))
noncomputable def aA.K (v : SV) : Option (Int × Bool × Bool × Bool × Bool × Bool) := (mY [hI .u32, .agg [.b, .b, .b, .b, .b]] v).map (fun z => (z.1.1, z.2.1.1, z.2.1.2.1, z.2.1.2.2.1, z.2.1.2.2.2.1, z.2.1.2.2.2.2.1))
noncomputable def aA.cuts : List Nat := [3, 9, 11, 14]
noncomputable def aA.f (k : Nat) (a0 a1 : Int) (a2 : Bool) (a3 a4 : Int) (a5 : Bool) : Option (Int × Bool × Bool × Bool × Bool × Bool) := evF Try.prog aA.cls Try.f56 aA.cuts k [.one (.i .i64 (.x a0)), .one (.i .i64 (.x a1)), .one (.b (.q a2)), .one (.i .i64 (.x a3)), .one (.i .u64 (.x a4)), .one (.b (.q a5))] aA.K
noncomputable def aA.c : Fc := iR [hI .i64, hI .i64, hB, hI .i64, hI .u64, hB] [hI .u32, .agg [.b, .b, .b, .b, .b]] (T := Int × Bool × Bool × Bool × Bool × Bool) (fun y => ((y.1, ()), (y.2.1, y.2.2.1, y.2.2.2.1, y.2.2.2.2.1, y.2.2.2.2.2, ()), ())) fun n x => aA.f n x.1.1 x.2.1.1 x.2.2.1.1 x.2.2.2.1.1 x.2.2.2.2.1.1 x.2.2.2.2.2.1.1
theorem aA.ok : iI Try.prog 56 aA.c := mkOk aA.jI Try.func56 (by kernel_rfl) (by kernel_rfl) (by decide) (fun _ => rfl) (fun _ _ => rfl)
end Go.Proofs.Ytfapjegkilljnaa.L

-- Printed by a program of this session's out of Lean's print of the translation; Lean checks it.
namespace Go.Proofs.Ytfapjegkilljnaa.P
open Go.RowKit Go.Proofs.YtfapjegkilljnaaW.PrintWords Go.Proofs.YtfapjegkilljnaaW.PrintLast Go.Proofs.YtfapjegkilljnaaW.PrintMore
attribute [local go_sem] max2_int min2_int max_two min_two max_three min_three max_four min_four

-- NEED 0
/-! ### bQ: function 106 -/
def bQ.l0 : Nat → Int → Int → Int → Option (Int × Bool)
 |0, _, _, _ => none
 |k + 1, x0, x4, x5 => if x5 > 0 then (if (IntKind.u64.wrap ((Go.bits .or .u64 x4 x5) * (Go.bits .or .u64 x4 x5))) ≤ x0 then (bQ.l0 k x0 (Go.bits .or .u64 x4 x5) (x5 / 2)) else (bQ.l0 k x0 x4 (x5 / 2))) else (some ((x4) % 4294967296, ((IntKind.u64.wrap (x4 * x4)) == x0)))
def bQ.f (k : Nat) (a0 : Int) : Option (Int × Bool) := bQ.l0 k a0 0 2147483648
theorem bQ.fU : ∀ k, (∀ y0 y1 y2, LeO (bQ.l0 k y0 y1 y2) (bQ.l0 (k + 1) y0 y1 y2))
 |0 => fun _ _ _ r h => by simp [bQ.l0] at h
 |k + 1 => by
  have ih0 := bQ.fU k
  ·intro y0 y1 y2
   unfold bQ.l0
   repeat' first
   |(with_reducible first|exact ih0 _ _ _|exact LeO.refl _|exact LeO.none _|refine LeO.ite ?_ ?_|refine LeO.bind ?_ (fun _ => ?_))
   |exact ih0 _ _ _
   |exact LeO.none _
   |refine LeO.ite ?_ ?_
   |refine LeO.bind ?_ (fun _ => ?_)
theorem bQ.mono : ∀ a0 k, LeO (bQ.f k a0) (bQ.f (k + 1) a0) := by
 intro a0 k
 have ih0 := bQ.fU k
 unfold bQ.f
 repeat' first
   |(with_reducible first|exact ih0 _ _ _|exact LeO.refl _|exact LeO.none _|refine LeO.ite ?_ ?_|refine LeO.bind ?_ (fun _ => ?_))
   |exact ih0 _ _ _
   |exact LeO.none _
   |refine LeO.ite ?_ ?_
   |refine LeO.bind ?_ (fun _ => ?_)
set_option maxHeartbeats 8000000 in
set_option maxRecDepth 100000 in
theorem bQ.calls (k : Nat) (a0 r1 : Int) (r2 : Bool) (w : World) (h : bQ.f k a0 = some (r1, r2)) :
  Calls Try.prog 106 #[.int .u64 a0] w fun e w' => e = .returned (.tuple #[.int .u32 r1, .bool r2]) ∧ Drawn0 w w' := by
 have H : (bQ.l0 k a0 0 2147483648) = some (r1, r2) := h
 clear h
 have H' := Aside0.mk H
 clear H
 go_enter Try.func106, Try.ntmps106
 go_wp2
 go_loopg [4, 5] k (fun kq v4 v5 w' => ∃ (x4_1 : Int) (x5_1 : Int), v4 = .int .u64 x4_1 ∧ v5 = .int .u64 x5_1 ∧ Aside0 (bQ.l0 kq a0 x4_1 x5_1 = some (r1, r2)) ∧ Aside0 (kq ≤ k) ∧ Drawn0 w w')
 case atStart => exact ⟨(0), (2147483648), (gr_), (gr_), H', ⟨Nat.le_refl _⟩, gd_⟩
 case round =>
  clear H'
  try clear c1
  obtain ⟨x4_1, x5_1, rfl, rfl, HA, HK1, ⟨m1, rfl⟩⟩ := hrel
  cases gk with
  |zero => exact absurd HA.out (by simp [bQ.l0])
  |succ k1 =>
   have H := HA.out
   clear HA
   simp only [bQ.l0] at H
   by_cases c2 : x5_1 > 0
   ·rw [if_pos c2] at H
    have c2b0 : decide (0 < x5_1) = true := decide_eq_true c2
    clear c2
    by_cases c3 : (IntKind.u64.wrap ((Go.bits .or .u64 x4_1 x5_1) * (Go.bits .or .u64 x4_1 x5_1))) ≤ a0
    ·rw [if_pos c3] at H
     have c3b0 : decide ((IntKind.u64.wrap ((Go.bits .or .u64 x4_1 x5_1) * (Go.bits .or .u64 x4_1 x5_1))) ≤ a0) = true := decide_eq_true c3
     clear c3
     have H' := Aside0.mk H
     clear H
     go_wp2
     go_roundg k1
     case measure => have := HK1.out; omega
     case rel => exact ⟨(Go.bits .or .u64 x4_1 x5_1), (x5_1 / 2), (gr_), (gr_), H', ⟨by have := HK1.out; omega⟩, gd_⟩
    ·rw [if_neg c3] at H
     have c3b0 : decide ((IntKind.u64.wrap ((Go.bits .or .u64 x4_1 x5_1) * (Go.bits .or .u64 x4_1 x5_1))) ≤ a0) = false := decide_eq_false c3
     clear c3
     have H' := Aside0.mk H
     clear H
     go_wp2
     go_roundg k1
     case measure => have := HK1.out; omega
     case rel => exact ⟨(x4_1), (x5_1 / 2), (gr_), (gr_), H', ⟨by have := HK1.out; omega⟩, gd_⟩
   ·rw [if_neg c2] at H
    have c2b0 : decide (0 < x5_1) = false := decide_eq_false c2
    clear c2
    simp only [Option.some.injEq, Prod.mk.injEq] at H
    obtain ⟨rfl, rfl⟩ := H
    go_wp2
    go_ret2
    exact ⟨gr_, gd_⟩

end Go.Proofs.Ytfapjegkilljnaa.P

/- Entries of functions. -/
namespace Go.Proofs.Ytfapjegkilljnaa.L
open Go.RowKit Go.Proofs.Ytfapjegkilljnaa.P Go.Proofs.Ytfapjegkilljnaa.Ek Go.Proofs.YtfapjegkilljnaaW.PrintWords Go.Proofs.YtfapjegkilljnaaW.PrintLast Go.Proofs.YtfapjegkilljnaaW.PrintMore
noncomputable def aQ.c : Fc := mkFcA [.s (hI .i64), .sl .u32] [hI .u32, .agg [.b, .b, .b, .b, .b], hB] (T := Int × Bool × Bool × Bool × Bool × Bool × Bool) (fun y => ((y.1, ()), (y.2.1, y.2.2.1, y.2.2.2.1, y.2.2.2.2.1, y.2.2.2.2.2.1, ()), (y.2.2.2.2.2.2, ()), ())) fun n x => aQ.f n x.1.1 x.2.1
theorem aQ.ok : iI Try.prog 49 aQ.c := oldA_ok Try.func49 (by kernel_rfl) (by kernel_rfl) (by decide) (fun _ => cO (by decide) _) fun n x y h m w vs ha => by obtain ⟨q0, e0, ha⟩ := ha; subst e0; obtain ⟨A1, c1, q1, e1, R1, D1, ha⟩ := ha; subst e1; subst ha; exact (aQ.calls n x.1.1 A1 c1 x.2.1 y.1 y.2.1 y.2.2.1 y.2.2.2.1 y.2.2.2.2.1 y.2.2.2.2.2.1 y.2.2.2.2.2.2 w R1 D1 h).mono fun e w' he => ⟨he.1, he.2⟩
noncomputable def bV.c : Fc := iR [hI .i64, hI .u32, hI .u32] [hB] (T := Bool) (fun y => ((y, ()), ())) fun n x => bV.f n x.1.1 x.2.1.1 x.2.2.1.1
theorem bV.ok : iI Try.prog 50 bV.c := eD Try.func50 (by kernel_rfl) (by kernel_rfl) (by decide) (fun _ => cO (by decide) _) fun n x y h m w => (bV.calls n x.1.1 x.2.1.1 x.2.2.1.1 y w h).mono fun e w' he => ⟨he.1, he.2.below⟩
noncomputable def dJ.c : Fc := iR [hI .i64] [hI .u32, .agg [.b, .b, .b, .b, .b]] (T := Int × Bool × Bool × Bool × Bool × Bool) (fun y => ((y.1, ()), (y.2.1, y.2.2.1, y.2.2.2.1, y.2.2.2.2.1, y.2.2.2.2.2, ()), ())) fun n x => dJ.f x.1.1
theorem dJ.ok : iI Try.prog 51 dJ.c := eD Try.func51 (by kernel_rfl) (by kernel_rfl) (by decide) (fun _ => cO (by decide) _) fun n x y h m w => (dJ.calls x.1.1 y.1 y.2.1 y.2.2.1 y.2.2.2.1 y.2.2.2.2.1 y.2.2.2.2.2 w h).mono fun e w' he => ⟨he.1, he.2⟩
noncomputable def bG.c : Fc := iR [hI .i64, hI .u32] [hB] (T := Bool) (fun y => ((y, ()), ())) fun n x => bG.f x.1.1 x.2.1.1
theorem bG.ok : iI Try.prog 52 bG.c := eD Try.func52 (by kernel_rfl) (by kernel_rfl) (by decide) (fun _ => cO (by decide) _) fun n x y h m w => (bG.calls x.1.1 x.2.1.1 y w h).mono fun e w' he => ⟨he.1, he.2.below⟩
noncomputable def aD.c : Fc := iR [hI .i64, hI .u32] [hB] (T := Bool) (fun y => ((y, ()), ())) fun n x => aD.f n x.1.1 x.2.1.1
theorem aD.ok : iI Try.prog 53 aD.c := eD Try.func53 (by kernel_rfl) (by kernel_rfl) (by decide) (fun _ => cO (by decide) _) fun n x y h m w => (aD.calls n x.1.1 x.2.1.1 y w h).mono fun e w' he => ⟨he.1, he.2.below⟩
noncomputable def cK.c : Fc := iR [hI .i64, hI .u32, hI .u32] [.agg [.b, .i .i64, .i .u64, .b]] (T := Bool × Int × Int × Bool) (fun y => ((y.1, y.2.1, y.2.2.1, y.2.2.2, ()), ())) fun n x => cK.f x.1.1 x.2.1.1 x.2.2.1.1
theorem cK.ok : iI Try.prog 55 cK.c := eD Try.func55 (by kernel_rfl) (by kernel_rfl) (by decide) (fun _ => cO (by decide) _) fun n x y h m w => (cK.calls x.1.1 x.2.1.1 x.2.2.1.1 y.1 y.2.1 y.2.2.1 y.2.2.2 w h).mono fun e w' he => ⟨he.1, he.2⟩
noncomputable def bO.cls : Cls := [(49, aQ.c), (50, bV.c), (51, dJ.c), (52, bG.c), (53, aD.c), (54, bH.c), (55, cK.c), (56, aA.c)]
theorem bO.jI : bW Try.prog bO.cls := bW.cons aQ.ok (bW.cons bV.ok (bW.cons dJ.ok (bW.cons bG.ok (bW.cons aD.ok (bW.cons bH.ok (bW.cons cK.ok (bW.cons aA.ok (bW.nil))))))))
noncomputable def bO.K (v : SV) : Option (Int × Bool × Bool × Bool × Bool × Bool) := (mY [hI .u32, .agg [.b, .b, .b, .b, .b]] v).map (fun z => (z.1.1, z.2.1.1, z.2.1.2.1, z.2.1.2.2.1, z.2.1.2.2.2.1, z.2.1.2.2.2.2.1))
noncomputable def bO.cuts : List Nat := [8]
noncomputable def bO.f (k : Nat) (a0 a1 : Int) (a2 a3 : Int) : Option (Int × Bool × Bool × Bool × Bool × Bool) := evF Try.prog bO.cls Try.f32 bO.cuts k [.one (.i .i64 (.x a0)), .one (.i .i64 (.x a1)), .one (.i .u32 (.x a2)), .one (.i .u32 (.x a3))] bO.K
noncomputable def bO.c : Fc := iR [hI .i64, hI .i64, hI .u32, hI .u32] [hI .u32, .agg [.b, .b, .b, .b, .b]] (T := Int × Bool × Bool × Bool × Bool × Bool) (fun y => ((y.1, ()), (y.2.1, y.2.2.1, y.2.2.2.1, y.2.2.2.2.1, y.2.2.2.2.2, ()), ())) fun n x => bO.f n x.1.1 x.2.1.1 x.2.2.1.1 x.2.2.2.1.1
theorem bO.ok : iI Try.prog 32 bO.c := mkOk bO.jI Try.func32 (by kernel_rfl) (by kernel_rfl) (by decide) (fun _ => rfl) (fun _ _ => rfl)
noncomputable def aM.c : Fc := iR [hI .i64, hB, hB, hB, hB] [hI .u32, .agg [.b, .b, .b, .b, .b]] (T := Int × Bool × Bool × Bool × Bool × Bool) (fun y => ((y.1, ()), (y.2.1, y.2.2.1, y.2.2.2.1, y.2.2.2.2.1, y.2.2.2.2.2, ()), ())) fun n x => aM.f n x.1.1 x.2.1.1 x.2.2.1.1 x.2.2.2.1.1 x.2.2.2.2.1.1
theorem aM.ok : iI Try.prog 91 aM.c := eD Try.func91 (by kernel_rfl) (by kernel_rfl) (by decide) (fun _ => cO (by decide) _) fun n x y h m w => (aM.calls n x.1.1 x.2.1.1 x.2.2.1.1 x.2.2.2.1.1 x.2.2.2.2.1.1 y.1 y.2.1 y.2.2.1 y.2.2.2.1 y.2.2.2.2.1 y.2.2.2.2.2 w h).mono fun e w' he => ⟨he.1, he.2⟩
noncomputable def dL.c : Fc := iR [hI .i64, hI .u32] [.agg [.b, .i .i64, .i .u64, .b]] (T := Bool × Int × Int × Bool) (fun y => ((y.1, y.2.1, y.2.2.1, y.2.2.2, ()), ())) fun n x => dL.f x.1.1 x.2.1.1
theorem dL.ok : iI Try.prog 76 dL.c := eD Try.func76 (by kernel_rfl) (by kernel_rfl) (by decide) (fun _ => cO (by decide) _) fun n x y h m w => (dL.calls x.1.1 x.2.1.1 y.1 y.2.1 y.2.2.1 y.2.2.2 w h).mono fun e w' he => ⟨he.1, he.2⟩
noncomputable def dF.c : Fc := iR [hI .i64, hI .i64, hB, hB] [hI .u32] (T := Int) (fun y => ((y, ()), ())) fun n x => dF.f x.1.1 x.2.1.1 x.2.2.1.1 x.2.2.2.1.1
theorem dF.ok : iI Try.prog 93 dF.c := eD Try.func93 (by kernel_rfl) (by kernel_rfl) (by decide) (fun _ => cO (by decide) _) fun n x y h m w => (dF.calls x.1.1 x.2.1.1 x.2.2.1.1 x.2.2.2.1.1 y w h).mono fun e w' he => ⟨he.1, he.2.below⟩
noncomputable def aN.cls : Cls := [(50, bV.c), (49, aQ.c), (51, dJ.c), (52, bG.c), (53, aD.c), (91, aM.c), (55, cK.c), (76, dL.c), (92, aG.c), (93, dF.c), (56, aA.c)]
theorem aN.jI : bW Try.prog aN.cls := bW.cons bV.ok (bW.cons aQ.ok (bW.cons dJ.ok (bW.cons bG.ok (bW.cons aD.ok (bW.cons aM.ok (bW.cons cK.ok (bW.cons dL.ok (bW.cons aG.ok (bW.cons dF.ok (bW.cons aA.ok (bW.nil)))))))))))
noncomputable def aN.K (v : SV) : Option (Int × Bool × Bool × Bool × Bool × Bool) := (mY [hI .u32, .agg [.b, .b, .b, .b, .b]] v).map (fun z => (z.1.1, z.2.1.1, z.2.1.2.1, z.2.1.2.2.1, z.2.1.2.2.2.1, z.2.1.2.2.2.2.1))
noncomputable def aN.cuts : List Nat := [10, 11, 15]
noncomputable def aN.f (k : Nat) (a0 a1 : Int) (a2 a3 a4 : Int) : Option (Int × Bool × Bool × Bool × Bool × Bool) := evF Try.prog aN.cls Try.f61 aN.cuts k [.one (.i .i64 (.x a0)), .one (.i .i64 (.x a1)), .one (.i .u32 (.x a2)), .one (.i .u32 (.x a3)), .one (.i .u32 (.x a4))] aN.K
noncomputable def aN.c : Fc := iR [hI .i64, hI .i64, hI .u32, hI .u32, hI .u32] [hI .u32, .agg [.b, .b, .b, .b, .b]] (T := Int × Bool × Bool × Bool × Bool × Bool) (fun y => ((y.1, ()), (y.2.1, y.2.2.1, y.2.2.2.1, y.2.2.2.2.1, y.2.2.2.2.2, ()), ())) fun n x => aN.f n x.1.1 x.2.1.1 x.2.2.1.1 x.2.2.2.1.1 x.2.2.2.2.1.1
theorem aN.ok : iI Try.prog 61 aN.c := mkOk aN.jI Try.func61 (by kernel_rfl) (by kernel_rfl) (by decide) (fun _ => rfl) (fun _ _ => rfl)
noncomputable def aI.c : Fc := iR [hI .i64, hI .u32] [hI .i64] (T := Int) (fun y => ((y, ()), ())) fun n x => aI.f n x.1.1 x.2.1.1
theorem aI.ok : iI Try.prog 70 aI.c := eD Try.func70 (by kernel_rfl) (by kernel_rfl) (by decide) (fun _ => cO (by decide) _) fun n x y h m w => (aI.calls n x.1.1 x.2.1.1 y w h).mono fun e w' he => ⟨he.1, he.2.below⟩
noncomputable def aU.cls : Cls := [(49, aQ.c), (52, bG.c), (70, aI.c), (51, dJ.c), (54, bH.c), (77, bR.c), (76, dL.c), (84, bits_Len.c), (98, aH.c), (56, aA.c)]
theorem aU.jI : bW Try.prog aU.cls := bW.cons aQ.ok (bW.cons bG.ok (bW.cons aI.ok (bW.cons dJ.ok (bW.cons bH.ok (bW.cons bR.ok (bW.cons dL.ok (bW.cons bits_Len.ok (bW.cons aH.ok (bW.cons aA.ok (bW.nil))))))))))
noncomputable def aU.K (v : SV) : Option (Int × Bool × Bool × Bool × Bool × Bool) := (mY [hI .u32, .agg [.b, .b, .b, .b, .b]] v).map (fun z => (z.1.1, z.2.1.1, z.2.1.2.1, z.2.1.2.2.1, z.2.1.2.2.2.1, z.2.1.2.2.2.2.1))
noncomputable def aU.cuts : List Nat := [7, 11]
noncomputable def aU.f (k : Nat) (a0 a1 : Int) (a2 a3 : Int) : Option (Int × Bool × Bool × Bool × Bool × Bool) := evF Try.prog aU.cls Try.f90 aU.cuts k [.one (.i .i64 (.x a0)), .one (.i .i64 (.x a1)), .one (.i .u32 (.x a2)), .one (.i .u32 (.x a3))] aU.K
noncomputable def aU.c : Fc := iR [hI .i64, hI .i64, hI .u32, hI .u32] [hI .u32, .agg [.b, .b, .b, .b, .b]] (T := Int × Bool × Bool × Bool × Bool × Bool) (fun y => ((y.1, ()), (y.2.1, y.2.2.1, y.2.2.2.1, y.2.2.2.2.1, y.2.2.2.2.2, ()), ())) fun n x => aU.f n x.1.1 x.2.1.1 x.2.2.1.1 x.2.2.2.1.1
theorem aU.ok : iI Try.prog 90 aU.c := mkOk aU.jI Try.func90 (by kernel_rfl) (by kernel_rfl) (by decide) (fun _ => rfl) (fun _ _ => rfl)
noncomputable def bA.cls : Cls := [(49, aQ.c), (53, aD.c), (52, bG.c), (91, aM.c), (76, dL.c), (92, aG.c), (93, dF.c), (56, aA.c)]
theorem bA.jI : bW Try.prog bA.cls := bW.cons aQ.ok (bW.cons aD.ok (bW.cons bG.ok (bW.cons aM.ok (bW.cons dL.ok (bW.cons aG.ok (bW.cons dF.ok (bW.cons aA.ok (bW.nil))))))))
noncomputable def bA.K (v : SV) : Option (Int × Bool × Bool × Bool × Bool × Bool) := (mY [hI .u32, .agg [.b, .b, .b, .b, .b]] v).map (fun z => (z.1.1, z.2.1.1, z.2.1.2.1, z.2.1.2.2.1, z.2.1.2.2.2.1, z.2.1.2.2.2.2.1))
noncomputable def bA.cuts : List Nat := [6, 10]
noncomputable def bA.f (k : Nat) (a0 a1 : Int) (a2 a3 : Int) : Option (Int × Bool × Bool × Bool × Bool × Bool) := evF Try.prog bA.cls Try.f102 bA.cuts k [.one (.i .i64 (.x a0)), .one (.i .i64 (.x a1)), .one (.i .u32 (.x a2)), .one (.i .u32 (.x a3))] bA.K
noncomputable def bA.c : Fc := iR [hI .i64, hI .i64, hI .u32, hI .u32] [hI .u32, .agg [.b, .b, .b, .b, .b]] (T := Int × Bool × Bool × Bool × Bool × Bool) (fun y => ((y.1, ()), (y.2.1, y.2.2.1, y.2.2.2.1, y.2.2.2.2.1, y.2.2.2.2.2, ()), ())) fun n x => bA.f n x.1.1 x.2.1.1 x.2.2.1.1 x.2.2.2.1.1
theorem bA.ok : iI Try.prog 102 bA.c := mkOk bA.jI Try.func102 (by kernel_rfl) (by kernel_rfl) (by decide) (fun _ => rfl) (fun _ _ => rfl)
noncomputable def aK.c : Fc := iR [hI .i64, hI .u32] [hB] (T := Bool) (fun y => ((y, ()), ())) fun n x => aK.f n x.1.1 x.2.1.1
theorem aK.ok : iI Try.prog 72 aK.c := eD Try.func72 (by kernel_rfl) (by kernel_rfl) (by decide) (fun _ => cO (by decide) _) fun n x y h m w => (aK.calls n x.1.1 x.2.1.1 y w h).mono fun e w' he => ⟨he.1, he.2.below⟩
noncomputable def bQ.c : Fc := iR [hI .u64] [hI .u32, hB] (T := Int × Bool) (fun y => ((y.1, ()), (y.2, ()), ())) fun n x => bQ.f n x.1.1
theorem bQ.ok : iI Try.prog 106 bQ.c := eD Try.func106 (by kernel_rfl) (by kernel_rfl) (by decide) (fun _ => cO (by decide) _) fun n x y h m w => (bQ.calls n x.1.1 y.1 y.2 w h).mono fun e w' he => ⟨he.1, he.2.below⟩
noncomputable def bY.cls : Cls := [(49, aQ.c), (76, dL.c), (72, aK.c), (77, bR.c), (51, dJ.c), (53, aD.c), (54, bH.c), (84, bits_Len.c), (98, aH.c), (106, bQ.c), (56, aA.c)]
theorem bY.jI : bW Try.prog bY.cls := bW.cons aQ.ok (bW.cons dL.ok (bW.cons aK.ok (bW.cons bR.ok (bW.cons dJ.ok (bW.cons aD.ok (bW.cons bH.ok (bW.cons bits_Len.ok (bW.cons aH.ok (bW.cons bQ.ok (bW.cons aA.ok (bW.nil)))))))))))
noncomputable def bY.K (v : SV) : Option (Int × Bool × Bool × Bool × Bool × Bool) := (mY [hI .u32, .agg [.b, .b, .b, .b, .b]] v).map (fun z => (z.1.1, z.2.1.1, z.2.1.2.1, z.2.1.2.2.1, z.2.1.2.2.2.1, z.2.1.2.2.2.2.1))
noncomputable def bY.cuts : List Nat := []
noncomputable def bY.f (k : Nat) (a0 a1 a2 : Int) : Option (Int × Bool × Bool × Bool × Bool × Bool) := evF Try.prog bY.cls Try.f103 bY.cuts k [.one (.i .i64 (.x a0)), .one (.i .i64 (.x a1)), .one (.i .u32 (.x a2))] bY.K
noncomputable def bY.c : Fc := iR [hI .i64, hI .i64, hI .u32] [hI .u32, .agg [.b, .b, .b, .b, .b]] (T := Int × Bool × Bool × Bool × Bool × Bool) (fun y => ((y.1, ()), (y.2.1, y.2.2.1, y.2.2.2.1, y.2.2.2.2.1, y.2.2.2.2.2, ()), ())) fun n x => bY.f n x.1.1 x.2.1.1 x.2.2.1.1
theorem bY.ok : iI Try.prog 103 bY.c := mkOk bY.jI Try.func103 (by kernel_rfl) (by kernel_rfl) (by decide) (fun _ => rfl) (fun _ _ => rfl)
/- Functions' trees, printed by a tool of mine out of the reckoner; Lean's kernel checks each. -/
set_option maxRecDepth 100000
noncomputable def bO.j8 (n0 : Nat) (x0 x1 : Bool) (x2 x3 : Int) (x4 x5 : Int) (x6 x7 : Bool) (x8 x9 x10 : Bool) := kT Try.prog bO.cls Try.f32 bO.cuts [1, 1, 1, 1, 0, 1] [n0] n0 ⟨[(49, (.pv (.one (.b (.q x0))))), (13, (.pv (.one (.b (.q x1))))), (9, (.pv (.one (.p 0 0)))), (3, (.pv (.one (.i .u32 (.x x2))))), (2, (.pv (.one (.i .u32 (.x x3))))), (1, (.pv (.one (.i .i64 (.x x4))))), (0, (.pv (.one (.i .i64 (.x x5)))))], [(0, (60, [(.c (.b (.q x6))), (.c (.b (.q x7))), (.c (.b (.q x8))), (.c (.b (.q x9))), (.c (.b (.q x10)))]))], 1⟩ bO.K
theorem bO.eq (n0 : Nat) (a0 a1 : Int) (a2 a3 : Int) : bO.f n0 a0 a1 a2 a3 = ((aQ.f n0 a0 [a2, a3]).bind fun t0 => (if t0.2.2.2.2.2.2 = true then (some ((t0.1, t0.2.1, t0.2.2.1, t0.2.2.2.1, t0.2.2.2.2.1, t0.2.2.2.2.2.1))) else ((bV.f n0 a0 a2 a3).bind fun t1 => (if t1 = true then ((dJ.f a0).bind fun t2 => (some ((t2.1, t2.2.1, t2.2.2.1, t2.2.2.2.1, t2.2.2.2.2.1, t2.2.2.2.2.2)))) else ((bG.f a0 a2).bind fun t2 => ((bG.f a0 a3).bind fun t3 => ((aD.f n0 a0 a2).bind fun t4 => (if t4 = true then (bO.j8 n0 (true) (!(t2 == t3)) (a3) (a2) (a1) (a0) (false) (false) (false) (false) (false)) else ((aD.f n0 a0 a3).bind fun t5 => (bO.j8 n0 (t5) (!(t2 == t3)) (a3) (a2) (a1) (a0) (false) (false) (false) (false) (false))))))))))) := by kernel_rfl
theorem bO.j8_eq (n0 : Nat) (x0 x1 : Bool) (x2 x3 : Int) (x4 x5 : Int) (x6 x7 : Bool) (x8 x9 x10 : Bool) : bO.j8 n0 x0 x1 x2 x3 x4 x5 x6 x7 x8 x9 x10 = (if x0 = true then ((bH.f x5 x1).bind fun t0 => (some ((t0, false, false, false, false, false)))) else ((cK.f x5 x3 x2).bind fun t0 => ((aA.f n0 x5 x4 x1 t0.2.1 t0.2.2.1 false).bind fun t1 => (some ((t1.1, t1.2.1, t1.2.2.1, t1.2.2.2.1, t1.2.2.2.2.1, t1.2.2.2.2.2)))))) := by kernel_rfl
noncomputable def aN.j10 (n0 : Nat) (x0 x1 x2 : Bool) (x3 x4 : Int) (x5 x6 x7 : Int) (x8 x9 : Bool) (x10 x11 x12 : Bool) := kT Try.prog aN.cls Try.f61 aN.cuts [1, 1, 1, 1, 1, 1] [n0] n0 ⟨[(18, (.pv (.one (.b (.q x0))))), (17, (.pv (.one (.b (.q x1))))), (16, (.pv (.one (.b (.q x2))))), (11, (.pv (.one (.p 0 0)))), (4, (.pv (.one (.i .u32 (.x x3))))), (3, (.pv (.one (.i .u32 (.x x4))))), (2, (.pv (.one (.i .u32 (.x x5))))), (1, (.pv (.one (.i .i64 (.x x6))))), (0, (.pv (.one (.i .i64 (.x x7)))))], [(0, (60, [(.c (.b (.q x8))), (.c (.b (.q x9))), (.c (.b (.q x10))), (.c (.b (.q x11))), (.c (.b (.q x12)))]))], 1⟩ aN.K
noncomputable def aN.j11 (n0 : Nat) (x0 x1 : Bool) (x2 x3 : Bool) (x4 x5 : Int) (x6 x7 x8 : Int) (x9 x10 : Bool) (x11 x12 x13 : Bool) := kT Try.prog aN.cls Try.f61 aN.cuts [1, 1, 1, 1, 1, 1, 0, 1] [n0] n0 ⟨[(71, (.pv (.one (.b (.q x0))))), (18, (.pv (.one (.b (.q x1))))), (17, (.pv (.one (.b (.q x2))))), (16, (.pv (.one (.b (.q x3))))), (11, (.pv (.one (.p 0 0)))), (4, (.pv (.one (.i .u32 (.x x4))))), (3, (.pv (.one (.i .u32 (.x x5))))), (2, (.pv (.one (.i .u32 (.x x6))))), (1, (.pv (.one (.i .i64 (.x x7))))), (0, (.pv (.one (.i .i64 (.x x8)))))], [(0, (60, [(.c (.b (.q x9))), (.c (.b (.q x10))), (.c (.b (.q x11))), (.c (.b (.q x12))), (.c (.b (.q x13)))]))], 1⟩ aN.K
noncomputable def aN.j15 (n0 : Nat) (x0 x1 : Bool) (x2 x3 : Int) (x4 : Bool) (x5 x6 : Int) (x7 x8 : Bool) (x9 x10 : Int) (x11 x12 : Bool) (x13 x14 : Bool) (x15 x16 : Bool) := kT Try.prog aN.cls Try.f61 aN.cuts [1, 1, 1, 1, 1, 1, 1, 1, 1, 0, 1] [n0] n0 ⟨[(99, (.pv (.one (.b (.q x0))))), (21, (.pv (.one (.p 3 0)))), (20, (.pv (.one (.p 2 0)))), (16, (.pv (.one (.b (.q x1))))), (11, (.pv (.one (.p 0 0)))), (1, (.pv (.one (.i .i64 (.x x2))))), (0, (.pv (.one (.i .i64 (.x x3)))))], [(3, (84, [(.c (.b (.q x4))), (.c (.i .i64 (.x x5))), (.c (.i .u64 (.x x6))), (.c (.b (.q x7)))])), (2, (84, [(.c (.b (.q x8))), (.c (.i .i64 (.x x9))), (.c (.i .u64 (.x x10))), (.c (.b (.q x11)))])), (0, (60, [(.c (.b (.q x12))), (.c (.b (.q x13))), (.c (.b (.q x14))), (.c (.b (.q x15))), (.c (.b (.q x16)))]))], 4⟩ aN.K
theorem aN.eq (n0 : Nat) (a0 a1 : Int) (a2 a3 a4 : Int) : aN.f n0 a0 a1 a2 a3 a4 = ((bV.f n0 a0 a2 a3).bind fun t0 => ((aQ.f n0 a0 [a2, a3, a4]).bind fun t1 => (if t1.2.2.2.2.2.2 = true then (if t1.2.1 = true then (some ((t1.1, true, t1.2.2.1, t1.2.2.2.1, t1.2.2.2.2.1, t1.2.2.2.2.2.1))) else (some ((t1.1, t0, t1.2.2.1, t1.2.2.2.1, t1.2.2.2.2.1, t1.2.2.2.2.2.1)))) else (if t0 = true then ((dJ.f a0).bind fun t2 => (some ((t2.1, t2.2.1, t2.2.2.1, t2.2.2.2.1, t2.2.2.2.2.1, t2.2.2.2.2.2)))) else ((bG.f a0 a2).bind fun t2 => ((bG.f a0 a3).bind fun t3 => ((aD.f n0 a0 a2).bind fun t4 => (if t4 = true then ((aD.f n0 a0 a4).bind fun t5 => (aN.j10 n0 (t5) (true) (!(t2 == t3)) (a4) (a3) (a2) (a1) (a0) (false) (false) (false) (false) (false))) else ((aD.f n0 a0 a3).bind fun t5 => ((aD.f n0 a0 a4).bind fun t6 => (aN.j10 n0 (t6) (t5) (!(t2 == t3)) (a4) (a3) (a2) (a1) (a0) (false) (false) (false) (false) (false)))))))))))) := by kernel_rfl
theorem aN.yI (n0 : Nat) (x0 x1 x2 : Bool) (x3 x4 : Int) (x5 x6 x7 : Int) (x8 x9 : Bool) (x10 x11 x12 : Bool) : aN.j10 n0 x0 x1 x2 x3 x4 x5 x6 x7 x8 x9 x10 x11 x12 = (if x1 = true then (aN.j11 n0 (true) (x0) (x1) (x2) (x3) (x4) (x5) (x6) (x7) (x8) (x9) (x10) (x11) (x12)) else (aN.j11 n0 (x0) (x0) (x1) (x2) (x3) (x4) (x5) (x6) (x7) (x8) (x9) (x10) (x11) (x12))) := by kernel_rfl
theorem aN.rG (n0 : Nat) (x0 x1 : Bool) (x2 x3 : Bool) (x4 x5 : Int) (x6 x7 x8 : Int) (x9 x10 : Bool) (x11 x12 x13 : Bool) : aN.j11 n0 x0 x1 x2 x3 x4 x5 x6 x7 x8 x9 x10 x11 x12 x13 = (if x0 = true then ((bG.f x8 x4).bind fun t0 => ((aM.f n0 x8 x3 t0 x2 x1).bind fun t1 => (some ((t1.1, t1.2.1, t1.2.2.1, t1.2.2.2.1, t1.2.2.2.2.1, t1.2.2.2.2.2))))) else ((cK.f x8 x6 x5).bind fun t0 => ((dL.f x8 x4).bind fun t1 => ((Ytfapjegkilljnaa.L.aG.f n0 t0.1 t0.2.1 t0.2.2.1 t0.2.2.2 t1.1 t1.2.1 t1.2.2.1 t1.2.2.2).bind fun t2 => (if t2.2.2.1 = 0 then (aN.j15 n0 (!t2.2.2.2) (x3) (x7) (x8) (t2.1) t2.2.1 t2.2.2.1 (t2.2.2.2) (t1.1) t1.2.1 t1.2.2.1 (t1.2.2.2) (x9) (x10) (x11) (x12) (x13)) else (aN.j15 n0 (false) (x3) (x7) (x8) (t2.1) t2.2.1 t2.2.2.1 (t2.2.2.2) (t1.1) t1.2.1 t1.2.2.1 (t1.2.2.2) (x9) (x10) (x11) (x12) (x13))))))) := by kernel_rfl
theorem aN.j15_eq (n0 : Nat) (x0 x1 : Bool) (x2 x3 : Int) (x4 : Bool) (x5 x6 : Int) (x7 x8 : Bool) (x9 x10 : Int) (x11 x12 : Bool) (x13 x14 : Bool) (x15 x16 : Bool) : aN.j15 n0 x0 x1 x2 x3 x4 x5 x6 x7 x8 x9 x10 x11 x12 x13 x14 x15 x16 = (if x0 = true then ((dF.f x3 x2 x1 x8).bind fun t0 => (some ((t0, false, false, false, false, false)))) else ((aA.f n0 x3 x2 x4 x5 x6 x7).bind fun t0 => (some ((t0.1, t0.2.1, t0.2.2.1, t0.2.2.2.1, t0.2.2.2.2.1, t0.2.2.2.2.2))))) := by kernel_rfl
noncomputable def aU.j7 (n0 : Nat) (x0 : Bool) (x1 x2 : Int) (x3 : Bool) (x4 x5 : Int) (x6 x7 : Int) (x8 x9 : Bool) (x10 x11 x12 : Bool) := kT Try.prog aU.cls Try.f90 aU.cuts [1, 1, 1, 1, 0, 0, 1] [n0] n0 ⟨[(46, (.pv (.one (.b (.q x0))))), (15, (.pv (.one (.i .i64 (.x x1))))), (14, (.pv (.one (.i .i64 (.x x2))))), (13, (.pv (.one (.b (.q x3))))), (9, (.pv (.one (.p 0 0)))), (3, (.pv (.one (.i .u32 (.x x4))))), (2, (.pv (.one (.i .u32 (.x x5))))), (1, (.pv (.one (.i .i64 (.x x6))))), (0, (.pv (.one (.i .i64 (.x x7)))))], [(0, (60, [(.c (.b (.q x8))), (.c (.b (.q x9))), (.c (.b (.q x10))), (.c (.b (.q x11))), (.c (.b (.q x12)))]))], 1⟩ aU.K
noncomputable def aU.j11 (n0 : Nat) (x0 : Bool) (x1 : Int) (x2 : Bool) (x3 x4 : Int) (x5 x6 : Int) (x7 x8 : Bool) (x9 x10 x11 : Bool) := kT Try.prog aU.cls Try.f90 aU.cuts [1, 1, 1, 1, 0, 0, 1, 1, 1, 1, 1] [n0] n0 ⟨[(69, (.pv (.one (.b (.q x0))))), (15, (.pv (.one (.i .i64 (.x x1))))), (13, (.pv (.one (.b (.q x2))))), (9, (.pv (.one (.p 0 0)))), (3, (.pv (.one (.i .u32 (.x x3))))), (2, (.pv (.one (.i .u32 (.x x4))))), (1, (.pv (.one (.i .i64 (.x x5))))), (0, (.pv (.one (.i .i64 (.x x6)))))], [(0, (60, [(.c (.b (.q x7))), (.c (.b (.q x8))), (.c (.b (.q x9))), (.c (.b (.q x10))), (.c (.b (.q x11)))]))], 1⟩ aU.K
theorem aU.eq (n0 : Nat) (a0 a1 : Int) (a2 a3 : Int) : aU.f n0 a0 a1 a2 a3 = ((aQ.f n0 a0 [a2, a3]).bind fun t0 => (if t0.2.2.2.2.2.2 = true then (some ((t0.1, t0.2.1, t0.2.2.1, t0.2.2.2.1, t0.2.2.2.2.1, t0.2.2.2.2.2.1))) else ((bG.f a0 a2).bind fun t1 => ((bG.f a0 a3).bind fun t2 => ((aI.f n0 a0 a2).bind fun t3 => ((aI.f n0 a0 a3).bind fun t4 => (if t3 = t4 then (if t3 = 0 then (aU.j7 n0 (true) (t4) (t3) (!(t1 == t2)) (a3) (a2) (a1) (a0) (false) (false) (false) (false) (false)) else (aU.j7 n0 (Decidable.rec (fun h => false) (fun h => true) (Int.instDecidableEq t3 3)) (t4) (t3) (!(t1 == t2)) (a3) (a2) (a1) (a0) (false) (false) (false) (false) (false))) else (aU.j7 n0 (false) (t4) (t3) (!(t1 == t2)) (a3) (a2) (a1) (a0) (false) (false) (false) (false) (false))))))))) := by kernel_rfl
theorem aU.j7_eq (n0 : Nat) (x0 : Bool) (x1 x2 : Int) (x3 : Bool) (x4 x5 : Int) (x6 x7 : Int) (x8 x9 : Bool) (x10 x11 x12 : Bool) : aU.j7 n0 x0 x1 x2 x3 x4 x5 x6 x7 x8 x9 x10 x11 x12 = (if x0 = true then ((dJ.f x7).bind fun t0 => (some ((t0.1, t0.2.1, t0.2.2.1, t0.2.2.2.1, t0.2.2.2.2.1, t0.2.2.2.2.2)))) else (if x2 = 3 then ((bH.f x7 x3).bind fun t0 => (some ((t0, false, false, false, false, false)))) else (if x1 = 3 then (aU.j11 n0 (true) (x1) (x3) (x4) (x5) (x6) (x7) (x8) (x9) (x10) (x11) (x12)) else (aU.j11 n0 (Decidable.rec (fun h => false) (fun h => true) (Int.instDecidableEq x2 0)) (x1) (x3) (x4) (x5) (x6) (x7) (x8) (x9) (x10) (x11) (x12))))) := by kernel_rfl
theorem aU.rG (n0 : Nat) (x0 : Bool) (x1 : Int) (x2 : Bool) (x3 x4 : Int) (x5 x6 : Int) (x7 x8 : Bool) (x9 x10 x11 : Bool) : aU.j11 n0 x0 x1 x2 x3 x4 x5 x6 x7 x8 x9 x10 x11 = (if x0 = true then ((bR.f x6 x2).bind fun t0 => (some ((t0, false, false, false, false, false)))) else (if x1 = 0 then ((bH.f x6 x2).bind fun t0 => (some ((t0, false, true, false, false, false)))) else ((dL.f x6 x4).bind fun t0 => ((dL.f x6 x3).bind fun t1 => ((bits_Len.f n0 t0.2.2.1).bind fun t2 => ((aH.f n0 t0.2.2.1 (wrap64 (-wrap64 (62 - t2)))).bind fun t3 => (if t1.2.2.1 = 0 then none else (if t1.2.2.1 = 0 then none else ((aA.f n0 x6 x5 x2 (wrap64 (wrap64 (t0.2.1 - wrap64 (62 - t2)) - t1.2.1)) (IntKind.wrap IntKind.u64 (Int.tdiv t3.1 t1.2.2.1)) !Int.tmod t3.1 t1.2.2.1 == 0).bind fun t4 => (some ((t4.1, t4.2.1, t4.2.2.1, t4.2.2.2.1, t4.2.2.2.2.1, t4.2.2.2.2.2)))))))))))) := by kernel_rfl
noncomputable def bA.j6 (n0 : Nat) (x0 x1 x2 : Bool) (x3 x4 : Int) (x5 x6 : Int) (x7 x8 : Bool) (x9 x10 x11 : Bool) := kT Try.prog bA.cls Try.f102 bA.cuts [1, 1, 1, 0, 1] [n0] n0 ⟨[(39, (.pv (.one (.b (.q x0))))), (14, (.pv (.one (.b (.q x1))))), (13, (.pv (.one (.b (.q x2))))), (9, (.pv (.one (.p 0 0)))), (3, (.pv (.one (.i .u32 (.x x3))))), (2, (.pv (.one (.i .u32 (.x x4))))), (1, (.pv (.one (.i .i64 (.x x5))))), (0, (.pv (.one (.i .i64 (.x x6)))))], [(0, (60, [(.c (.b (.q x7))), (.c (.b (.q x8))), (.c (.b (.q x9))), (.c (.b (.q x10))), (.c (.b (.q x11)))]))], 1⟩ bA.K
noncomputable def bA.j10 (n0 : Nat) (x0 : Bool) (x1 x2 : Int) (x3 : Bool) (x4 x5 : Int) (x6 x7 : Bool) (x8 x9 : Int) (x10 x11 : Bool) (x12 x13 : Int) (x14 x15 : Bool) (x16 x17 : Bool) (x18 x19 : Bool) := kT Try.prog bA.cls Try.f102 bA.cuts [1, 1, 1, 1, 1, 1, 0, 1] [n0] n0 ⟨[(68, (.pv (.one (.b (.q x0))))), (17, (.pv (.one (.p 3 0)))), (16, (.pv (.one (.p 2 0)))), (15, (.pv (.one (.p 1 0)))), (9, (.pv (.one (.p 0 0)))), (1, (.pv (.one (.i .i64 (.x x1))))), (0, (.pv (.one (.i .i64 (.x x2)))))], [(3, (84, [(.c (.b (.q x3))), (.c (.i .i64 (.x x4))), (.c (.i .u64 (.x x5))), (.c (.b (.q x6)))])), (2, (84, [(.c (.b (.q x7))), (.c (.i .i64 (.x x8))), (.c (.i .u64 (.x x9))), (.c (.b (.q x10)))])), (1, (84, [(.c (.b (.q x11))), (.c (.i .i64 (.x x12))), (.c (.i .u64 (.x x13))), (.c (.b (.q x14)))])), (0, (60, [(.c (.b (.q x15))), (.c (.b (.q x16))), (.c (.b (.q x17))), (.c (.b (.q x18))), (.c (.b (.q x19)))]))], 4⟩ bA.K
theorem bA.eq (n0 : Nat) (a0 a1 : Int) (a2 a3 : Int) : bA.f n0 a0 a1 a2 a3 = ((aQ.f n0 a0 [a2, a3]).bind fun t0 => (if t0.2.2.2.2.2.2 = true then (some ((t0.1, t0.2.1, t0.2.2.1, t0.2.2.2.1, t0.2.2.2.2.1, t0.2.2.2.2.2.1))) else ((aD.f n0 a0 a2).bind fun t1 => ((aD.f n0 a0 a3).bind fun t2 => (if t1 = true then (bA.j6 n0 (true) (t2) (t1) (a3) (a2) (a1) (a0) (false) (false) (false) (false) (false)) else (bA.j6 n0 (t2) (t2) (t1) (a3) (a2) (a1) (a0) (false) (false) (false) (false) (false))))))) := by kernel_rfl
theorem bA.j6_eq (n0 : Nat) (x0 x1 x2 : Bool) (x3 x4 : Int) (x5 x6 : Int) (x7 x8 : Bool) (x9 x10 x11 : Bool) : bA.j6 n0 x0 x1 x2 x3 x4 x5 x6 x7 x8 x9 x10 x11 = (if x0 = true then ((bG.f x6 x4).bind fun t0 => ((bG.f x6 x3).bind fun t1 => ((aM.f n0 x6 t0 t1 x2 x1).bind fun t2 => (some ((t2.1, t2.2.1, t2.2.2.1, t2.2.2.2.1, t2.2.2.2.2.1, t2.2.2.2.2.2)))))) else ((dL.f x6 x4).bind fun t0 => ((dL.f x6 x3).bind fun t1 => ((Ytfapjegkilljnaa.L.aG.f n0 t0.1 t0.2.1 t0.2.2.1 t0.2.2.2 t1.1 t1.2.1 t1.2.2.1 t1.2.2.2).bind fun t2 => (if t2.2.2.1 = 0 then (bA.j10 n0 (!t2.2.2.2) (x5) (x6) (t2.1) t2.2.1 t2.2.2.1 (t2.2.2.2) (t1.1) t1.2.1 t1.2.2.1 (t1.2.2.2) (t0.1) t0.2.1 t0.2.2.1 (t0.2.2.2) (x7) (x8) (x9) (x10) (x11)) else (bA.j10 n0 (false) (x5) (x6) (t2.1) t2.2.1 t2.2.2.1 (t2.2.2.2) (t1.1) t1.2.1 t1.2.2.1 (t1.2.2.2) (t0.1) t0.2.1 t0.2.2.1 (t0.2.2.2) (x7) (x8) (x9) (x10) (x11))))))) := by kernel_rfl
theorem bA.yI (n0 : Nat) (x0 : Bool) (x1 x2 : Int) (x3 : Bool) (x4 x5 : Int) (x6 x7 : Bool) (x8 x9 : Int) (x10 x11 : Bool) (x12 x13 : Int) (x14 x15 : Bool) (x16 x17 : Bool) (x18 x19 : Bool) : bA.j10 n0 x0 x1 x2 x3 x4 x5 x6 x7 x8 x9 x10 x11 x12 x13 x14 x15 x16 x17 x18 x19 = (if x0 = true then ((dF.f x2 x1 x11 x7).bind fun t0 => (some ((t0, false, false, false, false, false)))) else ((aA.f n0 x2 x1 x3 x4 x5 x6).bind fun t0 => (some ((t0.1, t0.2.1, t0.2.2.1, t0.2.2.2.1, t0.2.2.2.2.1, t0.2.2.2.2.2))))) := by kernel_rfl
theorem bY.eq (n0 : Nat) (a0 a1 a2 : Int) : bY.f n0 a0 a1 a2 = ((aQ.f n0 a0 [a2]).bind fun t0 => (if t0.2.2.2.2.2.2 = true then (some ((t0.1, t0.2.1, t0.2.2.1, t0.2.2.2.1, t0.2.2.2.2.1, t0.2.2.2.2.2.1))) else ((dL.f a0 a2).bind fun t1 => ((aK.f n0 a0 a2).bind fun t2 => (if t2 = true then ((bR.f a0 t1.1).bind fun t3 => (some ((t3, false, false, false, false, false)))) else (if t1.1 = true then ((dJ.f a0).bind fun t3 => (some ((t3.1, t3.2.1, t3.2.2.1, t3.2.2.2.1, t3.2.2.2.2.1, t3.2.2.2.2.2)))) else ((aD.f n0 a0 a2).bind fun t3 => (if t3 = true then ((bH.f a0 false).bind fun t4 => (some ((t4, false, false, false, false, false)))) else ((bits_Len.f n0 t1.2.2.1).bind fun t4 => (if Int.tmod (wrap64 (t1.2.1 - wrap64 (62 - t4))) 2 = 0 then ((aH.f n0 t1.2.2.1 (wrap64 (-wrap64 (62 - t4)))).bind fun t5 => ((bQ.f n0 t5.1).bind fun t6 => ((aA.f n0 a0 a1 false (wrap64 (Int.tdiv (wrap64 (t1.2.1 - wrap64 (62 - t4))) 2)) (IntKind.wrap IntKind.u64 t6.1) !t6.2).bind fun t7 => (some ((t7.1, t7.2.1, t7.2.2.1, t7.2.2.2.1, t7.2.2.2.2.1, t7.2.2.2.2.2)))))) else ((aH.f n0 t1.2.2.1 (wrap64 (-wrap64 (wrap64 (62 - t4) - 1)))).bind fun t5 => ((bQ.f n0 t5.1).bind fun t6 => ((aA.f n0 a0 a1 false (wrap64 (Int.tdiv (wrap64 (t1.2.1 - wrap64 (wrap64 (62 - t4) - 1))) 2)) (IntKind.wrap IntKind.u64 t6.1) !t6.2).bind fun t7 => (some ((t7.1, t7.2.1, t7.2.2.1, t7.2.2.2.1, t7.2.2.2.2.1, t7.2.2.2.2.2)))))))))))))))) := by kernel_rfl
/- Functions' trees, printed by a tool of mine out of the reckoner; Lean's kernel checks each. -/
set_option maxRecDepth 100000
theorem aX.eq (n0 : Nat) (a0 a1 : Int) (a2 : Bool) : aX.f n0 a0 a1 a2 = (if a1 = 1 then ((bS.f a0 a2).bind fun t0 => (some ((t0, false, false, true, false, true)))) else (if a1 = 2 then (if a2 = true then ((bS.f a0 a2).bind fun t0 => (some ((t0, false, false, true, false, true)))) else ((bH.f a0 a2).bind fun t0 => (some ((t0, false, false, true, false, true))))) else (if a1 = 3 then (if a2 = true then ((bH.f a0 a2).bind fun t0 => (some ((t0, false, false, true, false, true)))) else ((bS.f a0 a2).bind fun t0 => (some ((t0, false, false, true, false, true))))) else ((bH.f a0 a2).bind fun t0 => (some ((t0, false, false, true, false, true))))))) := by kernel_rfl
noncomputable def aG.j7 (n0 : Nat) (x0 x1 : Bool) (x2 x3 : Int) (x4 x5 : Bool) (x6 x7 : Int) (x8 x9 : Bool) (x10 x11 : Int) (x12 : Bool) := kT Try.prog aG.cls Try.f92 aG.cuts [1, 1, 1, 0, 1] [n0] n0 ⟨[(39, (.pv (.one (.b (.q x0))))), (4, (.pv (.one (.p 2 0)))), (3, (.pv (.one (.p 1 0)))), (2, (.pv (.one (.p 0 0))))], [(2, (84, [(.c (.b (.q x1))), (.c (.i .i64 (.x x2))), (.c (.i .u64 (.x x3))), (.c (.b (.q x4)))])), (1, (84, [(.c (.b (.q x5))), (.c (.i .i64 (.x x6))), (.c (.i .u64 (.x x7))), (.c (.b (.q x8)))])), (0, (84, [(.c (.b (.q x9))), (.c (.i .i64 (.x x10))), (.c (.i .u64 (.x x11))), (.c (.b (.q x12)))]))], 3⟩ aG.K
noncomputable def aG.j8 (n0 : Nat) (x0 : Bool) (x1 x2 : Int) (x3 x4 : Bool) (x5 x6 : Int) (x7 x8 : Bool) (x9 x10 : Int) (x11 : Bool) := kT Try.prog aG.cls Try.f92 aG.cuts [1, 1, 1, 1] [n0] n0 ⟨[(4, (.pv (.one (.p 2 0)))), (3, (.pv (.one (.p 1 0)))), (2, (.pv (.one (.p 0 0))))], [(2, (84, [(.c (.b (.q x0))), (.c (.i .i64 (.x x1))), (.c (.i .u64 (.x x2))), (.c (.b (.q x3)))])), (1, (84, [(.c (.b (.q x4))), (.c (.i .i64 (.x x5))), (.c (.i .u64 (.x x6))), (.c (.b (.q x7)))])), (0, (84, [(.c (.b (.q x8))), (.c (.i .i64 (.x x9))), (.c (.i .u64 (.x x10))), (.c (.b (.q x11)))]))], 3⟩ aG.K
noncomputable def aG.j16 (n0 : Nat) (x0 : Bool) (x1 x2 : Int) (x3 x4 : Bool) (x5 x6 : Int) (x7 : Bool) := kT Try.prog aG.cls Try.f92 aG.cuts [1, 1, 1, 1, 1, 1, 1, 1, 1] [n0] n0 ⟨[(4, (.pv (.one (.p 2 0)))), (2, (.pv (.one (.p 0 0))))], [(2, (84, [(.c (.b (.q x0))), (.c (.i .i64 (.x x1))), (.c (.i .u64 (.x x2))), (.c (.b (.q x3)))])), (0, (84, [(.c (.b (.q x4))), (.c (.i .i64 (.x x5))), (.c (.i .u64 (.x x6))), (.c (.b (.q x7)))]))], 3⟩ aG.K
theorem aG.eq (n0 : Nat) (a0_0 : Bool) (a0_1 a0_2 : Int) (a0_3 a1_0 : Bool) (a1_1 a1_2 : Int) (a1_3 : Bool) : aG.f n0 a0_0 a0_1 a0_2 a0_3 a1_0 a1_1 a1_2 a1_3 = (if a0_2 = 0 then (some ((a1_0, a1_1, a1_2, a1_3))) else (if a1_2 = 0 then (some ((a0_0, a0_1, a0_2, a0_3))) else ((dA.f n0 a0_0 a0_1 a0_2 a0_3).bind fun t0 => ((dA.f n0 a1_0 a1_1 a1_2 a1_3).bind fun t1 => (if t0.2.1 < t1.2.1 then (aG.j7 n0 (true) (false) (Int.ofNat 0) (Int.ofNat 0) (false) (t1.1) t1.2.1 t1.2.2.1 (t1.2.2.2) (t0.1) t0.2.1 t0.2.2.1 (t0.2.2.2)) else (if t0.2.1 = t1.2.1 then (aG.j7 n0 (Decidable.rec (fun h => false) (fun h => true) (Int.decLt t0.2.2.1 t1.2.2.1)) (false) (Int.ofNat 0) (Int.ofNat 0) (false) (t1.1) t1.2.1 t1.2.2.1 (t1.2.2.2) (t0.1) t0.2.1 t0.2.2.1 (t0.2.2.2)) else (aG.j7 n0 (false) (false) (Int.ofNat 0) (Int.ofNat 0) (false) (t1.1) t1.2.1 t1.2.2.1 (t1.2.2.2) (t0.1) t0.2.1 t0.2.2.1 (t0.2.2.2)))))))) := by kernel_rfl
theorem aG.j7_eq (n0 : Nat) (x0 x1 : Bool) (x2 x3 : Int) (x4 x5 : Bool) (x6 x7 : Int) (x8 x9 : Bool) (x10 x11 : Int) (x12 : Bool) : aG.j7 n0 x0 x1 x2 x3 x4 x5 x6 x7 x8 x9 x10 x11 x12 = (if x0 = true then (aG.j8 n0 (x1) (x2) (x3) (x4) (x9) (x10) (x11) (x12) (x5) (x6) (x7) (x8)) else (aG.j8 n0 (x1) (x2) (x3) (x4) (x5) (x6) (x7) (x8) (x9) (x10) (x11) (x12))) := by kernel_rfl
theorem aG.j8_eq (n0 : Nat) (x0 : Bool) (x1 x2 : Int) (x3 x4 : Bool) (x5 x6 : Int) (x7 x8 : Bool) (x9 x10 : Int) (x11 : Bool) : aG.j8 n0 x0 x1 x2 x3 x4 x5 x6 x7 x8 x9 x10 x11 = ((aH.f n0 x6 (wrap64 (x9 - x5))).bind fun t0 => (if (x8 == x4) = true then (some ((x8, x9, IntKind.wrap IntKind.u64 (x10 + t0.1), t0.2))) else (if t0.2 = true then (aG.j16 n0 (x0) (x1) (x2) (x3) (x8) (x9) (IntKind.wrap IntKind.u64 (IntKind.wrap IntKind.u64 (x10 - t0.1) - 1)) (t0.2)) else (aG.j16 n0 (x0) (x1) (x2) (x3) (x8) (x9) (IntKind.wrap IntKind.u64 (x10 - t0.1)) (t0.2))))) := by kernel_rfl
theorem aG.j16_eq (n0 : Nat) (x0 : Bool) (x1 x2 : Int) (x3 x4 : Bool) (x5 x6 : Int) (x7 : Bool) : aG.j16 n0 x0 x1 x2 x3 x4 x5 x6 x7 = (some ((x4, x5, x6, x7))) := by kernel_rfl
theorem aW.eq (n0 : Nat) (a0 a1 : Int) : aW.f n0 a0 a1 = ((aV.f a0).bind fun t0 => (if 0 ≤ t0.1 then (if 0 ≤ t0.2 then (if 0 ≤ t0.2 then (if 0 ≤ t0.2 then (if 0 ≤ t0.2 then (if 0 ≤ t0.2 then (if shl IntKind.u32 3 t0.2 = 0 then none else (if 0 ≤ t0.2 then (if 0 ≤ t0.2 then (if 0 ≤ t0.2 then (if 0 ≤ t0.2 then (if 0 ≤ wrap64 (t0.2 - 1) then (if 0 ≤ t0.2 then (if shl IntKind.u32 9 t0.2 = 0 then none else (if 0 ≤ Int.tmod a1 15 then (if Int.tmod a1 15 < ↑15 then ((bZ.f a0).bind fun t1 => (if shr IntKind.u32 a1 31 = 1 then ((aY.f a0 true).bind fun t2 => (some (bits BinOp.or IntKind.u32 (bits BinOp.and IntKind.u32 (rd [0, 1, (shl IntKind.u32 1 t0.2 - 1) % 4294967296, shl IntKind.u32 1 t0.2, shl IntKind.u32 (shr IntKind.u32 ((shl IntKind.u32 1 t0.1 - 1) % 4294967296) 1) t0.2, (shl IntKind.u32 (shr IntKind.u32 ((shl IntKind.u32 1 t0.1 - 1) % 4294967296) 1) t0.2 + 1) % 4294967296, (shl IntKind.u32 (shr IntKind.u32 ((shl IntKind.u32 1 t0.1 - 1) % 4294967296) 1) t0.2 - 1) % 4294967296, (shl IntKind.u32 (shr IntKind.u32 ((shl IntKind.u32 1 t0.1 - 1) % 4294967296) 1) t0.2 + shl IntKind.u32 1 t0.2) % 4294967296, (shl IntKind.u32 (shr IntKind.u32 ((shl IntKind.u32 1 t0.1 - 1) % 4294967296) 1) t0.2 + Int.tmod (shr IntKind.u32 a1 4) (shl IntKind.u32 3 t0.2)) % 4294967296, (shl IntKind.u32 ((shl IntKind.u32 1 t0.1 - 1) % 4294967296) t0.2 - 1) % 4294967296, shl IntKind.u32 ((shl IntKind.u32 1 t0.1 - 1) % 4294967296) t0.2, bits BinOp.or IntKind.u32 (shl IntKind.u32 ((shl IntKind.u32 1 t0.1 - 1) % 4294967296) t0.2) 1, bits BinOp.or IntKind.u32 (shl IntKind.u32 ((shl IntKind.u32 1 t0.1 - 1) % 4294967296) t0.2) (shl IntKind.u32 1 (wrap64 (t0.2 - 1))), (shl IntKind.u32 (shr IntKind.u32 ((shl IntKind.u32 1 t0.1 - 1) % 4294967296) 1) t0.2 - Int.tmod (shr IntKind.u32 a1 4) (shl IntKind.u32 9 t0.2)) % 4294967296, shr IntKind.u32 a1 4] (Int.tmod a1 15)) t1) t2))) else (some (bits BinOp.and IntKind.u32 (rd [0, 1, (shl IntKind.u32 1 t0.2 - 1) % 4294967296, shl IntKind.u32 1 t0.2, shl IntKind.u32 (shr IntKind.u32 ((shl IntKind.u32 1 t0.1 - 1) % 4294967296) 1) t0.2, (shl IntKind.u32 (shr IntKind.u32 ((shl IntKind.u32 1 t0.1 - 1) % 4294967296) 1) t0.2 + 1) % 4294967296, (shl IntKind.u32 (shr IntKind.u32 ((shl IntKind.u32 1 t0.1 - 1) % 4294967296) 1) t0.2 - 1) % 4294967296, (shl IntKind.u32 (shr IntKind.u32 ((shl IntKind.u32 1 t0.1 - 1) % 4294967296) 1) t0.2 + shl IntKind.u32 1 t0.2) % 4294967296, (shl IntKind.u32 (shr IntKind.u32 ((shl IntKind.u32 1 t0.1 - 1) % 4294967296) 1) t0.2 + Int.tmod (shr IntKind.u32 a1 4) (shl IntKind.u32 3 t0.2)) % 4294967296, (shl IntKind.u32 ((shl IntKind.u32 1 t0.1 - 1) % 4294967296) t0.2 - 1) % 4294967296, shl IntKind.u32 ((shl IntKind.u32 1 t0.1 - 1) % 4294967296) t0.2, bits BinOp.or IntKind.u32 (shl IntKind.u32 ((shl IntKind.u32 1 t0.1 - 1) % 4294967296) t0.2) 1, bits BinOp.or IntKind.u32 (shl IntKind.u32 ((shl IntKind.u32 1 t0.1 - 1) % 4294967296) t0.2) (shl IntKind.u32 1 (wrap64 (t0.2 - 1))), (shl IntKind.u32 (shr IntKind.u32 ((shl IntKind.u32 1 t0.1 - 1) % 4294967296) 1) t0.2 - Int.tmod (shr IntKind.u32 a1 4) (shl IntKind.u32 9 t0.2)) % 4294967296, shr IntKind.u32 a1 4] (Int.tmod a1 15)) t1)))) else none) else none)) else none) else none) else none) else none) else none) else none)) else none) else none) else none) else none) else none) else none)) := by kernel_rfl
end Go.Proofs.Ytfapjegkilljnaa.L

/- What the reckoner tells of printed functions. -/
namespace Go.Proofs.Ytfapjegkilljnaa.P
open Go.RowKit Go.Proofs.YtfapjegkilljnaaW.PrintWords Go.Proofs.YtfapjegkilljnaaW.PrintLast Go.Proofs.YtfapjegkilljnaaW.PrintMore
set_option maxRecDepth 100000
set_option maxHeartbeats 4000000 in
theorem aX.le {k n : Nat} (hk : k ≤ n) {a0 a1 : Int} {a2 : Bool} : LeO (aX.f a0 a1 a2) (L.aX.f n a0 a1 a2) := by
 unfold aX.f
 rw [L.aX.eq]
 try simp only [Bool.and_true]
 repeat' first
  |(with_reducible exact LeO.refl _)
  |exact LeO.none _
  |(with_reducible first|refine LeO.bind ?_ (fun _ => ?_)|refine LeO.iA Iff.rfl (fun _ => ?_) (fun _ => ?_))
  |exact LeO.refl _
  |(with_reducible first|refine LeO.pos (by assumption) ?_|refine LeO.neg (by assumption) ?_|refine LeO.mV (by assumption) ?_|refine LeO.nE (by assumption) ?_|refine LeO.iA (by omega) (fun _ => ?_) (fun _ => ?_))
theorem aG.iT {k n : Nat} (hk : k ≤ n) {x325000 : Bool} {x325001 x325002 : Int} {x325003 ex0 : Bool} {ex1 ex2 : Int} {ex3 : Bool} : LeO (aG.j2 k x325000 x325001 x325002 x325003) (L.aG.j16 n ex0 ex1 ex2 ex3 x325000 x325001 x325002 x325003) := by
 cases k with
 |zero => rw [aG.j2]; exact LeO.none _
 |succ k =>
 replace hk := Nat.le_of_succ_le hk
 rw [aG.j2, L.aG.j16_eq]
 repeat' first
  |(with_reducible exact LeO.refl _)
  |exact LeO.none _
  |(with_reducible first|exact fun r h => at_rounds (dA.mono _ _ _ _) hk h|exact fun r h => at_rounds (aH.mono _ _) hk h|refine LeO.bind ?_ (fun _ => ?_)|refine LeO.iA Iff.rfl (fun _ => ?_) (fun _ => ?_))
  |exact fun r h => at_rounds (dA.mono _ _ _ _) hk h
  |exact fun r h => at_rounds (aH.mono _ _) hk h
  |exact LeO.refl _
  |(with_reducible first|refine LeO.pos (by assumption) ?_|refine LeO.neg (by assumption) ?_|refine LeO.mV (by assumption) ?_|refine LeO.nE (by assumption) ?_|refine LeO.iA (by omega) (fun _ => ?_) (fun _ => ?_))
theorem aG.iD {k n : Nat} (hk : k ≤ n) {x325000 : Bool} {x325001 x325002 : Int} {x325003 x326000 : Bool} {x326001 x326002 : Int} {x326003 ex0 : Bool} {ex1 ex2 : Int} {ex3 : Bool} : LeO (aG.j1 k x325000 x325001 x325002 x325003 x326000 x326001 x326002 x326003) (L.aG.j8 n ex0 ex1 ex2 ex3 x326000 x326001 x326002 x326003 x325000 x325001 x325002 x325003) := by
 cases k with
 |zero => rw [aG.j1]; exact LeO.none _
 |succ k =>
 replace hk := Nat.le_of_succ_le hk
 rw [aG.j1, L.aG.j8_eq]
 repeat' first
  |(with_reducible exact LeO.refl _)
  |exact LeO.none _
  |(with_reducible first|exact aG.iT hk|exact fun r h => at_rounds (dA.mono _ _ _ _) hk h|exact fun r h => at_rounds (aH.mono _ _) hk h|refine LeO.bind ?_ (fun _ => ?_)|refine LeO.iA Iff.rfl (fun _ => ?_) (fun _ => ?_))
  |exact aG.iT hk
  |exact fun r h => at_rounds (dA.mono _ _ _ _) hk h
  |exact fun r h => at_rounds (aH.mono _ _) hk h
  |exact LeO.refl _
  |(with_reducible first|refine LeO.pos (by assumption) ?_|refine LeO.neg (by assumption) ?_|refine LeO.mV (by assumption) ?_|refine LeO.nE (by assumption) ?_|refine LeO.iA (by omega) (fun _ => ?_) (fun _ => ?_))
theorem aG.jY {k n : Nat} (hk : k ≤ n) {x39 x325000 : Bool} {x325001 x325002 : Int} {x325003 x326000 : Bool} {x326001 x326002 : Int} {x326003 ex1 : Bool} {ex2 ex3 : Int} {ex4 : Bool} : LeO (aG.j0 k x39 x325000 x325001 x325002 x325003 x326000 x326001 x326002 x326003) (L.aG.j7 n x39 ex1 ex2 ex3 ex4 x326000 x326001 x326002 x326003 x325000 x325001 x325002 x325003) := by
 cases k with
 |zero => rw [aG.j0]; exact LeO.none _
 |succ k =>
 replace hk := Nat.le_of_succ_le hk
 rw [aG.j0, L.aG.j7_eq]
 repeat' first
  |(with_reducible exact LeO.refl _)
  |exact LeO.none _
  |(with_reducible first|exact aG.iT hk|exact aG.iD hk|exact fun r h => at_rounds (dA.mono _ _ _ _) hk h|exact fun r h => at_rounds (aH.mono _ _) hk h|refine LeO.bind ?_ (fun _ => ?_)|refine LeO.iA Iff.rfl (fun _ => ?_) (fun _ => ?_))
  |exact aG.iT hk
  |exact aG.iD hk
  |exact fun r h => at_rounds (dA.mono _ _ _ _) hk h
  |exact fun r h => at_rounds (aH.mono _ _) hk h
  |exact LeO.refl _
  |(with_reducible first|refine LeO.pos (by assumption) ?_|refine LeO.neg (by assumption) ?_|refine LeO.mV (by assumption) ?_|refine LeO.nE (by assumption) ?_|refine LeO.iA (by omega) (fun _ => ?_) (fun _ => ?_))
set_option maxHeartbeats 4000000 in
theorem aG.le {k n : Nat} (hk : k ≤ n) {a0_0 : Bool} {a0_1 a0_2 : Int} {a0_3 a1_0 : Bool} {a1_1 a1_2 : Int} {a1_3 : Bool} : LeO (aG.f k a0_0 a0_1 a0_2 a0_3 a1_0 a1_1 a1_2 a1_3) (L.aG.f n a0_0 a0_1 a0_2 a0_3 a1_0 a1_1 a1_2 a1_3) := by
 unfold aG.f
 rw [L.aG.eq]
 try simp only [Bool.and_true]
 repeat' first
  |(with_reducible exact LeO.refl _)
  |exact LeO.none _
  |(with_reducible first|exact aG.iT hk|exact aG.iD hk|exact aG.jY hk|exact fun r h => at_rounds (dA.mono _ _ _ _) hk h|exact fun r h => at_rounds (aH.mono _ _) hk h|refine LeO.bind ?_ (fun _ => ?_)|refine LeO.iA Iff.rfl (fun _ => ?_) (fun _ => ?_))
  |exact aG.iT hk
  |exact aG.iD hk
  |exact aG.jY hk
  |exact fun r h => at_rounds (dA.mono _ _ _ _) hk h
  |exact fun r h => at_rounds (aH.mono _ _) hk h
  |exact LeO.refl _
  |(with_reducible first|refine LeO.pos (by assumption) ?_|refine LeO.neg (by assumption) ?_|refine LeO.mV (by assumption) ?_|refine LeO.nE (by assumption) ?_|refine LeO.iA (by omega) (fun _ => ?_) (fun _ => ?_))
set_option maxHeartbeats 4000000 in
theorem aW.le {k n : Nat} (hk : k ≤ n) {a0 a1 : Int} : LeO (aW.f a0 a1) (L.aW.f n a0 a1) := by
 unfold aW.f
 rw [L.aW.eq]
 try simp only [Bool.and_true]
 repeat' first
  |(with_reducible exact LeO.refl _)
  |exact LeO.none _
  |(with_reducible first|refine LeO.bind ?_ (fun _ => ?_)|refine LeO.iA Iff.rfl (fun _ => ?_) (fun _ => ?_))
  |exact LeO.refl _
  |(with_reducible first|refine LeO.pos (by assumption) ?_|refine LeO.neg (by assumption) ?_|refine LeO.mV (by assumption) ?_|refine LeO.nE (by assumption) ?_|refine LeO.iA (by omega) (fun _ => ?_) (fun _ => ?_))
theorem aW.calls (a0 a1 r : Int) (w : World) (h : aW.f a0 a1 = some r) :
  Calls Try.prog 26 #[.int .i64 a0, .int .u32 a1] w fun e w' => e = .returned (.int .u32 r) ∧ Below w.heap.size w w' :=
 Go.Proofs.Ytfapjegkilljnaa.Ek.jG L.aW.ok 0 ((a0, ()), (a1, ()), ()) r rfl (aW.le (Nat.le_refl _) _ h) w
end Go.Proofs.Ytfapjegkilljnaa.P

/- Functions' trees, printed by a tool of mine out of the reckoner; Lean's kernel checks each. -/
namespace Go.Proofs.Ytfapjegkilljnaa.L
open Go.RowKit Go.Proofs.Ytfapjegkilljnaa.P Go.Proofs.Ytfapjegkilljnaa.Ek Go.Proofs.YtfapjegkilljnaaW.PrintWords Go.Proofs.YtfapjegkilljnaaW.PrintLast Go.Proofs.YtfapjegkilljnaaW.PrintMore
set_option maxRecDepth 100000
noncomputable def aA.j3 (n0 : Nat) (x0 x1 : Bool) (x2 x3 : Int) (x4 : Bool) (x5 x6 : Int) (x7 x8 : Bool) (x9 x10 x11 : Bool) := kT Try.prog aA.cls Try.f56 aA.cuts [1, 1, 0, 1] [n0] n0 ⟨[(29, (.pv (.one (.b (.q x0))))), (13, (.pv (.one (.p 0 0)))), (5, (.pv (.one (.b (.q x1))))), (4, (.pv (.one (.i .u64 (.x x2))))), (3, (.pv (.one (.i .i64 (.x x3))))), (2, (.pv (.one (.b (.q x4))))), (1, (.pv (.one (.i .i64 (.x x5))))), (0, (.pv (.one (.i .i64 (.x x6)))))], [(0, (60, [(.c (.b (.q x7))), (.c (.b (.q x8))), (.c (.b (.q x9))), (.c (.b (.q x10))), (.c (.b (.q x11)))]))], 1⟩ aA.K
noncomputable def aA.j9 (n0 : Nat) (x0 x1 : Int) (x2 x3 : Int) (x4 x5 : Int) (x6 : Bool) (x7 x8 : Int) (x9 x10 : Bool) (x11 x12 x13 : Bool) := kT Try.prog aA.cls Try.f56 aA.cuts [1, 1, 1, 1, 1, 1, 1] [n0] n0 ⟨[(18, (.pv (.one (.i .i64 (.x x0))))), (17, (.pv (.one (.i .u64 (.x x1))))), (16, (.pv (.one (.i .i64 (.x x2))))), (15, (.pv (.one (.i .i64 (.x x3))))), (13, (.pv (.one (.p 0 0)))), (4, (.pv (.one (.i .u64 (.x x4))))), (3, (.pv (.one (.i .i64 (.x x5))))), (2, (.pv (.one (.b (.q x6))))), (1, (.pv (.one (.i .i64 (.x x7))))), (0, (.pv (.one (.i .i64 (.x x8)))))], [(0, (60, [(.c (.b (.q x9))), (.c (.b (.q x10))), (.c (.b (.q x11))), (.c (.b (.q x12))), (.c (.b (.q x13)))]))], 1⟩ aA.K
noncomputable def aA.j11 (n0 : Nat) (x0 x1 : Int) (x2 x3 : Int) (x4 x5 : Int) (x6 : Bool) (x7 x8 : Int) (x9 x10 : Bool) (x11 x12 x13 : Bool) := kT Try.prog aA.cls Try.f56 aA.cuts [1, 1, 1, 1, 1, 1, 1, 1] [n0] n0 ⟨[(18, (.pv (.one (.i .i64 (.x x0))))), (17, (.pv (.one (.i .u64 (.x x1))))), (16, (.pv (.one (.i .i64 (.x x2))))), (15, (.pv (.one (.i .i64 (.x x3))))), (13, (.pv (.one (.p 0 0)))), (4, (.pv (.one (.i .u64 (.x x4))))), (3, (.pv (.one (.i .i64 (.x x5))))), (2, (.pv (.one (.b (.q x6))))), (1, (.pv (.one (.i .i64 (.x x7))))), (0, (.pv (.one (.i .i64 (.x x8)))))], [(0, (60, [(.c (.b (.q x9))), (.c (.b (.q x10))), (.c (.b (.q x11))), (.c (.b (.q x12))), (.c (.b (.q x13)))]))], 1⟩ aA.K
noncomputable def aA.j14 (n0 : Nat) (x0 x1 : Int) (x2 x3 : Int) (x4 x5 : Int) (x6 : Bool) (x7 x8 : Int) (x9 x10 : Bool) (x11 x12 x13 : Bool) := kT Try.prog aA.cls Try.f56 aA.cuts [1, 1, 1, 1, 1, 1, 1, 1, 1, 1] [n0] n0 ⟨[(19, (.pv (.one (.i .i64 (.x x0))))), (18, (.pv (.one (.i .i64 (.x x1))))), (17, (.pv (.one (.i .u64 (.x x2))))), (15, (.pv (.one (.i .i64 (.x x3))))), (13, (.pv (.one (.p 0 0)))), (4, (.pv (.one (.i .u64 (.x x4))))), (3, (.pv (.one (.i .i64 (.x x5))))), (2, (.pv (.one (.b (.q x6))))), (1, (.pv (.one (.i .i64 (.x x7))))), (0, (.pv (.one (.i .i64 (.x x8)))))], [(0, (60, [(.c (.b (.q x9))), (.c (.b (.q x10))), (.c (.b (.q x11))), (.c (.b (.q x12))), (.c (.b (.q x13)))]))], 1⟩ aA.K
theorem aA.eq (n0 : Nat) (a0 a1 : Int) (a2 : Bool) (a3 a4 : Int) (a5 : Bool) : aA.f n0 a0 a1 a2 a3 a4 a5 = (if a4 = 0 then (aA.j3 n0 (!(a5)) (a5) (a4) (mn (mx a3 (-10000)) 10000) (a2) (a1) (a0) (false) (false) (false) (false) (false)) else (aA.j3 n0 (false) (a5) (a4) (mn (mx a3 (-10000)) 10000) (a2) (a1) (a0) (false) (false) (false) (false) (false))) := by kernel_rfl
theorem aA.j3_eq (n0 : Nat) (x0 x1 : Bool) (x2 x3 : Int) (x4 : Bool) (x5 x6 : Int) (x7 x8 : Bool) (x9 x10 x11 : Bool) : aA.j3 n0 x0 x1 x2 x3 x4 x5 x6 x7 x8 x9 x10 x11 = (if x0 = true then ((bR.f x6 x4).bind fun t0 => (some ((t0, false, false, false, false, false)))) else ((aR.f x6).bind fun t0 => ((bN.f n0 x6 x3 x2).bind fun t1 => ((bC.f n0 x2 (wrap64 (t1 - x3)) x1).bind fun t2 => ((eX.f x5 x4 t2.1 t2.2).bind fun t3 => (if t3 = true then (aA.j9 n0 t2.2 (IntKind.wrap IntKind.u64 (t2.1 + 1)) (t1) t0.2 (x2) (x3) (x4) (x5) (x6) (x7) (x8) (x9) (x10) (x11)) else (aA.j9 n0 t2.2 t2.1 (t1) t0.2 (x2) (x3) (x4) (x5) (x6) (x7) (x8) (x9) (x10) (x11)))))))) := by kernel_rfl
theorem aA.j9_eq (n0 : Nat) (x0 x1 : Int) (x2 x3 : Int) (x4 x5 : Int) (x6 : Bool) (x7 x8 : Int) (x9 x10 : Bool) (x11 x12 x13 : Bool) : aA.j9 n0 x0 x1 x2 x3 x4 x5 x6 x7 x8 x9 x10 x11 x12 x13 = (if 0 ≤ IntKind.wrap IntKind.u64 (wrap64 (x3 + 1)) then (if shr IntKind.u64 x1 (IntKind.wrap IntKind.u64 (wrap64 (x3 + 1))) = 0 then (aA.j11 n0 (x0) (x1) (x2) (x3) (x4) (x5) (x6) (x7) (x8) (x9) (x10) (x11) (x12) (x13)) else (aA.j11 n0 (x0) (shr IntKind.u64 x1 1) (wrap64 (x2 + 1)) (x3) (x4) (x5) (x6) (x7) (x8) (x9) (x10) (x11) (x12) (x13))) else none) := by kernel_rfl
theorem aA.rG (n0 : Nat) (x0 x1 : Int) (x2 x3 : Int) (x4 x5 : Int) (x6 : Bool) (x7 x8 : Int) (x9 x10 : Bool) (x11 x12 x13 : Bool) : aA.j11 n0 x0 x1 x2 x3 x4 x5 x6 x7 x8 x9 x10 x11 x12 x13 = ((bE.f x8).bind fun t0 => (if 0 ≤ IntKind.wrap IntKind.u64 x3 then (if shr IntKind.u64 x1 (IntKind.wrap IntKind.u64 x3) = 0 then (aA.j14 n0 (Int.ofNat 0) (x0) (x1) (x3) (x4) (x5) (x6) (x7) (x8) (x9) (x10) (x11) (x12) (x13)) else (aA.j14 n0 (wrap64 (wrap64 (wrap64 (x2 + x3) - t0) + 1)) (x0) (x1) (x3) (x4) (x5) (x6) (x7) (x8) (x9) (x10) (x11) (x12) (x13))) else none)) := by kernel_rfl
theorem aA.j14_eq (n0 : Nat) (x0 x1 : Int) (x2 x3 : Int) (x4 x5 : Int) (x6 : Bool) (x7 x8 : Int) (x9 x10 : Bool) (x11 x12 x13 : Bool) : aA.j14 n0 x0 x1 x2 x3 x4 x5 x6 x7 x8 x9 x10 x11 x12 x13 = ((bP.f x8).bind fun t0 => (if t0 ≤ x0 then ((Ytfapjegkilljnaa.L.aX.f n0 x8 x7 x6).bind fun t1 => (some ((t1.1, t1.2.1, t1.2.2.1, t1.2.2.2.1, t1.2.2.2.2.1, t1.2.2.2.2.2)))) else (if x1 = 0 then ((dX.f x2 x3).bind fun t1 => ((aZ.f x8 x6 x0 (t1 % 4294967296)).bind fun t2 => (some ((t2, false, false, false, false, !x1 == 0))))) else (if x4 = 0 then ((dX.f x2 x3).bind fun t1 => ((aZ.f x8 x6 x0 (t1 % 4294967296)).bind fun t2 => (some ((t2, false, false, false, true, !x1 == 0))))) else ((bits_Len.f n0 x4).bind fun t1 => ((bE.f x8).bind fun t2 => ((dX.f x2 x3).bind fun t3 => ((aZ.f x8 x6 x0 (t3 % 4294967296)).bind fun t4 => (some ((t4, false, false, false, decide (wrap64 (wrap64 (x5 + t1) - 1) < t2), !x1 == 0))))))))))) := by kernel_rfl
end Go.Proofs.Ytfapjegkilljnaa.L

/- What the reckoner tells of printed functions. -/
namespace Go.Proofs.Ytfapjegkilljnaa.P
open Go.RowKit Go.Proofs.YtfapjegkilljnaaW.PrintWords Go.Proofs.YtfapjegkilljnaaW.PrintLast Go.Proofs.YtfapjegkilljnaaW.PrintMore
set_option maxRecDepth 100000
theorem aA.rF {k n : Nat} (hk : k ≤ n) {x0 x1 : Int} {x2 : Bool} {x3 x4 : Int} {x15 x17 : Int} {x18 x19 : Int} {ex9 ex10 : Bool} {ex11 ex12 ex13 : Bool} : LeO (aA.j3 k x0 x1 x2 x3 x4 x15 x17 x18 x19) (L.aA.j14 n x19 x18 x17 x15 x4 x3 x2 x1 x0 ex9 ex10 ex11 ex12 ex13) := by
 cases k with
 |zero => rw [aA.j3]; exact LeO.none _
 |succ k =>
 replace hk := Nat.le_of_succ_le hk
 rw [aA.j3, L.aA.j14_eq]
 repeat' first
  |(with_reducible exact LeO.refl _)
  |exact LeO.none _
  |(with_reducible first|exact fun r h => at_rounds (bN.mono _ _ _) hk h|exact fun r h => at_rounds (bC.mono _ _ _) hk h|exact aX.le hk|exact fun r h => at_rounds (bits_Len.mono _) hk h|refine LeO.bind ?_ (fun _ => ?_)|refine LeO.iA Iff.rfl (fun _ => ?_) (fun _ => ?_))
  |exact fun r h => at_rounds (bN.mono _ _ _) hk h
  |exact fun r h => at_rounds (bC.mono _ _ _) hk h
  |exact aX.le hk
  |exact fun r h => at_rounds (bits_Len.mono _) hk h
  |exact LeO.refl _
  |(with_reducible first|refine LeO.pos (by assumption) ?_|refine LeO.neg (by assumption) ?_|refine LeO.mV (by assumption) ?_|refine LeO.nE (by assumption) ?_|refine LeO.iA (by omega) (fun _ => ?_) (fun _ => ?_))
theorem aA.iT {k n : Nat} (hk : k ≤ n) {x0 x1 : Int} {x2 : Bool} {x3 x4 : Int} {x15 x16 : Int} {x17 x18 : Int} {ex9 ex10 : Bool} {ex11 ex12 ex13 : Bool} : LeO (aA.j2 k x0 x1 x2 x3 x4 x15 x16 x17 x18) (L.aA.j11 n x18 x17 x16 x15 x4 x3 x2 x1 x0 ex9 ex10 ex11 ex12 ex13) := by
 cases k with
 |zero => rw [aA.j2]; exact LeO.none _
 |succ k =>
 replace hk := Nat.le_of_succ_le hk
 rw [aA.j2, L.aA.rG]
 repeat' first
  |(with_reducible exact LeO.refl _)
  |exact LeO.none _
  |(with_reducible first|exact aA.rF hk|exact fun r h => at_rounds (bN.mono _ _ _) hk h|exact fun r h => at_rounds (bC.mono _ _ _) hk h|exact aX.le hk|exact fun r h => at_rounds (bits_Len.mono _) hk h|refine LeO.bind ?_ (fun _ => ?_)|refine LeO.iA Iff.rfl (fun _ => ?_) (fun _ => ?_))
  |exact aA.rF hk
  |exact fun r h => at_rounds (bN.mono _ _ _) hk h
  |exact fun r h => at_rounds (bC.mono _ _ _) hk h
  |exact aX.le hk
  |exact fun r h => at_rounds (bits_Len.mono _) hk h
  |exact LeO.refl _
  |(with_reducible first|refine LeO.pos (by assumption) ?_|refine LeO.neg (by assumption) ?_|refine LeO.mV (by assumption) ?_|refine LeO.nE (by assumption) ?_|refine LeO.iA (by omega) (fun _ => ?_) (fun _ => ?_))
theorem aA.iD {k n : Nat} (hk : k ≤ n) {x0 x1 : Int} {x2 : Bool} {x3 x4 : Int} {x15 x16 : Int} {x17 x18 : Int} {ex9 ex10 : Bool} {ex11 ex12 ex13 : Bool} : LeO (aA.j1 k x0 x1 x2 x3 x4 x15 x16 x17 x18) (L.aA.j9 n x18 x17 x16 x15 x4 x3 x2 x1 x0 ex9 ex10 ex11 ex12 ex13) := by
 cases k with
 |zero => rw [aA.j1]; exact LeO.none _
 |succ k =>
 replace hk := Nat.le_of_succ_le hk
 rw [aA.j1, L.aA.j9_eq]
 repeat' first
  |(with_reducible exact LeO.refl _)
  |exact LeO.none _
  |(with_reducible first|exact aA.rF hk|exact aA.iT hk|exact fun r h => at_rounds (bN.mono _ _ _) hk h|exact fun r h => at_rounds (bC.mono _ _ _) hk h|exact aX.le hk|exact fun r h => at_rounds (bits_Len.mono _) hk h|refine LeO.bind ?_ (fun _ => ?_)|refine LeO.iA Iff.rfl (fun _ => ?_) (fun _ => ?_))
  |exact aA.rF hk
  |exact aA.iT hk
  |exact fun r h => at_rounds (bN.mono _ _ _) hk h
  |exact fun r h => at_rounds (bC.mono _ _ _) hk h
  |exact aX.le hk
  |exact fun r h => at_rounds (bits_Len.mono _) hk h
  |exact LeO.refl _
  |(with_reducible first|refine LeO.pos (by assumption) ?_|refine LeO.neg (by assumption) ?_|refine LeO.mV (by assumption) ?_|refine LeO.nE (by assumption) ?_|refine LeO.iA (by omega) (fun _ => ?_) (fun _ => ?_))
theorem aA.jY {k n : Nat} (hk : k ≤ n) {x0 x1 : Int} {x2 : Bool} {x3 x4 : Int} {x5 x29 : Bool} {ex7 ex8 : Bool} {ex9 ex10 ex11 : Bool} : LeO (aA.j0 k x0 x1 x2 x3 x4 x5 x29) (L.aA.j3 n x29 x5 x4 x3 x2 x1 x0 ex7 ex8 ex9 ex10 ex11) := by
 cases k with
 |zero => rw [aA.j0]; exact LeO.none _
 |succ k =>
 replace hk := Nat.le_of_succ_le hk
 rw [aA.j0, L.aA.j3_eq]
 repeat' first
  |(with_reducible exact LeO.refl _)
  |exact LeO.none _
  |(with_reducible first|exact aA.rF hk|exact aA.iT hk|exact aA.iD hk|exact fun r h => at_rounds (bN.mono _ _ _) hk h|exact fun r h => at_rounds (bC.mono _ _ _) hk h|exact aX.le hk|exact fun r h => at_rounds (bits_Len.mono _) hk h|refine LeO.bind ?_ (fun _ => ?_)|refine LeO.iA Iff.rfl (fun _ => ?_) (fun _ => ?_))
  |exact aA.rF hk
  |exact aA.iT hk
  |exact aA.iD hk
  |exact fun r h => at_rounds (bN.mono _ _ _) hk h
  |exact fun r h => at_rounds (bC.mono _ _ _) hk h
  |exact aX.le hk
  |exact fun r h => at_rounds (bits_Len.mono _) hk h
  |exact LeO.refl _
  |(with_reducible first|refine LeO.pos (by assumption) ?_|refine LeO.neg (by assumption) ?_|refine LeO.mV (by assumption) ?_|refine LeO.nE (by assumption) ?_|refine LeO.iA (by omega) (fun _ => ?_) (fun _ => ?_))
set_option maxHeartbeats 4000000 in
theorem aA.le {k n : Nat} (hk : k ≤ n) {a0 a1 : Int} {a2 : Bool} {a3 a4 : Int} {a5 : Bool} : LeO (aA.f k a0 a1 a2 a3 a4 a5) (L.aA.f n a0 a1 a2 a3 a4 a5) := by
 unfold aA.f
 rw [L.aA.eq]
 try simp only [Bool.and_true]
 repeat' first
  |(with_reducible exact LeO.refl _)
  |exact LeO.none _
  |(with_reducible first|exact aA.rF hk|exact aA.iT hk|exact aA.iD hk|exact aA.jY hk|exact fun r h => at_rounds (bN.mono _ _ _) hk h|exact fun r h => at_rounds (bC.mono _ _ _) hk h|exact aX.le hk|exact fun r h => at_rounds (bits_Len.mono _) hk h|refine LeO.bind ?_ (fun _ => ?_)|refine LeO.iA Iff.rfl (fun _ => ?_) (fun _ => ?_))
  |exact aA.rF hk
  |exact aA.iT hk
  |exact aA.iD hk
  |exact aA.jY hk
  |exact fun r h => at_rounds (bN.mono _ _ _) hk h
  |exact fun r h => at_rounds (bC.mono _ _ _) hk h
  |exact aX.le hk
  |exact fun r h => at_rounds (bits_Len.mono _) hk h
  |exact LeO.refl _
  |(with_reducible first|refine LeO.pos (by assumption) ?_|refine LeO.neg (by assumption) ?_|refine LeO.mV (by assumption) ?_|refine LeO.nE (by assumption) ?_|refine LeO.iA (by omega) (fun _ => ?_) (fun _ => ?_))
attribute [local go_sem] max2_int min2_int max_two min_two max_three min_three max_four min_four

-- NEED 2
/-! ### bY: function 103 -/
def bY.f (k : Nat) (a0 a1 a2 : Int) : Option (Int × Bool × Bool × Bool × Bool × Bool) := (aQ.f k a0 (([a2] : List Int))).bind fun bt538 => (if bt538.2.2.2.2.2.2 = true then (some (bt538.1, bt538.2.1, bt538.2.2.1, bt538.2.2.2.1, bt538.2.2.2.2.1, bt538.2.2.2.2.2.1)) else ((dL.f a0 a2).bind fun bt546 => ((aK.f k a0 a2).bind fun t551 => (if t551 = true then ((bR.f a0 bt546.1).bind fun t552 => (some (t552, false, false, false, false, false))) else (if bt546.1 = true then ((dJ.f a0).bind fun bt553 => (some (bt553.1, bt553.2.1, bt553.2.2.1, bt553.2.2.2.1, bt553.2.2.2.2.1, bt553.2.2.2.2.2))) else ((aD.f k a0 a2).bind fun t559 => (if t559 = true then ((bH.f a0 false).bind fun t560 => (some (t560, false, false, false, false, false))) else ((bits_Len.f k bt546.2.2.1).bind fun t561 => (if (Int.tmod (wrap64 (bt546.2.1 - (wrap64 (62 - t561)))) 2) = 0 then ((aH.f k bt546.2.2.1 (wrap64 (-(wrap64 (62 - t561))))).bind fun bt562 => ((bQ.f k bt562.1).bind fun bt564 => ((aA.f k a0 a1 false (wrap64 (Int.tdiv (wrap64 (bt546.2.1 - (wrap64 (62 - t561)))) 2)) (IntKind.u64.wrap (bt564.1)) (!bt564.2)).bind fun bt566 => (some (bt566.1, bt566.2.1, bt566.2.2.1, bt566.2.2.2.1, bt566.2.2.2.2.1, bt566.2.2.2.2.2))))) else ((aH.f k bt546.2.2.1 (wrap64 (-(wrap64 ((wrap64 (62 - t561)) - 1))))).bind fun bt572 => ((bQ.f k bt572.1).bind fun bt574 => ((aA.f k a0 a1 false (wrap64 (Int.tdiv (wrap64 (bt546.2.1 - (wrap64 ((wrap64 (62 - t561)) - 1)))) 2)) (IntKind.u64.wrap (bt574.1)) (!bt574.2)).bind fun bt576 => (some (bt576.1, bt576.2.1, bt576.2.2.1, bt576.2.2.2.1, bt576.2.2.2.2.1, bt576.2.2.2.2.2))))))))))))))
end Go.Proofs.Ytfapjegkilljnaa.P
