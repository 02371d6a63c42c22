import Derived.Test.YtejkemahdincjaaQstM2
import Derived.LoopN
import Derived.Test.YtejkemahdincjaaQstZ
import Derived.Test.YtejkemahdincjaaQstM1
/- The reckoner's states stand for the machine's; each operation keeps that. -/
set_option linter.unusedVariables false
set_option linter.unusedSimpArgs false
namespace Go.Proofs.Ytejkemahdincjaa.Ek
open Go.RowKit Go.Proofs.YtejkemahdincjaaW.PrintWords Go.Proofs.YtejkemahdincjaaW.PrintLast Go.Proofs.YtejkemahdincjaaW.PrintMore

theorem C.ok_mono {N N' : Nat} (h : N ≤ N') {c : C} (k : c.ok N) : c.ok N' := by
 cases c <;> first | exact Nat.lt_of_lt_of_le k h | exact ⟨Nat.lt_of_lt_of_le k.1 h, k.2⟩ | exact k
theorem S.ok_mono {N N' : Nat} (h : N ≤ N') {s : S} (k : s.ok N) : s.ok N' := by
 cases s with
 |c u => exact C.ok_mono h k
 |a => exact k
theorem oks_mono {N N' : Nat} (h : N ≤ N') {ss : List S} (k : oks N ss) : oks N' ss := by
 induction ss with
 |nil => trivial
 |cons s r ih => exact ⟨S.ok_mono h k.1, ih k.2⟩
theorem PV.ok_mono {N N' : Nat} (h : N ≤ N') {v : PV} (k : v.ok N) : v.ok N' := by
 cases v with
 |one c => exact C.ok_mono h k
 |agg ss => exact oks_mono h k
theorem SV.ok_mono {N N' : Nat} (h : N ≤ N') {v : SV} (k : v.ok N) : v.ok N' := by
 cases v with
 |pv u => exact PV.ok_mono h k
 |tup vs => exact fun u hu => PV.ok_mono h (k u hu)
 |und => trivial
section
variable {m m' : Nat → Nat} {N : Nat}
theorem C.v_congr (h : ∀ g, g < N → m' g = m g) {c : C} (k : c.ok N) : c.v m' = c.v m := by
 cases c with
 |p g o => show Value.pointer (some ⟨m' g, o, none⟩) = _; rw [h g k]; rfl
 |pd g o j n => show Value.pointer (some ⟨m' g, o + j.toNat, none⟩) = _; rw [h g k.1]; rfl
 |sl g o n c => show Value.slice (some ⟨m' g, o, none⟩) n c = _; rw [h g k]; rfl
 |_ => rfl
theorem vals_congr (h : ∀ g, g < N → m' g = m g) {ss : List S} (k : oks N ss) : vals m' ss = vals m ss := by
 induction ss with
 |nil => rfl
 |cons s r ih =>
  have e : s.v m' = s.v m := by
   cases s with
   |c u => show [u.v m'] = [u.v m]; rw [C.v_congr h k.1]
   |a => rfl
  show s.v m' ++ vals m' r = s.v m ++ vals m r
  rw [e, ih k.2]
theorem PV.v_congr (h : ∀ g, g < N → m' g = m g) {v : PV} (k : v.ok N) : v.v m' = v.v m := by
 cases v with
 |one c => exact C.v_congr h k
 |agg ss => show Value.agg _ = Value.agg _; rw [vals_congr h k]
theorem SV.v_congr (h : ∀ g, g < N → m' g = m g) {v : SV} (k : v.ok N) : v.v m' = v.v m := by
 cases v with
 |pv u => exact PV.v_congr h k
 |tup vs =>
  show Value.tuple _ = Value.tuple _
  congr 2
  exact List.map_congr_left fun u hu => PV.v_congr h (k u hu)
 |und => rfl
end

structure Rel (w0 : World) (nt : Nat) (m : Nat → Nat) (s : St) (a : Act) (w : World) : Prop where
 size : a.tmps.size = nt
 dfr : a.defers = []
 env : Knows m s.next s.env a
 heap : ∀ g e ss, look s.heap g = some (e, ss) → g < s.next ∧ oks s.next ss ∧ w.heap[m g]? = some (.cells (vals m ss).toArray e (0, 0)) ∧ w0.heap.size ≤ m g
 inj : ∀ g g', (look s.heap g).isSome = true → (look s.heap g').isSome = true → m g = m g' → g = g'
 bel : Below w0.heap.size w0 w

theorem nbeq {a b : Nat} (h : ¬ a = b) : Nat.beq a b = false := by
 cases hh : Nat.beq a b
 ·rfl
 ·exact absurd (Nat.eq_of_beq_eq_true hh) h
theorem look_cons {α : Type _} (k t : Nat) (v : α) (r : List (Nat × α)) : look ((k, v) :: r) t = if k = t then some v else look r t := by
 by_cases h : k = t
 ·subst h; simp [look]
 ·have : Nat.beq k t = false := nbeq h
  simp [look, this, h]
theorem knows_put {m : Nat → Nat} {N : Nat} {env : List (Nat × SV)} {a : Act} (hk : Knows m N env a) {d : Nat} (hd : d < a.tmps.size) {v : SV} (hv : v.ok N) : Knows m N ((d, v) :: env) (a.put (some d) (v.v m)) := by
 intro t u h
 rw [look_cons] at h
 show u.ok N ∧ (a.tmps.setIfInBounds d (v.v m)).getD t undef = u.v m
 by_cases c : d = t
 ·rw [if_pos c] at h
  cases h
  subst c
  exact ⟨hv, by simp [hd]⟩
 ·rw [if_neg c] at h
  obtain ⟨o, e⟩ := hk t u h
  refine ⟨o, ?_⟩
  rw [← e]
  simp [Array.getD_eq_getD_getElem?, Array.getElem?_setIfInBounds_ne c]
theorem okD_lt {nt d : Nat} (h : okD nt (some d) = true) : d < nt := Nat.le_of_ble_eq_true h
theorem Rel.put {w0 : World} {nt : Nat} {m : Nat → Nat} {s : St} {a : Act} {w : World} (h : Rel w0 nt m s a w) {d : Option Nat} (hd : okD nt d = true) {v : SV} (hv : v.ok s.next) : Rel w0 nt m (s.put d v) (a.put d (v.v m)) w := by
 cases d with
 |none => exact h
 |some d =>
  have hl := okD_lt hd
  exact ⟨by show (a.tmps.setIfInBounds d _).size = nt; rw [Array.size_setIfInBounds]; exact h.size, h.dfr, knows_put h.env (by rw [h.size]; exact hl) hv, h.heap, h.inj, h.bel⟩
theorem Rel.grow {w0 : World} {nt : Nat} {m : Nat → Nat} {s : St} {a : Act} {w w' : World} (h : Rel w0 nt m s a w) (hb : Below w.heap.size w w') : Rel w0 nt m s a w' :=
 ⟨h.size, h.dfr, h.env, fun g e ss hg => by
  obtain ⟨a1, a2, a3, a4⟩ := h.heap g e ss hg
  exact ⟨a1, a2, (hb.block _ (blk_lt a3)).trans a3, a4⟩, h.inj, below_then h.bel h.bel.size hb⟩
theorem Rel.new {w0 : World} {nt : Nat} {m : Nat → Nat} {s : St} {a : Act} {w : World} (h : Rel w0 nt m s a w) {d : Option Nat} (hd : okD nt d = true) {e : Nat} {ss : List S} (ho : oks s.next ss) {v : C}
  (hv : v.ok (s.next + 1)) :
  Rel w0 nt (fun g => if g = s.next then w.heap.size else m g) ⟨match d with
   |some d => (d, .pv (.one v)) :: s.env
   |none => s.env, (s.next, e, ss) :: s.heap, s.next + 1⟩ (a.put d (v.v (fun g => if g = s.next then w.heap.size else m g))) (w.alloc (.cells (vals m ss).toArray e (0, 0))) := by
 have hm : ∀ g, g < s.next → (fun g => if g = s.next then w.heap.size else m g) g = m g := fun g hg => if_neg (Nat.ne_of_lt hg)
 have hk : Knows (fun g => if g = s.next then w.heap.size else m g) (s.next + 1) s.env a := fun t u hu => by
  obtain ⟨o, e⟩ := h.env t u hu
  exact ⟨SV.ok_mono (Nat.le_succ _) o, by rw [e, SV.v_congr hm o]⟩
 have hlt : ∀ g, (look s.heap g).isSome = true → g < s.next ∧ m g < w.heap.size := fun g hg => by
  obtain ⟨⟨e, ss⟩, he⟩ := Option.isSome_iff_exists.mp hg
  obtain ⟨a1, a2, a3, a4⟩ := h.heap g e ss he
  exact ⟨a1, blk_lt a3⟩
 refine ⟨?_, ?_, ?_, ?_, ?_, below_then h.bel h.bel.size (below_alloc (Below.refl _ _) _)⟩
 ·cases d with
  |none => exact h.size
  |some d => show (a.tmps.setIfInBounds d _).size = nt; rw [Array.size_setIfInBounds]; exact h.size
 ·cases d with
  |none => exact h.dfr
  |some d => exact h.dfr
 ·cases d with
  |none => exact hk
  |some d => exact knows_put (v := .pv (.one v)) hk (by rw [h.size]; exact okD_lt hd) hv
 ·intro g e' ss' hg
  rw [look_cons] at hg
  by_cases c : s.next = g
  ·rw [if_pos c] at hg
   cases hg
   subst c
   refine ⟨Nat.lt_succ_self _, oks_mono (Nat.le_succ _) ho, ?_, ?_⟩
   ·rw [vals_congr hm ho]
    simp only [if_true]
    exact blk_new w _
   ·simp only [if_true]
    exact h.bel.size
  ·rw [if_neg c] at hg
   obtain ⟨a1, a2, a3, a4⟩ := h.heap g e' ss' hg
   refine ⟨Nat.lt_succ_of_lt a1, oks_mono (Nat.le_succ _) a2, ?_, ?_⟩
   ·rw [vals_congr hm a2]
    simp only [if_neg (Ne.symm c)]
    exact blk_alloc a3 _
   ·simp only [if_neg (Ne.symm c)]
    exact a4
 ·intro g g' h1 h2 h3
  simp only [look_cons] at h1 h2
  by_cases c : s.next = g
  ·by_cases c' : s.next = g'
   ·omega
   ·rw [if_neg c'] at h2
    have := hlt g' h2
    simp only [if_pos c.symm, if_neg (Ne.symm c')] at h3
    omega
  ·rw [if_neg c] at h1
   by_cases c' : s.next = g'
   ·have := hlt g h1
    simp only [if_neg (Ne.symm c), if_pos c'.symm] at h3
    omega
   ·rw [if_neg c'] at h2
    simp only [if_neg (Ne.symm c), if_neg (Ne.symm c')] at h3
    exact h.inj g g' h1 h2 h3
theorem look_upd {α : Type _} {l : List (Nat × α)} {g : Nat} {u : α} : ∀ t, look (upd l g u) t = if t = g ∧ (look l g).isSome = true then some u else look l t := by
 induction l with
 |nil => intro t; simp [upd, look]
 |cons p r ih =>
  obtain ⟨k, v⟩ := p
  intro t
  by_cases c : k = g
  ·subst c
   have e : upd ((k, v) :: r) k u = (k, u) :: r := by simp [upd]
   rw [e, look_cons, look_cons, look_cons]
   by_cases c' : k = t
   ·simp [c']
   ·simp [c', Ne.symm c']
  ·have hb : Nat.beq k g = false := nbeq c
   have e : upd ((k, v) :: r) g u = (k, v) :: upd r g u := by simp [upd, hb]
   rw [e, look_cons, look_cons, look_cons, ih t]
   by_cases c' : k = t
   ·subst c'; simp [c]
   ·simp [c', c]
theorem Rel.write {w0 : World} {nt : Nat} {m : Nat → Nat} {s : St} {a : Act} {w w' : World} (h : Rel w0 nt m s a w) {g e : Nat} {ss ss' : List S} (hg : look s.heap g = some (e, ss)) (ho : oks s.next ss')
  (h1 : w'.heap[m g]? = some (.cells (vals m ss').toArray e (0, 0))) (h2 : ∀ k, k ≠ m g → w'.heap[k]? = w.heap[k]?) (h3 : w'.heap.size = w.heap.size) (h4 : w'.os = w.os ∧ w'.tape = w.tape ∧ w'.output = w.output) :
  Rel w0 nt m ⟨s.env, upd s.heap g (e, ss'), s.next⟩ a w' := by
 have hs : ∀ k, (look (upd s.heap g (e, ss')) k).isSome = true → (look s.heap k).isSome = true := fun k hk => by
  rw [look_upd] at hk
  by_cases c : k = g ∧ (look s.heap g).isSome = true
  ·rw [c.1]; exact c.2
  ·rw [if_neg c] at hk; exact hk
 refine ⟨h.size, h.dfr, h.env, ?_, fun k k' hk hk' he => h.inj k k' (hs k hk) (hs k' hk') he, ?_⟩
 ·intro k e' q hk
  have hk : look (upd s.heap g (e, ss')) k = some (e', q) := hk
  rw [look_upd] at hk
  obtain ⟨a1, a2, a3, a4⟩ := h.heap g e ss hg
  by_cases c : k = g
  ·subst c
   rw [if_pos ⟨rfl, by rw [hg]; rfl⟩] at hk
   cases hk
   exact ⟨a1, ho, h1, a4⟩
  ·rw [if_neg (fun x => c x.1)] at hk
   obtain ⟨b1, b2, b3, b4⟩ := h.heap k e' q hk
   refine ⟨b1, b2, (h2 _ (fun hh => c ?_)).trans b3, b4⟩
   exact h.inj k g (by rw [hk]; rfl) (by rw [hg]; rfl) hh
 ·obtain ⟨_, _, _, a4⟩ := h.heap g e ss hg
  exact ⟨h4.1.trans h.bel.os, h4.2.1.trans h.bel.tape, h4.2.2.trans h.bel.output, by rw [h3]; exact h.bel.size, fun k hk => (h2 k (by omega)).trans (h.bel.block k hk)⟩
/- One operation of the machine, by the reckoner's. -/

theorem add0 (g o n : Nat) : (⟨g, o, none⟩ : Addr).add n = ⟨g, o + n, none⟩ := by unfold Addr.add; split <;> simp_all
section
variable {P : Program}
theorem loadS_v {m : Nat → Nat} {N t : Nat} {heap : List (Nat × Nat × List S)} {c : C} {v : PV} {w : World} (hc : c.ok N)
  (hh : ∀ g e ss, look heap g = some (e, ss) → oks N ss ∧ w.heap[m g]? = some (.cells (vals m ss).toArray e (0, 0))) (h : loadS P t heap c = some v) :
  v.ok N ∧ (Instr.loadAt t (c.v m)).run P w = .ok (v.v m) w := by
 unfold loadS at h
 split at h
 ·next g o =>
  split at h
  ·next e ss hg =>
   obtain ⟨ho, hw⟩ := hh g e ss hg
   unfold partS at h
   split at h
   ·next n h1 h2 =>
    split at h
    ·next r h3 =>
     cases h
     obtain ⟨a, b, cc, d⟩ := sub_v m ho h3
     refine ⟨a, ?_⟩
     have h1 := isAggT_v h1 w
     have h2 := sizeT_v h2 w
     have hl : (vals m r).length = n := by rw [vals_length m r a]; exact b
     have hload := run_loadCells_list (P := P) (w := w) ⟨m g, o, none⟩ (vals m r) (fun j u hj => by
      rw [add0, cell_of_row w _ _ _ _ _ hw]
      rw [cc] at hj
      rw [List.getElem?_take] at hj
      split at hj
      ·rw [List.getElem?_drop] at hj
       simpa using hj
      ·cases hj)
     rw [hl] at hload
     have e1 : (loadVar t ⟨m g, o, none⟩).run P w = .ok (.agg (vals m r).toArray) w := by
      simp [loadVar, h1, h2, hload]
     simp [Instr.loadAt, Instr.sureAddr, C.v, e1, PV.v]
    ·cases h
   ·next n h1 h2 =>
    split at h
    ·next u h3 =>
     cases h
     obtain ⟨a, b⟩ := cellAt_v m ho h3
     refine ⟨a, ?_⟩
     have h1 := isAggT_v h1 w
     have hcell : w.cell? ⟨m g, o, none⟩ = some (u.v m) := by
      rw [cell_of_row w _ _ _ _ _ hw]; simpa using b
     simp [Instr.loadAt, Instr.sureAddr, C.v, loadVar, h1, hcell, PV.v]
    ·cases h
   ·cases h
  ·cases h
 ·next g o j n =>
  split at h
  ·next e ss h1 hg =>
   obtain ⟨ho, hw⟩ := hh g e ss hg
   split at h
   ·next k xs n' h3 =>
    obtain ⟨h4, h5⟩ := bsome h
    cases h5
    have h4 := Nat.eq_of_beq_eq_true h4
    obtain ⟨hl, p, q, hv, lp⟩ := runAt_v m ho h3
    refine ⟨trivial, ?_⟩
    obtain ⟨_, j0, j1⟩ := hc
    have hj : j.toNat < xs.length := by omega
    have h1 := isAggT_v h1 w
    have hcell : w.cell? ⟨m g, o + j.toNat, none⟩ = some (.int k (rd xs j)) := by
     rw [cell_of_row w _ _ _ _ _ hw, hv]
     show (p ++ (xs.map (Value.int k) ++ q)).toArray[o + j.toNat]? = some (.int k (xs.getD j.toNat 0))
     rw [List.getElem?_toArray, List.getElem?_append_right (by omega), lp, show o + j.toNat - o = j.toNat by omega, List.getElem?_append_left (by rw [List.length_map]; exact hj), List.getElem?_map, List.getD_eq_getElem?_getD, List.getElem?_eq_getElem hj]
     rfl
    simp [Instr.loadAt, Instr.sureAddr, C.v, loadVar, h1, hcell, PV.v, IE.d]
   ·cases h
  ·cases h
 ·cases h
theorem storeCells_v {g e o : Nat} : ∀ (vs : List Value) (i : Nat) (old : List Value) (w : World), w.heap[g]? = some (.cells old.toArray e (0, 0)) → o + i + vs.length ≤ old.length → (∀ v ∈ vs, v.oneCell' = true) →
  ∃ w', (storeCells ⟨g, o, none⟩ vs i).run P w = .ok () w' ∧ w'.heap[g]? = some (.cells (old.take (o + i) ++ (vs ++ old.drop (o + i + vs.length))).toArray e (0, 0)) ∧ (∀ k, k ≠ g → w'.heap[k]? = w.heap[k]?) ∧ w'.heap.size = w.heap.size ∧ w'.os = w.os ∧ w'.tape = w.tape ∧ w'.output = w.output := by
 intro vs
 induction vs with
 |nil =>
  intro i old w hw _ _
  exact ⟨w, by simp [storeCells], by simpa using hw, fun _ _ => rfl, rfl, rfl, rfl, rfl⟩
 |cons v vs ih =>
  intro i old w hw hl h1
  rw [List.length_cons] at hl
  have hi : o + i < old.length := by omega
  have hcell : w.cell? ⟨g, o + i, none⟩ = some old[o + i] := by
   rw [cell_of_row w _ _ _ _ _ hw]; simp [hi]
  have hfz : w.frozen? ⟨g, o + i, none⟩ = false := blk_frozen hw _
  have hset := blk_set hw (o + i) v
  have hset' : (w.setCell ⟨g, o + i, none⟩ v).heap[g]? = some (.cells (old.set (o + i) v).toArray e (0, 0)) := by rw [hset]; simp
  obtain ⟨w', r1, r2, r3, r4, r5⟩ := ih (i + 1) (old.set (o + i) v) _ hset' (by rw [List.length_set]; omega) (fun u hu => h1 u (List.mem_cons_of_mem _ hu))
  refine ⟨w', ?_, ?_, fun k hk => (r3 k hk).trans (Below.heap_setCell w _ v k (by simpa using hk)), ?_, r5⟩
  ·have hrun := run_store P w ⟨g, o + i, none⟩ v .plain (h1 v (List.mem_cons_self ..))
   rw [hcell] at hrun
   simp only [hfz, Bool.false_eq_true, if_false] at hrun
   simp [storeCells, add0, hrun, r1]
  ·rw [r2]
   congr 3
   rw [show o + (i + 1) = o + i + 1 by omega, List.drop_set_of_lt (by omega), List.take_add_one, List.getElem?_set_self hi, List.take_set_of_le (Nat.le_refl _)]
   simp [Nat.add_assoc, Nat.add_comm 1]
  ·rw [r4]
   simp [World.setCell]
theorem storeS_v {w0 : World} {nt : Nat} {m : Nat → Nat} {s : St} {a : Act} {w : World} {t : Nat} {c : C} {v : PV} {heap' : List (Nat × Nat × List S)} (hr : Rel w0 nt m s a w) (hc : c.ok s.next) (hv : v.ok s.next)
  (h : storeS P t s.heap v c = some heap') : ∃ w', (Instr.storeAt t (c.v m) (v.v m)).run P w = .ok () w' ∧ Rel w0 nt m ⟨s.env, heap', s.next⟩ a w' := by
 unfold storeS at h
 split at h
 ·next g o =>
  split at h
  ·next e ss u hg hz =>
   split at h
   ·next ss' hs =>
    cases h
    obtain ⟨a1, a2, a3, a4⟩ := hr.heap g e ss hg
    obtain ⟨b1, b2, b3, b4⟩ := setAt_v m a2 hv hs
    have hz' := sizeT_v hz w
    obtain ⟨w', r1, r2, r3, r4, r5⟩ := storeCells_v (P := P) (o := o) [u.v m] 0 (vals m ss) w a3 (by simp; omega) (by simp [C.one])
    refine ⟨w', ?_, hr.write hg b1 (by
     rw [r2, b2]
     congr 3
     rw [Nat.add_zero, List.set_eq_take_append_cons_drop, if_pos b3]; rfl) r3 r4 r5⟩
    show (Instr.storeAt t (.pointer (some ⟨m g, o, none⟩)) (u.v m)).run P w = _
    simp [Instr.storeAt, Instr.sureAddr, storeVar, C.cells, hz', r1]
   ·cases h
  ·next _ e ss n new hg hz =>
   obtain ⟨h1, h2⟩ := bsome h
   have h1 := Nat.eq_of_beq_eq_true h1
   split at h2
   ·next ss' hs =>
    cases h2
    obtain ⟨a1, a2, a3, a4⟩ := hr.heap g e ss hg
    have hv' : oks s.next new := hv
    obtain ⟨b1, b2, b3, b4⟩ := setSub_v m a2 hv' hs
    have hz' := sizeT_v hz w
    have hl := vals_length m new hv'
    obtain ⟨w', r1, r2, r3, r4, r5⟩ := storeCells_v (P := P) (o := o) (vals m new) 0 (vals m ss) w a3 (by omega) (vals_one m new)
    refine ⟨w', ?_, hr.write hg b1 (by rw [r2, b2, Nat.add_zero, hl]) r3 r4 r5⟩
    have hn : (vals m new).length = n := by omega
    simp [Instr.storeAt, Instr.sureAddr, C.v, PV.v, storeVar, Value.cells, hz', hn, r1]
   ·cases h2
  ·cases h
 ·next g o j n =>
  split at h
  ·next e ss k x hg hz =>
   split at h
   ·next k' xs n' h3 =>
    obtain ⟨h4, h5⟩ := bsome h
    cases h5
    rw [Bool.and_eq_true] at h4
    have h6 := Nat.eq_of_beq_eq_true h4.1
    obtain rfl := of_decide_eq_true h4.2
    obtain ⟨a1, a2, a3, a4⟩ := hr.heap g e ss hg
    obtain ⟨_, j0, j1⟩ := hc
    have hj : j.toNat < n' := by omega
    obtain ⟨b1, b2, b3, b4⟩ := setRun_v m (y := x.d) a2 h3 hj
    have hz' := sizeT_v hz w
    obtain ⟨w', r1, r2, r3, r4, r5⟩ := storeCells_v (P := P) (o := o + j.toNat) [Value.int k x.d] 0 (vals m ss) w a3 (by simp; omega) (by simp [Value.oneCell'])
    refine ⟨w', ?_, hr.write hg b1 (by
     rw [r2, b2]
     congr 3
     rw [Nat.add_zero, List.set_eq_take_append_cons_drop, if_pos b3]; rfl) r3 r4 r5⟩
    simp [Instr.storeAt, Instr.sureAddr, C.v, PV.v, storeVar, Value.cells, hz', r1]
   ·cases h
  ·cases h
 ·cases h
theorem ints_v (m : Nat → Nat) {k : IntKind} {vs : List PV} : ∀ {xs : List Int}, ints k vs = some xs → vs.map (PV.v m) = xs.map (Value.int k) := by
 induction vs with
 |nil => intro xs h; cases h; rfl
 |cons v r ih =>
  intro xs h
  cases v with
  |one u =>
   cases u with
   |i k' x =>
    unfold ints at h
    split at h
    ·next ys hy =>
     obtain ⟨h1, h2⟩ := bsome h
     cases h2
     obtain rfl := of_decide_eq_true h1
     simp [PV.v, C.v, ih hy]
    ·cases h
   |_ => cases h
  |agg ss => cases h
theorem fill_all : ∀ (vs : List Value) (i : Nat) (cells : List Value), (∀ v ∈ vs, v.cells = #[v]) → cells.length = i + vs.length →
  Instr.fill (fun j => some (j * 1, 1)) cells.toArray ((List.range' i vs.length).zip vs) = some (cells.take i ++ vs).toArray := by
 intro vs
 induction vs with
 |nil => intro i cells _ h; simp [Instr.fill]; rw [List.take_of_length_le (by simp at h; omega)]
 |cons v vs ih =>
  intro i cells h1 hl
  rw [List.length_cons] at hl
  have hc := h1 v (List.mem_cons_self ..)
  have hi : i < cells.length := by omega
  rw [List.length_cons, List.range'_succ, List.zip_cons_cons, fill_step (off := i * 1) (size := 1) rfl (by rw [hc]; rfl) (by rw [hc, List.size_toArray, Nat.mul_one]; exact hi), hc]
  show Instr.fill _ (cells.toArray.setIfInBounds (i * 1 + 0) v) _ = _
  rw [Nat.mul_one, Nat.add_zero, List.setIfInBounds_toArray, ih (i + 1) (cells.set i v) (fun u hu => h1 u (List.mem_cons_of_mem _ hu)) (by rw [List.length_set]; omega)]
  congr 2
  rw [List.take_add_one, List.getElem?_set_self hi, List.take_set_of_le (Nat.le_refl _)]
  simp

def HeapIs (m : Nat → Nat) (h : List (Nat × Nat × List S)) (w : World) : Prop := ∃ N, ∀ g e ss, look h g = some (e, ss) → oks N ss ∧ w.heap[m g]? = some (.cells (vals m ss).toArray e (0, 0))
structure FcOk (P : Program) (f : FuncId) (c : Fc) : Prop where
 fn : ∃ fn, P.funcs[f]? = some fn ∧ fn.body.isSome = true ∧ (fn.name == "runtime.NumGoroutine") = false
 run : ∀ (R : Type) (n N : Nat) (h : List (Nat × Nat × List S)) (vs : List PV) (K : SV → Option R) (r : R), (∀ v ∈ vs, v.ok N) → c.run R n h vs K = some r → ∃ v, K v = some r ∧ v.ok 0 ∧ ∀ (m : Nat → Nat) (w : World), HeapIs m h w → Calls P f (vs.map (PV.v m)).toArray w fun e w' => e = .returned (v.v m) ∧ Below w.heap.size w w'
def ClsOk (P : Program) (cl : Cls) : Prop := ∀ f c, look cl f = some c → FcOk P f c

theorem evOp_v {cl : Cls} (hcl : ClsOk P cl) {R : Type} {w0 : World} {nt n : Nat} {o : Oper} {s : St} {K : St → Option R} {r : R} {m : Nat → Nat} {a : Act} {w : World} (hr : Rel w0 nt m s a w) (h : evOp P nt cl n o s K = some r) :
  ∃ s', K s' = some r ∧ ∀ (next : Act → World → Prop) (Q : Exit → Act → World → Prop), (∀ m' a' w', Rel w0 nt m' s' a' w' → (∀ g, g < s.next → m' g = m g) → s.next ≤ s'.next → (isStore o.op = false → Below w.heap.size w w') → next a' w') → o.wp P a w next Q := by
 unfold evOp at h
 have hb := bsome h
 clear h
 obtain ⟨hd, h⟩ := hb
 obtain ⟨dst, op, ty, pos, after, guard⟩ := o
 simp only at h hd
 have hm : ∀ g, g < s.next → (fun g => if g = s.next then w.heap.size else m g) g = m g := fun g hg => if_neg (Nat.ne_of_lt hg)
 split at h
 ·next t =>
  split at h
  ·next ss hz =>
   obtain ⟨ho, v, hv, hrun⟩ := zeroS_v m s.next hz
   refine ⟨_, h, fun next Q hn => ?_⟩
   have hrel := hr.new (d := dst) (v := .p s.next 0) hd (e := t) ho (Nat.lt_succ_self _)
   have hex : (execOp a.eval ⟨dst, .alloc t, ty, pos, after, guard⟩).run P w = .ok (.value (.pointer (some ⟨w.heap.size, 0, none⟩))) (w.alloc (.cells (vals m ss).toArray t (0, 0))) := by
    have e : v.cells = (vals m ss).toArray := by rw [← hv]
    simp [execOp, Instr.alloc, hrun, newVar, newRow, e]
   unfold Oper.wp
   rw [hex]
   refine hn _ _ _ ?_ hm (Nat.le_succ _) (fun _ => below_alloc (Below.refl _ _) _)
   have e3 : (C.p s.next 0).v (fun g => if g = s.next then w.heap.size else m g) = .pointer (some ⟨w.heap.size, 0, none⟩) := by simp [C.v]
   rw [e3] at hrel
   exact hrel
  ·cases h
 ·next t x =>
  split at h
  ·next v hx =>
   obtain ⟨ok, ex⟩ := ev_v hr.env hx
   refine ⟨_, h, fun next Q hn => ?_⟩
   have ho : oks s.next v.segs := by
    cases v with
    |one c => exact ⟨ok, trivial⟩
    |agg ss => exact ok
   have hrel := hr.new (d := dst) (v := .p s.next 0) hd (e := t) ho (Nat.lt_succ_self _)
   have hc : (a.eval x).cells = (vals m v.segs).toArray := by
    rw [ex]
    cases v with
    |one c => show (c.v m).cells = (c.v m :: []).toArray; rw [C.cells]
    |agg ss => rfl
   have hex : (execOp a.eval ⟨dst, .box t x, ty, pos, after, guard⟩).run P w = .ok (.value (.pointer (some ⟨w.heap.size, 0, none⟩))) (w.alloc (.cells (vals m v.segs).toArray t (0, 0))) := by
    simp [execOp, Instr.box, newVar, newRow, hc]
   unfold Oper.wp
   rw [hex]
   refine hn _ _ _ ?_ hm (Nat.le_succ _) (fun _ => below_alloc (Below.refl _ _) _)
   have e3 : (C.p s.next 0).v (fun g => if g = s.next then w.heap.size else m g) = .pointer (some ⟨w.heap.size, 0, none⟩) := by simp [C.v]
   rw [e3] at hrel
   exact hrel
  ·cases h
 ·next t x =>
  split at h
  ·next c hx =>
   obtain ⟨ok, ex⟩ := ev_v hr.env hx
   split at h
   ·next v hv =>
    obtain ⟨vo, vr⟩ := loadS_v (w := w) ok (fun g e ss hg => ⟨(hr.heap g e ss hg).2.1, (hr.heap g e ss hg).2.2.1⟩) hv
    refine ⟨_, h, fun next Q hn => ?_⟩
    have ex' : a.eval x = c.v m := ex
    have hex : (execOp a.eval ⟨dst, .load t x, ty, pos, after, guard⟩).run P w = .ok (.value (v.v m)) w := vnext (by rw [ex']; exact vr)
    unfold Oper.wp
    rw [hex]
    exact hn _ _ _ (hr.put (v := .pv v) hd vo) (fun _ _ => rfl) (by cases dst <;> exact Nat.le_refl _) (fun _ => Below.refl _ _)
   ·cases h
  ·cases h
 ·next t x y =>
  split at h
  ·next c v hx hy =>
   obtain ⟨ok, ex⟩ := ev_v hr.env hx
   obtain ⟨oky, ey⟩ := ev_v hr.env hy
   split at h
   ·next hp hs =>
    obtain ⟨w', r1, r2⟩ := storeS_v hr ok oky hs
    refine ⟨_, h, fun next Q hn => ?_⟩
    have ex' : a.eval x = c.v m := ex
    have ey' : a.eval y = v.v m := ey
    have hex : (execOp a.eval ⟨dst, .store t x y, ty, pos, after, guard⟩).run P w = .ok .skip w' := by
     simp [execOp, ex', ey', r1]
    unfold Oper.wp
    rw [hex]
    exact hn _ _ _ (r2.put (v := .und) hd trivial) (fun _ _ => rfl) (by cases dst <;> exact Nat.le_refl _) (fun hf => by cases hf)
   ·cases h
  ·cases h
 ·next t len ps =>
  split at h
  ·next e vs hu hx =>
   split at h
   ·next k k' hk hz =>
    split at h
    ·next xs hi =>
     obtain ⟨h1, h2⟩ := bsome h
     simp only [Bool.and_eq_true] at h1
     obtain ⟨⟨⟨⟨g1, g2⟩, g3⟩, g4⟩, g5⟩ := h1
     obtain rfl := of_decide_eq_true g1
     have g2 := eq_of_beq g2
     have g3 := Nat.le_of_ble_eq_true g3
     have g4 : 0 < len := Nat.le_of_ble_eq_true g4
     have hz1 : sizeT P e = some 1 := by
      revert g5
      cases hs : sizeT P e with
      |none => simp
      |some z => match z with
       |0 => simp
       |1 => simp
       |z + 2 => simp
     obtain ⟨_, ex⟩ := evs_v hr.env hx
     rw [ints_v m hi] at ex
     have hlx : xs.length = len := by
      have := congrArg List.length ex
      simp only [List.length_map] at this
      have h6 := congrArg List.length g2
      simp only [List.length_map, List.length_range] at h6
      omega
     obtain ⟨z0, zi, zv, zi1, zi2, zi3⟩ := zeroS_info m s.next hz
     have hrel := hr.new (d := dst) (v := .sl s.next 0 len len) hd (e := e) (ss := [.a k xs len]) ⟨hlx, trivial⟩ (Nat.lt_succ_self _)
     have hv0 : vals m [.a k xs len] = xs.map (Value.int k) := by simp [vals, S.v]
     have hps : ps.toList.map (fun x => (x.1, a.eval x.2)) = (List.range' 0 (xs.map (Value.int k)).length).zip (xs.map (Value.int k)) := by
      rw [← ex, List.length_map, ← List.range_eq_range']
      have h7 : (List.map (·.2) ps.toList).length = len := by
       have h6 := congrArg List.length g2
       simp only [List.length_map, List.length_range] at h6 ⊢
       omega
      rw [h7, ← g2]
      generalize ps.toList = l
      induction l with
      |nil => rfl
      |cons p l ih => simp [ih]
     refine ⟨_, h2, fun next Q hn => ?_⟩
     have hz' := sizeT_v hz1 w
     have hzero : (zeroValue e).run P w = .ok zv w := by simp [zeroValue, typeInfo, zi1, zi2]
     have hf := fill_all (xs.map (Value.int k)) 0 (((Array.range len).map (zv.cells[· % zv.cells.size]!)).toList) (by simp [Value.cells]) (by simp [hlx])
     have hex : (execOp a.eval ⟨dst, .buildSlice t len ps, ty, pos, after, guard⟩).run P w = .ok (.value (.slice (some ⟨w.heap.size, 0, none⟩) len len)) (w.alloc (.cells (vals m [.a k xs len]).toArray e (0, 0))) := by
      show (do let y ← Instr.buildSlice t len (ps.map fun x => (x.1, a.eval x.2)); pure (Next.value y) : Sem Next).run P w = _
      refine vnext ?_
      have hps' : (ps.map fun x => (x.1, a.eval x.2)).toList = ps.toList.map (fun x => (x.1, a.eval x.2)) := by simp
      simp only [Array.toArray_toList, List.take_zero, List.nil_append] at hf
      have hne : ¬ len * 1 = 0 := by omega
      have hbig : ¬ len * 1 > 2 ^ 24 := by omega
      simp only [Instr.buildSlice, Sem.run_bind, underlying, run_program, Result.andThen_ok, hu, Sem.run_pure, hz', Sem.run_ite, if_neg hbig, if_neg hne, hzero, Nat.mul_one]
      rw [hps', hps, hv0]
      simp only [Nat.mul_one] at hf
      rw [hf]
      simp [newRow, show ¬ 16777216 < len by omega, show ¬ len = 0 by omega]
     unfold Oper.wp
     rw [hex]
     refine hn _ _ _ ?_ hm (Nat.le_succ _) (fun _ => below_alloc (Below.refl _ _) _)
     have e3 : (C.sl s.next 0 len len).v (fun g => if g = s.next then w.heap.size else m g) = .slice (some ⟨w.heap.size, 0, none⟩) len len := by simp [C.v]
     rw [e3] at hrel
     exact hrel
    ·cases h
   ·cases h
  ·cases h
 ·next f args argTypes =>
  split at h
  ·next c vs hc hv =>
   obtain ⟨⟨fn, f1, f2, f3⟩, hrun⟩ := hcl f c hc
   obtain ⟨hvo, ex⟩ := evs_v hr.env hv
   obtain ⟨v, hK, vo, hcalls⟩ := hrun _ _ _ _ _ _ _ hvo h
   refine ⟨_, hK, fun next Q hn => ?_⟩
   have hex : (execOp a.eval ⟨dst, .call { callee := .value (.func f), args := args, argTypes := argTypes }, ty, pos, after, guard⟩).run P w = .ok (.enter f (vs.map (PV.v m)).toArray) w := by
    have e2 : args.map a.eval = (vs.map (PV.v m)).toArray := by
     apply Array.ext'
     rw [Array.toList_map, ex]
    have f2' : ¬ fn.body = none := by intro hb; rw [hb] at f2; cases f2
    have f3' : ¬ fn.name = "runtime.NumGoroutine" := by intro hb; rw [hb] at f3; simp at f3
    simp [execOp, resolve, Act.eval, Deferred.ofValue, invoke, callFunc, f1, f3', f2', e2]
   unfold Oper.wp
   rw [hex]
   refine (hcalls m w ⟨_, fun g e ss hg => ⟨(hr.heap g e ss hg).2.1, (hr.heap g e ss hg).2.2.1⟩⟩).mono fun e w' he => ?_
   obtain ⟨rfl, hb⟩ := he
   exact hn _ _ _ ((hr.grow hb).put hd (SV.ok_mono (Nat.zero_le _) vo)) (fun _ _ => rfl) (by cases dst <;> exact Nat.le_refl _) (fun _ => hb)
  ·cases h
 ·obtain ⟨v, h1, h2, h3⟩ := evVal_v (o := ⟨dst, op, ty, pos, after, guard⟩) hr.env h
  refine ⟨_, h1, fun next Q hn => ?_⟩
  unfold Oper.wp
  rw [h3 w]
  exact hn _ _ _ (hr.put hd h2) (fun _ _ => rfl) (by cases dst <;> exact Nat.le_refl _) (fun _ => Below.refl _ _)
end
/- Operations behind one another, and in any order, by the reckoner's. -/

section
variable {P : Program}
theorem getD_some {a : Array Value} {t : Nat} {v : Value} (h : a.getD t undef = v) (hv : v ≠ undef) : a[t]? = some v := by
 rw [Array.getD_eq_getD_getElem?] at h
 cases hq : a[t]? with
 |none => rw [hq] at h; exact absurd h.symm hv
 |some u => rw [hq] at h; exact congrArg some h
theorem guarded_v {R : Type} {w0 : World} {nt : Nat} {ops : Array Oper} {o : Oper} {s : St} {yes no : St → Option R} {r : R} {m : Nat → Nat} {a : Act} {w : World} (hr : Rel w0 nt m s a w) (h : guarded ops o s yes no = some r) :
  ∃ s', Rel w0 nt m s' a w ∧ s'.next = s.next ∧ s'.heap = s.heap ∧ ((Region.wanted o (yielded ops a.tmps) = true ∧ yes s' = some r) ∨ (Region.wanted o (yielded ops a.tmps) = false ∧ no s' = some r)) := by
 unfold guarded at h
 split at h
 ·next hg => exact ⟨s, hr, rfl, rfl, .inl ⟨by simp [Region.wanted, hg], h⟩⟩
 ·next j want hg =>
  split at h
  ·cases h
  ·next t ht =>
   have hw : Region.wanted o (yielded ops a.tmps) = ((match a.tmps[t]? with
     |some (.bool b) => some b
     |_ => none) == some want) := by
    have ht' : (ops[j]?).bind (fun x => x.dst) = some t := ht
    simp only [Region.wanted, hg, yielded, ht', Option.bind_some]
    cases a.tmps[t]? with
    |none => rfl
    |some v => cases v <;> rfl
   split at h
   ·next hl =>
    obtain ⟨_, e⟩ := hr.env t _ hl
    refine ⟨s, hr, rfl, rfl, .inr ⟨?_, h⟩⟩
    rw [hw]
    have e' : a.tmps.getD t undef = undef := e
    rw [Array.getD_eq_getD_getElem?] at e'
    cases hq : a.tmps[t]? with
    |none => rfl
    |some u => rw [hq] at e'; have e2 : u = undef := e'; subst e2; rfl
   ·next e hl =>
    obtain ⟨_, eb⟩ := hr.env t _ hl
    have eb' : a.tmps.getD t undef = .bool e.d := eb
    have hq := getD_some eb' (by intro hh; cases hh)
    rw [hq] at hw
    have hw' : Region.wanted o (yielded ops a.tmps) = (e.d == want) := by rw [hw]; rfl
    rw [BE.ite_d] at h
    have rel : ∀ b : BE, b.d = e.d → Rel w0 nt m ⟨(t, .pv (.one (.b b))) :: s.env, s.heap, s.next⟩ a w := fun b hb =>
     ⟨hr.size, hr.dfr, fun t' v hv => by
      rw [look_cons] at hv
      by_cases c : t = t'
      ·subst c
       rw [if_pos rfl] at hv
       cases hv
       exact ⟨trivial, by rw [eb']; show Value.bool e.d = Value.bool b.d; rw [hb]⟩
      ·rw [if_neg c] at hv
       exact hr.env t' v hv, hr.heap, hr.inj, hr.bel⟩
    split at h
    ·next hd =>
     refine ⟨_, rel .tt hd.symm, rfl, rfl, ?_⟩
     rw [hw', hd]
     cases want
     ·exact .inr ⟨rfl, h⟩
     ·exact .inl ⟨rfl, h⟩
    ·next hd =>
     have hd' : e.d = false := by simpa using hd
     refine ⟨_, rel .ff hd'.symm, rfl, rfl, ?_⟩
     rw [hw', hd']
     cases want
     ·exact .inl ⟨rfl, h⟩
     ·exact .inr ⟨rfl, h⟩
   ·cases h
theorem skipOp_v {R : Type} {w0 : World} {nt : Nat} {o : Oper} {s : St} {K : St → Option R} {r : R} {m : Nat → Nat} {a : Act} {w : World} (hr : Rel w0 nt m s a w) (h : skipOp nt o s K = some r) :
  K (s.put o.dst .und) = some r ∧ Rel w0 nt m (s.put o.dst .und) (a.put o.dst undef) w := by
 unfold skipOp at h
 obtain ⟨hd, h1⟩ := bsome h
 exact ⟨h1, hr.put (v := .und) hd trivial⟩

variable {cl : Cls} (hcl : ClsOk P cl)
include hcl
theorem evSeq_v {R : Type} {w0 : World} {nt n : Nat} {ops : Array Oper} {r : R} {Q : Exit → Act → World → Prop} : ∀ {l : List Oper} {s : St} {K : St → Option R} {m : Nat → Nat} {a : Act} {w : World}, Rel w0 nt m s a w → evSeq P nt cl n ops l s K = some r →
  (∀ s' m' a' w', K s' = some r → Rel w0 nt m' s' a' w' → Q .normal a' w') → wpList P ops Q l a w := by
 intro l
 induction l with
 |nil =>
  intro s K m a w hr h hK
  exact hK _ _ _ _ h hr
 |cons o l ih =>
  intro s K m a w hr h hK
  unfold evSeq at h
  obtain ⟨s', hr', _, _, hc⟩ := guarded_v hr h
  unfold wpList
  rcases hc with ⟨hw, hy⟩ | ⟨hw, hn⟩
  ·rw [if_pos hw]
   obtain ⟨s2, h2, h3⟩ := evOp_v hcl hr' hy
   exact .inl (h3 _ Q fun m' a' w' hr2 _ _ _ => ih hr2 h2 hK)
  ·rw [if_neg (by rw [hw]; decide)]
   obtain ⟨h2, hr2⟩ := skipOp_v hr' hn
   exact ih hr2 h2 hK

omit hcl in
theorem pure_no_store {op : Op} (h : isPure op = true) : isStore op = false := by
 cases op <;> first | rfl | cases h
set_option maxHeartbeats 1000000 in
theorem evAny_v {R : Type} {w0 : World} {nt n : Nat} {ops : Array Oper} {r : R} {Q : Exit → Act → World → Prop} {B : List Nat} (hT : waitsOk (rtab .any ops).2 B = true) {heap0 : List (Nat × Nat × List S)} {next0 : Nat} {m0 : Nat → Nat}
  (ho0 : ∀ g e ss, look heap0 g = some (e, ss) → g < next0 ∧ oks next0 ss) (hQ : ∀ c a w, ¬ Q (.panic c) a w) :
  ∀ {f : Nat} {l : Array Bool} {s : St} {K : St → Option R} {m : Nat → Nat} {a : Act} {w : World}, Rel w0 nt m s a w → next0 ≤ s.next → (∀ g, g < next0 → m g = m0 g) →
  evAny P nt cl n ops (rtab .any ops) B (storesOf ops) heap0 f l.toList s K = some r →
  ((∀ d ∈ storesOf ops, l.getD d true = false) → ∀ g e ss, look heap0 g = some (e, ss) → w.heap[m0 g]? = some (.cells (vals m0 ss).toArray e (0, 0))) →
  (∀ s' m' a' w', K s' = some r → Rel w0 nt m' s' a' w' → Q .normal a' w') →
  wpAnyLast P .any ops Q (fun w => ∀ g e ss, look heap0 g = some (e, ss) → w.heap[m0 g]? = some (.cells (vals m0 ss).toArray e (0, 0))) (storesOf ops) f l a w := by
 intro f
 induction f with
 |zero =>
  intro l s K m a w hr hn0 hm0 h hS hK
  unfold evAny at h
  split at h
  ·next hrd => exact ⟨by rw [ready_eq]; exact hrd, hK _ _ _ _ h hr⟩
  ·cases h
 |succ f ih =>
  intro l s K m a w hr hn0 hm0 h hS hK
  unfold evAny at h
  split at h
  ·next hrd => exact wpAnyLast_done (by rw [ready_eq]; exact hrd) (hK _ _ _ _ h hr) _
  ·next hne =>
   split at h
   ·next i hi =>
    have hi' := List.find?_some hi
    simp only [Bool.and_eq_true] at hi'
    obtain ⟨hp, ha⟩ := hi'
    split at h
    ·next o ho =>
     have hany : anyB .any ops l (l.setIfInBounds i true) i = true := any_of rfl (by simpa using ha)
     have hlist : (l.setIfInBounds i true).toList = l.toList.set i true := by simp
     obtain ⟨s', hr', hnx, _, hc⟩ := guarded_v hr h
     have hstore : ∀ d ∈ storesOf ops, d ≠ i := by
      intro d hd hdi
      subst hdi
      unfold storesOf at hd
      have h5 := (List.mem_filter.1 hd).2
      rw [ho] at h5
      have h6 : isPure o.op = true := by unfold pureAt at hp; rw [ho] at hp; exact hp
      have h5' : isStore o.op = true := h5
      rw [pure_no_store h6] at h5'
      cases h5'
     have hS' : ∀ (w : World), ((∀ d ∈ storesOf ops, l.getD d true = false) → ∀ g e ss, look heap0 g = some (e, ss) → w.heap[m0 g]? = some (.cells (vals m0 ss).toArray e (0, 0))) →
       (∀ d ∈ storesOf ops, (l.setIfInBounds i true).getD d true = false) → ∀ g e ss, look heap0 g = some (e, ss) → w.heap[m0 g]? = some (.cells (vals m0 ss).toArray e (0, 0)) := by
      intro w hw hd
      refine hw fun d hdm => ?_
      rw [← hd d hdm, getD_set_ne true (Ne.symm (hstore d hdm))]
     rcases hc with ⟨hw, hy⟩ | ⟨hw, hno⟩
     ·obtain ⟨hd, hy⟩ := bsome hy
      obtain ⟨v, h1, h2, h3⟩ := evVal_v hr'.env hy
      refine pure_ (l.setIfInBounds i true) ho rfl hany (fun c a w hq => absurd hq (hQ c _ w)) (.inl ⟨hw, h3⟩) rfl ?_
      exact ih (hr'.put hd h2) (by cases o.dst <;> (show next0 ≤ s'.next; omega)) hm0 (by rw [hlist]; exact h1) (hS' w hS) hK
     ·obtain ⟨h2, hr2⟩ := skipOp_v hr' hno
      refine pure_ (l.setIfInBounds i true) ho rfl hany (fun c a w hq => absurd hq (hQ c _ w)) (.inr ⟨hw, rfl⟩) rfl ?_
      exact ih hr2 (by cases o.dst <;> (show next0 ≤ s'.next; omega)) hm0 (by rw [hlist]; exact h2) (hS' w hS) hK
    ·cases h
   ·next =>
    split at h
    ·next i hi =>
     have hi' := List.find?_some hi
     simp only [Bool.and_eq_true] at hi'
     obtain ⟨⟨hp, ha⟩, hds⟩ := hi'
     have hds' : ∀ d ∈ storesOf ops, l.getD d true = false := by
      intro d hd
      have := List.all_eq_true.1 hds d hd
      have e : l.toList.getD d true = l.getD d true := (gd l d true).symm
      rw [e] at this
      simpa using this
     have hSw := hS hds'
     split at h
     ·next o ho =>
      have htake : takeB .any ops (storesOf ops) l (l.setIfInBounds i true) i = true := take_ofW rfl hT (by simpa using ha)
      have hlist : (l.setIfInBounds i true).toList = l.toList.set i true := by simp
      obtain ⟨s', hr', hnx, _, hc⟩ := guarded_v hr h
      rcases hc with ⟨hw, hy⟩ | ⟨hw, hno⟩
      ·obtain ⟨hd, hy⟩ := bsome hy
       split at hy
       ·next t x hop =>
        split at hy
        ·next c hx =>
         split at hy
         ·next v hv =>
          obtain ⟨ok, ex⟩ := ev_v hr'.env hx
          have ex' : a.eval x = c.v m := ex
          have hval : ∀ w : World, (∀ g e ss, look heap0 g = some (e, ss) → w.heap[m0 g]? = some (.cells (vals m0 ss).toArray e (0, 0))) → v.ok s'.next ∧ (execOp a.eval o).run P w = .ok (.value (v.v m)) w := by
           intro w hw
           obtain ⟨q1, q2⟩ := loadS_v (m := m) (w := w) (heap := heap0) ok (fun g e ss hg => by
            obtain ⟨b1, b2⟩ := ho0 g e ss hg
            refine ⟨oks_mono (by rw [hnx]; exact hn0) b2, ?_⟩
            rw [hm0 g b1, vals_congr hm0 b2]
            exact hw g e ss hg) hv
           refine ⟨q1, ?_⟩
           obtain ⟨dst, op, ty, pos, after, guard⟩ := o
           simp only at hop
           subst hop
           exact vnext (by rw [ex']; exact q2)
          refine take_ (v := v.v m) (l.setIfInBounds i true) ho rfl htake (fun c a w hq => absurd hq (hQ c _ w)) (.inl ⟨hw, fun w hw => (hval w hw).2⟩) hSw rfl ?_
          refine ih (hr'.put (v := .pv v) hd (hval w hSw).1) (by cases o.dst <;> (show next0 ≤ s'.next; omega)) hm0 (by rw [hlist]; exact hy) (fun _ => hSw) hK
         ·cases hy
        ·cases hy
       ·cases hy
      ·obtain ⟨h2, hr2⟩ := skipOp_v hr' hno
       refine take_ (l.setIfInBounds i true) ho rfl htake (fun c a w hq => absurd hq (hQ c _ w)) (.inr ⟨hw, rfl⟩) hSw rfl ?_
       exact ih hr2 (by cases o.dst <;> (show next0 ≤ s'.next; omega)) hm0 (by rw [hlist]; exact h2) (fun _ => hSw) hK
     ·cases h
    ·split at h
     ·next i hrd =>
      split at h
      ·next o ho =>
       have hlist : (l.setIfInBounds i true).toList = l.toList.set i true := by simp
       have hready : Region.ready .any ops l = [i] := by rw [ready_eq]; exact hrd
       have hun : l.getD i true = false := (mem_ready.1 (by rw [hready]; exact List.mem_cons_self ..)).1
       refine wpAnyLast_all hready (by simp) fun j hj => ?_
       obtain rfl : j = i := by simpa using hj
       have hmem : j ∈ storesOf ops ↔ isStore o.op = true := by
        unfold storesOf
        rw [List.mem_filter, List.mem_range, ho]
        exact ⟨fun hh => hh.2, fun hh => ⟨(Array.getElem?_eq_some_iff.1 ho).1, hh⟩⟩
       have hSn : ∀ w' : World, (j ∉ storesOf ops → Below w.heap.size w w') → (∀ d ∈ storesOf ops, (l.setIfInBounds j true).getD d true = false) → ∀ g e ss, look heap0 g = some (e, ss) → w'.heap[m0 g]? = some (.cells (vals m0 ss).toArray e (0, 0)) := by
        intro w' hb hd g e ss hg
        have hnot : j ∉ storesOf ops := fun hh => by
         have := hd j hh
         have hlt : j < l.size := by
          rcases Nat.lt_or_ge j l.size with h' | h'
          ·exact h'
          ·rw [Array.getD_eq_getD_getElem?, Array.getElem?_eq_none h'] at hun; cases hun
         simp [hlt] at this
        have h0 := hS (fun d hdm => by
         have hne : j ≠ d := fun hh => hnot (by rw [hh]; exact hdm)
         rw [← hd d hdm, getD_set_ne true hne]) g e ss hg
        exact (hb hnot).block _ (blk_lt h0) |>.trans h0
       obtain ⟨s', hr', hnx, _, hc⟩ := guarded_v hr h
       unfold wpOp
       rw [ho]
       show if Region.wanted o (yielded ops a.tmps) = true then _ else _
       rcases hc with ⟨hw, hy⟩ | ⟨hw, hno⟩
       ·rw [if_pos hw]
        obtain ⟨s2, h2, h3⟩ := evOp_v hcl hr' hy
        refine .inl (h3 _ Q fun m' a' w' hr2 hmm hnn hb => ?_)
        have hb' : j ∉ storesOf ops → Below w.heap.size w w' := fun hh => hb (by
         cases hst : isStore o.op
         ·rfl
         ·exact absurd (hmem.2 hst) hh)
        exact ⟨fun hnot hSw g e ss hg => ((hb' hnot).block _ (blk_lt (hSw g e ss hg))).trans (hSw g e ss hg), ih hr2 (by omega) (fun g hg => (hmm g (by omega)).trans (hm0 g hg)) (by rw [hlist]; exact h2) (hSn w' hb') hK⟩
       ·rw [if_neg (by rw [hw]; decide)]
        obtain ⟨h2, hr2⟩ := skipOp_v hr' hno
        exact ⟨fun _ hSw => hSw, ih hr2 (by cases o.dst <;> (show next0 ≤ s'.next; omega)) hm0 (by rw [hlist]; exact h2) (hSn w (fun _ => Below.refl _ _)) hK⟩
      ·cases h
     ·cases h
theorem evReg_v {R : Type} {w0 : World} {nt n id : Nat} {ops : Array Oper} {draw : Bool} {s : St} {K : St → Option R} {r : R} {m : Nat → Nat} {a : Act} {w : World} {Q : Exit → Act → World → Prop} (hr : Rel w0 nt m s a w) (hQ : ∀ c a w, ¬ Q (.panic c) a w)
  (h : evReg P nt cl n ops draw s K = some r) (hK : ∀ s' m' a' w', K s' = some r → Rel w0 nt m' s' a' w' → Q .normal a' w') : (Code.region id ops draw).wp P Q a w := by
 unfold evReg at h
 cases draw with
 |false => exact wp_region_list (evSeq_v hcl hr h hK)
 |true =>
  obtain ⟨h1, h2⟩ := bsome h
  rw [Bool.and_eq_true] at h1
  have hw : Below w.heap.size w w.drew := below_drew (Below.refl _ _)
  refine wp_region_last (S := fun w => ∀ g e ss, look s.heap g = some (e, ss) → w.heap[m g]? = some (.cells (vals m ss).toArray e (0, 0))) (ds := storesOf ops) h1.1 ?_
  refine evAny_v hcl h1.2 (next0 := s.next) (fun g e ss hg => ⟨(hr.heap g e ss hg).1, (hr.heap g e ss hg).2.1⟩) hQ (hr.grow hw) (Nat.le_refl _) (fun _ _ => rfl) (by rw [Array.toList_replicate]; exact h2) (fun _ g e ss hg => (hr.heap g e ss hg).2.2.1) hK
end
/- Code, and functions: what the reckoner answers, the machine answers. -/

section
variable (m : Nat → Nat)
theorem C.gen_v (c : C) : c.gen.v m = c.v m := by cases c <;> rfl
theorem S.gen_v (s : S) : s.gen.v m = s.v m := by
 cases s with
 |c u => show [u.gen.v m] = [u.v m]; rw [C.gen_v]
 |a => rfl
theorem vals_gen (ss : List S) : vals m (ss.map S.gen) = vals m ss := by
 induction ss with
 |nil => rfl
 |cons s r ih => show s.gen.v m ++ vals m (r.map S.gen) = _; rw [S.gen_v, ih]; rfl
theorem PV.gen_v (v : PV) : v.gen.v m = v.v m := by
 cases v with
 |one c => exact C.gen_v m c
 |agg ss => show Value.agg _ = Value.agg _; rw [vals_gen]
theorem SV.gen_v (v : SV) : v.gen.v m = v.v m := by
 cases v with
 |pv u => exact PV.gen_v m u
 |tup vs =>
  show Value.tuple _ = Value.tuple _
  rw [List.map_map]
  congr 2
  exact List.map_congr_left fun u _ => PV.gen_v m u
 |und => rfl
end
section
variable {N : Nat}
theorem C.gen_ok {c : C} (h : c.ok N) : c.gen.ok N := by cases c <;> exact h
theorem S.gen_ok {s : S} (h : s.ok N) : s.gen.ok N := by
 cases s with
 |c u => exact C.gen_ok h
 |a => exact h
theorem oks_gen {ss : List S} (h : oks N ss) : oks N (ss.map S.gen) := by
 induction ss with
 |nil => trivial
 |cons s r ih => exact ⟨S.gen_ok h.1, ih h.2⟩
theorem PV.gen_ok {v : PV} (h : v.ok N) : v.gen.ok N := by
 cases v with
 |one c => exact C.gen_ok h
 |agg ss => exact oks_gen h
theorem SV.gen_ok {v : SV} (h : v.ok N) : v.gen.ok N := by
 cases v with
 |pv u => exact PV.gen_ok h
 |tup vs =>
  intro u hu
  obtain ⟨x, hx, rfl⟩ := List.mem_map.1 hu
  exact PV.gen_ok (h x hx)
 |und => trivial
end
theorem cleanE_look {env : List (Nat × SV)} {mk : Nat} : ∀ {n t : Nat} {v : SV}, look (cleanE env mk n) t = some v → ∃ u, look env t = some u ∧ v = u.gen := by
 intro n
 induction n with
 |zero => intro t v h; cases h
 |succ n ih =>
  intro t v h
  unfold cleanE at h
  cases hb : Nat.beq (Nat.land (Nat.shiftRight mk n) 1) 1
  ·rw [hb] at h; exact ih h
  ·rw [hb] at h
   simp only [cnd] at h
   split at h
   ·next u hu =>
    rw [look_cons] at h
    by_cases c : n = t
    ·rw [if_pos c] at h; cases h; subst c; exact ⟨u, hu, rfl⟩
    ·rw [if_neg c] at h; exact ih h
   ·exact ih h
theorem cleanH_look {mk : Nat} {heap : List (Nat × Nat × List S)} : ∀ {g e : Nat} {ss : List S}, look (cleanH mk heap) g = some (e, ss) → ∃ q, look heap g = some (e, q) ∧ ss = q.map S.gen := by
 induction heap with
 |nil => intro g e ss h; cases h
 |cons p r ih =>
  obtain ⟨k, t, q⟩ := p
  intro g e ss h
  have keep : ∀ {g e ss}, k ≠ g → look (cleanH mk r) g = some (e, ss) → ∃ q', look ((k, t, q) :: r) g = some (e, q') ∧ ss = q'.map S.gen := by
   intro g e ss hk h
   obtain ⟨q', h1, h2⟩ := ih h
   exact ⟨q', by rw [look_cons, if_neg hk]; exact h1, h2⟩
  unfold cleanH at h
  cases hb : Nat.beq (Nat.land (Nat.shiftRight mk k) 1) 1
  ·rw [hb] at h
   simp only [cnd] at h
   by_cases c : k = g
   ·exfalso
    subst c
    -- a block whose bit isn't set isn't kept
    have : ∀ (l : List (Nat × Nat × List S)), look (cleanH mk l) k = none := by
     intro l
     induction l with
     |nil => rfl
     |cons p l ihl =>
      obtain ⟨k', t', q'⟩ := p
      unfold cleanH
      cases hb' : Nat.beq (Nat.land (Nat.shiftRight mk k') 1) 1
      ·exact ihl
      ·simp only [cnd]
       rw [look_cons, if_neg (fun hh => by rw [hh, hb] at hb'; cases hb')]
       exact ihl
    rw [this] at h; cases h
   ·exact keep c h
  ·rw [hb] at h
   simp only [cnd] at h
   rw [look_cons] at h
   by_cases c : k = g
   ·rw [if_pos c] at h
    cases h
    exact ⟨q, by rw [look_cons, if_pos c], rfl⟩
   ·rw [if_neg c] at h; exact keep c h
theorem nmax_l (a b : Nat) : a ≤ nmax a b := by
 unfold nmax
 cases h : Nat.ble a b
 ·exact Nat.le_refl _
 ·exact Nat.le_of_ble_eq_true h
theorem nmax_r (a b : Nat) : b ≤ nmax a b := by
 unfold nmax
 cases h : Nat.ble a b
 ·have : ¬ a ≤ b := fun hh => by rw [Nat.ble_eq_true_of_le hh] at h; cases h
  show b ≤ a; omega
 ·exact Nat.le_refl _
section
variable {N : Nat}
theorem C.ok_top {c : C} (h : c.ok N) : c.ok c.top := by
 cases c with
 |pd g o j n => exact ⟨Nat.lt_succ_self _, h.2⟩
 |p g o => exact Nat.lt_succ_self _
 |sl g o n c => exact Nat.lt_succ_self _
 |_ => trivial
theorem oks_top {ss : List S} (h : oks N ss) : oks (tops ss) ss := by
 induction ss with
 |nil => trivial
 |cons s r ih =>
  cases s with
  |c u => exact ⟨C.ok_mono (nmax_l _ _) (C.ok_top h.1), oks_mono (nmax_r _ _) (ih h.2)⟩
  |a k xs n => exact ⟨h.1, ih h.2⟩
theorem PV.ok_top {v : PV} (h : v.ok N) : v.ok (tops v.segs) := by
 cases v with
 |one c => exact C.ok_mono (nmax_l _ _) (C.ok_top h)
 |agg ss => exact oks_top h
theorem SV.ok_top {v : SV} (h : v.ok N) : v.ok v.top := by
 cases v with
 |pv u => exact PV.ok_top h
 |tup vs =>
  show ∀ v ∈ vs, v.ok (topsV vs)
  have h' : ∀ v ∈ vs, v.ok N := h
  clear h
  induction vs with
  |nil => intro v hv; cases hv
  |cons u r ih =>
   intro v hv
   rcases List.mem_cons.1 hv with rfl | hv
   ·exact PV.ok_mono (nmax_l _ _) (PV.ok_top (h' v (List.mem_cons_self ..)))
   ·exact PV.ok_mono (nmax_r _ _) (ih (fun w hw => h' w (List.mem_cons_of_mem _ hw)) v hv)
 |und => trivial
end
theorem topE_le {env : List (Nat × SV)} {t : Nat} {v : SV} (h : look env t = some v) : v.top ≤ topE env := by
 induction env with
 |nil => cases h
 |cons p r ih =>
  obtain ⟨k, u⟩ := p
  rw [look_cons] at h
  by_cases c : k = t
  ·rw [if_pos c] at h; cases h; exact nmax_l _ _
  ·rw [if_neg c] at h; exact Nat.le_trans (ih h) (nmax_r _ _)
theorem topH_le {heap : List (Nat × Nat × List S)} {g e : Nat} {ss : List S} (h : look heap g = some (e, ss)) : g < topH heap ∧ tops ss ≤ topH heap := by
 induction heap with
 |nil => cases h
 |cons p r ih =>
  obtain ⟨k, t, q⟩ := p
  rw [look_cons] at h
  by_cases c : k = g
  ·rw [if_pos c] at h
   cases h
   subst c
   exact ⟨nmax_l _ _, Nat.le_trans (nmax_l _ _) (nmax_r _ _)⟩
  ·rw [if_neg c] at h
   obtain ⟨h1, h2⟩ := ih h
   have := Nat.le_trans (nmax_r (tops q) (topH r)) (nmax_r (k + 1) (nmax (tops q) (topH r)))
   exact ⟨Nat.lt_of_lt_of_le h1 this, Nat.le_trans h2 this⟩
theorem clean_v {w0 : World} {nt mk : Nat} {m : Nat → Nat} {s : St} {a : Act} {w : World} (h : Rel w0 nt m s a w) : Rel w0 nt m (clean nt mk s) a w := by
 have k : ∀ {g e ss}, look (clean nt mk s).heap g = some (e, ss) → ∃ q, look s.heap g = some (e, q) ∧ ss = q.map S.gen := fun h => cleanH_look h
 refine ⟨h.size, h.dfr, ?_, ?_, ?_, h.bel⟩
 ·intro t v hv
  obtain ⟨u, hu, rfl⟩ := cleanE_look hv
  obtain ⟨o, e⟩ := h.env t u hu
  refine ⟨SV.ok_mono (Nat.le_trans (topE_le hv) (nmax_l _ _)) (SV.ok_top (SV.gen_ok o)), by rw [SV.gen_v]; exact e⟩
 ·intro g e ss hg
  obtain ⟨q, h1, rfl⟩ := k hg
  obtain ⟨a1, a2, a3, a4⟩ := h.heap g e q h1
  obtain ⟨c1, c2⟩ := topH_le hg
  exact ⟨Nat.lt_of_lt_of_le c1 (nmax_r _ _), oks_mono (Nat.le_trans c2 (nmax_r _ _)) (oks_top (oks_gen a2)), by rw [vals_gen]; exact a3, a4⟩
 ·intro g g' h1 h2 h3
  have k' : ∀ g, (look (clean nt mk s).heap g).isSome = true → (look s.heap g).isSome = true := fun g hg => by
   obtain ⟨⟨e, ss⟩, he⟩ := Option.isSome_iff_exists.mp hg
   obtain ⟨q, h1, _⟩ := k he
   rw [h1]; rfl
  exact h.inj g g' (k' g h1) (k' g' h2) h3

def Out.exit : Out → Exit
 |.nor => .normal
 |.ret => .ret
 |.ex id => .exit id
section
variable {P : Program} {cl : Cls} (hcl : ClsOk P cl) {R : Type} {w0 : World} {nt rm : Nat} {cuts : List Nat} {r : R}
def Does (P : Program) (w0 : World) (nt : Nat) (r : R) (c : Code) (f : St → (Out → St → Option R) → Option R) : Prop :=
 ∀ (s : St) (K : Out → St → Option R) (m : Nat → Nat) (a : Act) (w : World) (Q : Exit → Act → World → Prop), Rel w0 nt m s a w → (∀ c a w, ¬ Q (.panic c) a w) → f s K = some r →
  (∀ o s' m' a' w', K o s' = some r → Rel w0 nt m' s' a' w' → Q o.exit a' w') → c.wp P Q a w
theorem loop_v {c : Code} {f : Nat → St → (Out → St → Option R) → Option R} {mk : Nat} (hf : ∀ n, Does P w0 nt r c (f n)) : ∀ (n : Nat) (s : St) (K : Out → St → Option R) (m : Nat → Nat) (a : Act) (w : World) (Q : Exit → Act → World → Prop), Rel w0 nt m s a w →
  (∀ c a w, ¬ Q (.panic c) a w) → loopN nt f mk n s K = some r → (∀ o s' m' a' w', K o s' = some r → Rel w0 nt m' s' a' w' → Q o.exit a' w') → Code.rounds P c Q n a w := by
 intro n
 induction n with
 |zero => intro s K m a w Q _ _ h _; cases h
 |succ n ih =>
  intro s K m a w Q hr hQ h hK
  unfold loopN at h
  refine hf n s _ m a w _ hr (fun c a w => hQ c a w) h fun o s' m' a' w' ho hr' => ?_
  cases o with
  |nor => exact ih _ _ m' a' w' Q (clean_v hr') hQ ho hK
  |ret => exact hK .ret _ _ _ _ ho hr'
  |ex id => exact hK (.ex id) _ _ _ _ ho hr'
include hcl in
theorem evC_v : ∀ (c : Code) (lv : Nat) (ex : List (Nat × Nat)) (n : Nat), Does P w0 nt r c (evC P nt cl rm cuts c lv ex n) := by
 intro c
 induction c with
 |skip => intro lv ex n s K m a w Q hr _ h hK; exact wp_skip (hK .nor _ _ _ _ h hr)
 |region id ops draw => intro lv ex n s K m a w Q hr hQ h hK; exact evReg_v hcl hr hQ h (fun s' m' a' w' h' hr' => hK .nor _ _ _ _ h' hr')
 |seq x y ihx ihy =>
  intro lv ex n s K m a w Q hr hQ h hK
  refine wp_seq (ihx _ _ _ s _ m a w _ hr (fun c a w => hQ c a w) h fun o s' m' a' w' ho hr' => ?_)
  cases o with
  |nor =>
   have ho : (cnd (cutAt cuts y) (evJ (fun s => evC P nt cl rm cuts y lv ex n s K) (clean nt (lvC rm y lv ex) s')) <| evC P nt cl rm cuts y lv ex n s' K) = some r := ho
   show y.wp P Q a' w'
   rcases bcond ho with ⟨_, h1⟩ | ⟨_, h1⟩
   ·exact ihy _ _ _ _ K m' a' w' Q (clean_v hr') hQ h1 hK
   ·exact ihy _ _ _ _ K m' a' w' Q hr' hQ h1 hK
  |ret => exact hK .ret _ _ _ _ ho hr'
  |ex id => exact hK (.ex id) _ _ _ _ ho hr'
 |cond x y z ihy ihz =>
  intro lv ex n s K m a w Q hr hQ h hK
  unfold evC at h
  split at h
  ·next e he =>
   obtain ⟨_, eb⟩ := ev_v hr.env he
   have eb' : a.eval x = .bool e.d := eb
   rw [BE.ite_d] at h
   refine wp_cond_split eb' (fun hd => ?_) (fun hd => ?_)
   ·rw [if_pos hd] at h; exact ihy _ _ _ _ K m a w Q hr hQ h hK
   ·rw [if_neg (by rw [hd]; decide)] at h; exact ihz _ _ _ _ K m a w Q hr hQ h hK
  ·cases h
 |block id x ih =>
  intro lv ex n s K m a w Q hr hQ h hK
  refine wp_block (ih _ _ _ s _ m a w _ hr (fun c a w => hQ c a w) h fun o s' m' a' w' ho hr' => ?_)
  cases o with
  |nor => exact hK .nor _ _ _ _ ho hr'
  |ret => exact hK .ret _ _ _ _ ho hr'
  |ex j =>
   show if j = id then Q .normal a' w' else Q (.exit j) a' w'
   have ho : (cnd (Nat.beq j id) (K .nor s') <| K (.ex j) s') = some r := ho
   rcases bcond ho with ⟨h0, h1⟩ | ⟨h0, h1⟩
   ·rw [if_pos (Nat.eq_of_beq_eq_true h0)]; exact hK .nor _ _ _ _ h1 hr'
   ·rw [if_neg (Nat.ne_of_beq_eq_false h0)]; exact hK (.ex j) _ _ _ _ h1 hr'
 |loop x ih =>
  intro lv ex n s K m a w Q hr hQ h hK
  exact wp_loop_rounds n (loop_v (fun n => ih _ _ n) n _ K m a w Q (clean_v hr) hQ h hK)
 |exit id => intro lv ex n s K m a w Q hr _ h hK; exact wp_exit (hK (.ex id) _ _ _ _ h hr)
 |ret => intro lv ex n s K m a w Q hr _ h hK; exact wp_ret (hK .ret _ _ _ _ h hr)
 |_ => intro lv ex n s K m a w Q hr _ h hK; cases h

def resSem (tmps : Array Value) : ResultVar → Sem Value
 |.tmp t => pure (tmps.getD t undef)
 |.cell b t => do loadVar t (← asAddr (tmps.getD b undef))
theorem results_eq (fn : Func) (tmps : Array Value) : results fn tmps = (do
  let vs ← fn.results.mapM (resSem tmps)
  pure (if h : vs.size = 1 then vs[0] else .tuple vs)) := by
 unfold results
 have : (fun x => match x with
   |ResultVar.tmp t => pure (tmps.getD t undef)
   |ResultVar.cell a t => do loadVar t (← asAddr (tmps.getD a undef))) = resSem tmps := by funext x; cases x <;> rfl
 exact congrArg (fun f => (do
  let vs ← fn.results.mapM f
  pure (if h : vs.size = 1 then vs[0] else .tuple vs) : Sem Value)) this
theorem resPV_v {m : Nat → Nat} {s : St} {a : Act} {w : World} (hr : Rel w0 nt m s a w) {x : ResultVar} {v : PV} (h : resPV P s x = some v) :
  v.ok s.next ∧ (resSem a.tmps x).run P w = .ok (v.v m) w := by
 cases x with
 |tmp t =>
  have h : (match look s.env t with
   |some (.pv v) => some v
   |_ => none) = some v := h
  split at h
  ·next u hu =>
   cases h
   obtain ⟨o, e⟩ := hr.env t _ hu
   exact ⟨o, by show (pure (a.tmps.getD t undef) : Sem Value).run P w = _; rw [Sem.run_pure, e]; rfl⟩
  ·cases h
 |cell b t =>
  have h : (match look s.env b with
   |some (.pv (.one c)) => loadS P t s.heap c
   |_ => none) = some v := h
  split at h
  ·next c hc =>
   obtain ⟨o, e⟩ := hr.env b _ hc
   obtain ⟨o1, e1⟩ := loadS_v (w := w) o (fun g e ss hg => ⟨(hr.heap g e ss hg).2.1, (hr.heap g e ss hg).2.2.1⟩) h
   refine ⟨o1, ?_⟩
   have e' : a.tmps.getD b undef = c.v m := e
   have hp : ∃ ad, c.v m = .pointer (some ad) := by
    cases c with
    |p g o => exact ⟨_, rfl⟩
    |pd g o j n => exact ⟨_, rfl⟩
    |_ => cases h
   obtain ⟨ad, had⟩ := hp
   rw [had] at e1 e'
   have e1 : (loadVar t ad).run P w = .ok (v.v m) w := e1
   show (do loadVar t (← asAddr (a.tmps.getD b undef)) : Sem Value).run P w = _
   rw [e']
   exact e1
  ·cases h
theorem resPVs_v {m : Nat → Nat} {s : St} {a : Act} {w : World} (hr : Rel w0 nt m s a w) {xs : List ResultVar} : ∀ {vs : List PV}, resPVs P s xs = some vs → (∀ v ∈ vs, v.ok s.next) ∧ (xs.mapM (resSem a.tmps)).run P w = .ok (vs.map (PV.v m)) w := by
 induction xs with
 |nil => intro vs h; cases h; exact ⟨by simp, by simp⟩
 |cons x r ih =>
  intro vs h
  unfold resPVs at h
  split at h
  ·next v ws h1 h2 =>
   cases h
   obtain ⟨o, e⟩ := resPV_v hr h1
   obtain ⟨o', e'⟩ := ih h2
   refine ⟨fun u hu => ?_, ?_⟩
   ·rcases List.mem_cons.1 hu with rfl | hu
    ·exact o
    ·exact o' u hu
   ·rw [List.mapM_cons, Sem.run_bind, e]
    simp only [Result.andThen_ok, Sem.run_bind, e', Sem.run_pure, List.map_cons]
  ·cases h
theorem resSV_v {m : Nat → Nat} {s : St} {a : Act} {w : World} (hr : Rel w0 nt m s a w) {fn : Func} {v : SV} (h : resSV P fn s = some v) : v.ok s.next ∧ (results fn a.tmps).run P w = .ok (v.v m) w := by
 unfold resSV at h
 have hrun : ∀ vs, resPVs P s fn.results.toList = some vs → (∀ v ∈ vs, v.ok s.next) ∧ (results fn a.tmps).run P w = .ok (if h : (vs.map (PV.v m)).toArray.size = 1 then (vs.map (PV.v m)).toArray[0] else .tuple (vs.map (PV.v m)).toArray) w := by
  intro vs hvs
  obtain ⟨o, e⟩ := resPVs_v hr hvs
  refine ⟨o, ?_⟩
  have e2 : (fn.results.mapM (resSem a.tmps)).run P w = .ok (vs.map (PV.v m)).toArray w := by
   rw [Array.mapM_eq_mapM_toList]
   simp [e]
  rw [results_eq, Sem.run_bind, e2]
  rfl
 split at h
 ·next u hu =>
  cases h
  obtain ⟨o, e⟩ := hrun _ hu
  exact ⟨o u (List.mem_cons_self ..), by rw [e]; rfl⟩
 ·next vs hne hu =>
  cases h
  obtain ⟨o, e⟩ := hrun _ hu
  refine ⟨o, ?_⟩
  rw [e, dif_neg]
  ·rfl
  ·intro hl
   match vs, hl, hne with
   |[u], _, hne => exact hne u rfl
 ·cases h
theorem argE_look {vs : List PV} : ∀ {i t : Nat} {v : SV}, look (argE vs i) t = some v → ∃ u, i ≤ t ∧ vs[t - i]? = some u ∧ v = .pv u := by
 induction vs with
 |nil => intro i t v h; cases h
 |cons u r ih =>
  intro i t v h
  unfold argE at h
  rw [look_cons] at h
  by_cases c : i = t
  ·rw [if_pos c] at h; cases h; subst c; exact ⟨u, Nat.le_refl _, by simp, rfl⟩
  ·rw [if_neg c] at h
   obtain ⟨x, h1, h2, h3⟩ := ih h
   refine ⟨x, by omega, ?_, h3⟩
   rw [show t - i = (t - (i + 1)) + 1 by omega, List.getElem?_cons_succ]; exact h2
include hcl in
theorem evF_v {f n : Nat} {fn : Func} {vs : List PV} {K : SV → Option R} (hf : P.funcs[f]? = some fn) (ho : ∀ v ∈ vs, v.ok 0) (h : evF P cl fn cuts n vs K = some r) :
  ∀ (m : Nat → Nat) (w : World), Calls P f (vs.map (PV.v m)).toArray w fun e w' => ∃ v m', K v = some r ∧ e = .returned (v.v m') ∧ (∃ N, v.ok N) ∧ Below w.heap.size w w' := by
 intro m w
 unfold evF at h
 split at h
 ·next c hb =>
  obtain ⟨h0, h1⟩ := bsome h
  rw [Bool.and_eq_true] at h0
  have h2 := Nat.eq_of_beq_eq_true h0.1
  have h3 := Nat.le_of_ble_eq_true h0.2
  have hrel : Rel w fn.ntmps m ⟨argE vs 0, [], 0⟩ { tmps := (vs.map (PV.v m)).toArray ++ Array.replicate (fn.ntmps - (vs.map (PV.v m)).toArray.size) undef, defers := [] } w := by
   refine ⟨by simp; omega, rfl, ?_, (fun g e ss hg => nomatch hg), (fun g g' hg => nomatch hg), Below.refl _ _⟩
   intro t v hv
   obtain ⟨u, _, hu, rfl⟩ := argE_look hv
   rw [Nat.sub_zero] at hu
   refine ⟨ho u (List.mem_of_getElem? hu), ?_⟩
   have hlt : t < vs.length := (List.getElem?_eq_some_iff.1 hu).1
   rw [Array.getD_eq_getD_getElem?, Array.getElem?_append_left (by simpa using hlt)]
   simp [hu]
   rfl
  refine calls_of_wp hf hb ?_
  refine wp_mono (Q := fun e a' w' => (∃ v m', K v = some r ∧ (∃ N, v.ok N) ∧ a'.defers = [] ∧ (results fn a'.tmps).run P w' = .ok (v.v m') w' ∧ Below w.heap.size w w') ∧ (e = .normal ∨ e = .ret)) (evC_v hcl c _ _ n _ _ m _ w _ hrel ?_ h1 ?_) ?_
  ·rintro c a w ⟨_, h | h⟩ <;> cases h
  ·intro o s' m' a' w' hk hr'
   have fin : (match resSV P fn s' with
     |some v => K v
     |none => none) = some r → ∃ v m', K v = some r ∧ (∃ N, v.ok N) ∧ a'.defers = [] ∧ (results fn a'.tmps).run P w' = .ok (v.v m') w' ∧ Below w.heap.size w w' := by
    intro hk
    split at hk
    ·next v hv =>
     obtain ⟨o1, e1⟩ := resSV_v hr' hv
     exact ⟨v, m', hk, ⟨_, o1⟩, hr'.dfr, e1, hr'.bel⟩
    ·cases hk
   cases o with
   |nor => exact ⟨fin hk, .inl rfl⟩
   |ret => exact ⟨fin hk, .inr rfl⟩
   |ex id => cases hk
  ·rintro e a' w' ⟨⟨v, m', g1, g2, g3, g4, g5⟩, he⟩
   rcases he with rfl | rfl
   ·exact ⟨g3, _, g4, v, m', g1, rfl, g2, g5⟩
   ·exact ⟨g3, _, g4, v, m', g1, rfl, g2, g5⟩
 ·cases h
end
/- Functions of numbers, truth values, structs and arrays of these: what they are given and answer, as plain values. -/

inductive Lf where
 |i (k : IntKind)
 |b
 |a (k : IntKind) (n : Nat)
def Lf.T : Lf → Type
 |.i _ => Int
 |.b => Bool
 |.a _ _ => List Int
def Tq : List Lf → Type
 |[] => Unit
 |l :: r => l.T × Tq r
def giveLf : (l : Lf) → l.T → S
 |.i k, x => .c (.i k (.x x))
 |.b, x => .c (.b (.q x))
 |.a k n, xs => .a k xs n
def giveLs : (ls : List Lf) → Tq ls → List S
 |[], _ => []
 |l :: r, x => giveLf l x.1 :: giveLs r x.2
def takeLf : (l : Lf) → List S → Option (l.T × List S)
 |.i k, .c (.i k' x) :: r => cnd (decide (k' = k)) (some (x.d, r)) <| none
 |.b, .c (.b x) :: r => some (x.d, r)
 |.a k n, .a k' xs n' :: r => cnd (decide (k' = k) && Nat.beq n' n) (some (xs, r)) <| none
 |.a k n, ss => match splitS ss n with
  |some (q, r) => match intsS k q with
   |some xs => some (xs, r)
   |none => none
  |none => none
 |_, _ => none
def takeLs : (ls : List Lf) → List S → Option (Tq ls)
 |[], [] => some ()
 |[], _ :: _ => none
 |l :: r, ss => match takeLf l ss with
  |some (x, q) => match takeLs r q with
   |some y => some (x, y)
   |none => none
  |none => none
inductive Sh where
 |one (l : Lf)
 |agg (ls : List Lf)
def Sh.lfs : Sh → List Lf
 |.one l => [l]
 |.agg ls => ls
def takeSh (h : Sh) (v : PV) : Option (Tq h.lfs) := match h, v with
 |.one l, .one c => takeLs [l] [.c c]
 |.agg ls, .agg ss => takeLs ls ss
 |_, _ => none
def giveSh : (h : Sh) → Tq h.lfs → PV
 |.one l, x => match giveLf l x.1 with
  |.c c => .one c
  |s => .agg [s]
 |.agg ls, x => .agg (giveLs ls x)
def Ts : List Sh → Type
 |[] => Unit
 |h :: r => Tq h.lfs × Ts r
def takes : (hs : List Sh) → List PV → Option (Ts hs)
 |[], [] => some ()
 |[], _ :: _ => none
 |_ :: _, [] => none
 |h :: r, v :: q => match takeSh h v, takes r q with
  |some x, some y => some (x, y)
  |_, _ => none
def gives : (hs : List Sh) → Ts hs → List PV
 |[], _ => []
 |h :: r, x => giveSh h x.1 :: gives r x.2
def Sh.plain : Sh → Bool
 |.one (.a _ _) => false
 |_ => true
def takeR (hs : List Sh) : SV → Option (Ts hs)
 |.pv v => takes hs [v]
 |.tup vs => cnd (Nat.beq vs.length 1) (none) <| takes hs vs
 |.und => none
def giveR (hs : List Sh) (x : Ts hs) : SV := match gives hs x with
 |[v] => .pv v
 |vs => .tup vs

theorem takeLf_v (m : Nat → Nat) {N : Nat} {l : Lf} {ss r : List S} {x : l.T} (ho : oks N ss) (h : takeLf l ss = some (x, r)) : oks N r ∧ (giveLf l x).ok 0 ∧ vals m ss = (giveLf l x).v m ++ vals m r := by
 cases l with
 |i k =>
  match ss, h with
  |.c (.i k' y) :: q, h =>
   obtain ⟨h1, h2⟩ := bsome h
   cases h2
   obtain rfl := of_decide_eq_true h1
   exact ⟨ho.2, trivial, rfl⟩
 |b =>
  match ss, h with
  |.c (.b y) :: q, h => cases h; exact ⟨ho.2, trivial, rfl⟩
 |a k n =>
  have gen : (match splitS ss n with
    |some (q, r) => match intsS k q with
     |some xs => some (xs, r)
     |none => none
    |none => none) = some (x, r) → oks N r ∧ (giveLf (.a k n) x).ok 0 ∧ vals m ss = (giveLf (.a k n) x).v m ++ vals m r := by
   intro h
   split at h
   ·next q r' hs =>
    split at h
    ·next xs hi =>
     cases h
     obtain ⟨e, hl⟩ := splitS_v hs
     subst e
     rw [oks_append] at ho
     have hv := intsS_v m hi
     have hlen := vals_length m q ho.1
     refine ⟨ho.2, ?_, ?_⟩
     ·have h1 : (vals m q).length = (show List Int from x).length := by rw [hv]; exact List.length_map ..
      show (show List Int from x).length = n
      omega
     ·rw [vals_append, hv]; rfl
    ·cases h
   ·cases h
  match ss, h with
  |.a k' xs n' :: q, h =>
   obtain ⟨h1, h2⟩ := bsome h
   cases h2
   rw [Bool.and_eq_true] at h1
   obtain rfl := of_decide_eq_true h1.1
   obtain rfl := Nat.eq_of_beq_eq_true h1.2
   exact ⟨ho.2, ho.1, rfl⟩
  |[], h => exact gen h
  |.c u :: q, h => exact gen h
theorem takeLs_v (m : Nat → Nat) {N : Nat} : ∀ {ls : List Lf} {ss : List S} {x : Tq ls}, oks N ss → takeLs ls ss = some x → oks 0 (giveLs ls x) ∧ vals m ss = vals m (giveLs ls x) := by
 intro ls
 induction ls with
 |nil =>
  intro ss x _ h
  cases ss with
  |nil => exact ⟨trivial, rfl⟩
  |cons s r => cases h
 |cons l ls ih =>
  intro ss x ho h
  unfold takeLs at h
  split at h
  ·next y q hy =>
   split at h
   ·next z hz =>
    cases h
    obtain ⟨o1, o2, e⟩ := takeLf_v m ho hy
    obtain ⟨o3, e2⟩ := ih o1 hz
    exact ⟨⟨o2, o3⟩, by rw [e, e2]; rfl⟩
   ·cases h
  ·cases h
theorem takeSh_v (m : Nat → Nat) {N : Nat} {h : Sh} {v : PV} {x : Tq h.lfs} (hp : h.plain = true) (ho : v.ok N) (ht : takeSh h v = some x) : (giveSh h x).ok 0 ∧ v.v m = (giveSh h x).v m := by
 cases h with
 |one l =>
  cases v with
  |agg ss => cases ht
  |one c =>
   obtain ⟨o1, e⟩ := takeLs_v m (ls := [l]) (ss := [.c c]) (N := N) ⟨ho, trivial⟩ ht
   have e : [c.v m] = vals m (giveLs [l] x) := e
   cases l with
   |a k n => cases hp
   |i k =>
    refine ⟨trivial, ?_⟩
    have : [c.v m] = [Value.int k x.1] := e
    exact (List.cons.inj this).1
   |b =>
    refine ⟨trivial, ?_⟩
    have : [c.v m] = [Value.bool x.1] := e
    exact (List.cons.inj this).1
 |agg ls =>
  cases v with
  |one c => cases ht
  |agg ss =>
   obtain ⟨o1, e⟩ := takeLs_v m ho ht
   exact ⟨o1, by show Value.agg _ = Value.agg _; rw [e]⟩
theorem takes_v {N : Nat} : ∀ {hs : List Sh} {vs : List PV} {x : Ts hs}, hs.all Sh.plain = true → (∀ v ∈ vs, v.ok N) → takes hs vs = some x → (∀ v ∈ gives hs x, v.ok 0) ∧ ∀ m, vs.map (PV.v m) = (gives hs x).map (PV.v m) := by
 intro hs
 induction hs with
 |nil =>
  intro vs x _ _ h
  cases vs with
  |nil => exact ⟨(fun v hv => nomatch hv), fun _ => rfl⟩
  |cons v r => cases h
 |cons h hs ih =>
  intro vs x hp ho ht
  cases vs with
  |nil => cases ht
  |cons v r =>
   rw [List.all_cons, Bool.and_eq_true] at hp
   unfold takes at ht
   split at ht
   ·next y z hy hz =>
    cases ht
    obtain ⟨o2, e2⟩ := ih hp.2 (fun u hu => ho u (List.mem_cons_of_mem _ hu)) hz
    have hv := ho v (List.mem_cons_self ..)
    refine ⟨fun u hu => ?_, fun m => ?_⟩
    ·have hu : u ∈ giveSh h y :: gives hs z := hu
     rcases List.mem_cons.1 hu with rfl | hu
     ·exact (takeSh_v id hp.1 hv hy).1
     ·exact o2 u hu
    ·show v.v m :: r.map (PV.v m) = (giveSh h y).v m :: (gives hs z).map (PV.v m)
     rw [(takeSh_v m hp.1 hv hy).2, e2 m]
   ·cases ht
theorem takeR_v {N : Nat} {hs : List Sh} {v : SV} {x : Ts hs} (hp : hs.all Sh.plain = true) (ho : v.ok N) (h : takeR hs v = some x) : (giveR hs x).ok 0 ∧ ∀ m m', v.v m' = (giveR hs x).v m := by
 have cong : ∀ (vs : List PV), (∀ v ∈ vs, v.ok 0) → ∀ m m' : Nat → Nat, vs.map (PV.v m') = vs.map (PV.v m) := fun vs hv m m' =>
  List.map_congr_left fun u hu => PV.v_congr (N := 0) (fun g hg => absurd hg (Nat.not_lt_zero _)) (hv u hu)
 have main : ∀ vs : List PV, (∀ v ∈ vs, v.ok N) → takes hs vs = some x → (∀ v ∈ gives hs x, v.ok 0) ∧ ∀ m m', vs.map (PV.v m') = (gives hs x).map (PV.v m) := fun vs hv ht => by
  obtain ⟨o, e⟩ := takes_v hp hv ht
  exact ⟨o, fun m m' => (e m').trans (cong _ o m m')⟩
 cases v with
 |und => cases h
 |pv u =>
  obtain ⟨o, e⟩ := main [u] (by intro v hv; rcases List.mem_cons.1 hv with rfl | hv; exact ho; cases hv) h
  unfold giveR
  have hl : (gives hs x).length = 1 := by
   have := congrArg List.length (e id id); simpa using this.symm
  match hg : gives hs x, hl with
  |[w], _ =>
   rw [hg] at o e
   refine ⟨o w (List.mem_cons_self ..), fun m m' => ?_⟩
   have := e m m'
   exact (List.cons.inj this).1
 |tup vs =>
  have h0 : (cnd (Nat.beq vs.length 1) (none) <| takes hs vs) = some x := h
  have hne : vs.length ≠ 1 := by
   intro hl
   rw [hl] at h0
   cases h0
  have h' : takes hs vs = some x := by
   rcases bcond h0 with ⟨_, h1⟩ | ⟨_, h1⟩
   ·cases h1
   ·exact h1
  obtain ⟨o, e⟩ := main vs ho h'
  have hl : (gives hs x).length ≠ 1 := by
   intro hl
   have := congrArg List.length (e id id)
   simp only [List.length_map] at this
   omega
  have hg : giveR hs x = .tup (gives hs x) := by
   unfold giveR
   split
   ·next u hu => rw [hu] at hl; exact absurd rfl hl
   ·rfl
  rw [hg]
  exact ⟨o, fun m m' => by show Value.tuple _ = Value.tuple _; rw [e m m']⟩

def Lf.na : Lf → Bool
 |.a _ _ => false
 |_ => true
theorem giveLs_ok : ∀ {ls : List Lf} (x : Tq ls), ls.all Lf.na = true → oks 0 (giveLs ls x) := by
 intro ls
 induction ls with
 |nil => intro x _; trivial
 |cons l ls ih =>
  intro x h
  rw [List.all_cons, Bool.and_eq_true] at h
  refine ⟨?_, ih x.2 h.2⟩
  cases l with
  |a k n => cases h.1
  |i k => trivial
  |b => trivial
theorem gives_ok : ∀ {hs : List Sh} (x : Ts hs), hs.all (fun s => s.lfs.all Lf.na) = true → ∀ v ∈ gives hs x, v.ok 0 := by
 intro hs
 induction hs with
 |nil => intro x _ v hv; cases hv
 |cons h hs ih =>
  intro x hh v hv
  rw [List.all_cons, Bool.and_eq_true] at hh
  rcases List.mem_cons.1 hv with rfl | hv
  ·cases h with
   |agg ls => exact giveLs_ok x.1 hh.1
   |one l =>
    cases l with
    |a k n => have := hh.1; cases this
    |i k => trivial
    |b => trivial
  ·exact ih x.2 hh.2 v hv
theorem giveR_ok {hs : List Sh} (h : hs.all (fun s => s.lfs.all Lf.na) = true) (x : Ts hs) : (giveR hs x).ok 0 := by
 have k := gives_ok x h
 unfold giveR
 split
 ·next v hv => exact k v (by rw [hv]; exact List.mem_cons_self ..)
 ·exact k
def mkFc (as_ rs : List Sh) {T : Type} (un : T → Ts rs) (g : Nat → Ts as_ → Option T) : Fc := ⟨fun _ n _ vs K => match takes as_ vs with
 |some x => (g n x).bind fun y => K (giveR rs (un y))
 |none => none⟩
theorem ClsOk.nil {P : Program} : ClsOk P [] := fun _ _ h => nomatch h
theorem ClsOk.cons {P : Program} {f : FuncId} {c : Fc} {cl : Cls} (h : FcOk P f c) (k : ClsOk P cl) : ClsOk P ((f, c) :: cl) := fun f' c' hl => by
 rw [look_cons] at hl
 by_cases e : f = f'
 ·rw [if_pos e] at hl; cases hl; subst e; exact h
 ·rw [if_neg e] at hl; exact k f' c' hl
theorem old_ok {P : Program} {f : FuncId} {fn : Func} {as_ rs : List Sh} {T : Type} {un : T → Ts rs} {g : Nat → Ts as_ → Option T} (hf : P.funcs[f]? = some fn) (hb : fn.body.isSome = true) (hn : (fn.name == "runtime.NumGoroutine") = false)
  (hp : (as_.all Sh.plain && rs.all Sh.plain) = true) (h0 : ∀ y, (giveR rs (un y)).ok 0) (hc : ∀ n x y, g n x = some y → ∀ (m : Nat → Nat) (w : World), Calls P f ((gives as_ x).map (PV.v m)).toArray w fun e w' => e = .returned ((giveR rs (un y)).v m) ∧ Below w.heap.size w w') : FcOk P f (mkFc as_ rs un g) := by
 rw [Bool.and_eq_true] at hp
 refine ⟨⟨fn, hf, hb, hn⟩, fun R n N _ vs K r ho h => ?_⟩
 have h : (match takes as_ vs with
  |some x => (g n x).bind fun y => K (giveR rs (un y))
  |none => none) = some r := h
 split at h
 ·next x hx =>
  obtain ⟨y, hy, hK⟩ := Option.bind_eq_some_iff.mp h
  obtain ⟨o1, e1⟩ := takes_v hp.1 ho hx
  exact ⟨_, hK, h0 y, fun m w _ => by rw [e1 m]; exact hc n x y hy m w⟩
 ·cases h
theorem mkOk {P : Program} {cl : Cls} (hcl : ClsOk P cl) {f : FuncId} {fn : Func} {cuts : List Nat} {as_ rs : List Sh} {T : Type} {cv : Ts rs → T} {un : T → Ts rs} {g : Nat → Ts as_ → Option T} (hf : P.funcs[f]? = some fn) (hb : fn.body.isSome = true) (hn : (fn.name == "runtime.NumGoroutine") = false)
  (hp : (as_.all Sh.plain && rs.all Sh.plain) = true) (hu : ∀ z, un (cv z) = z) (hg : ∀ n x, g n x = evF P cl fn cuts n (gives as_ x) (fun v => (takeR rs v).map cv)) : FcOk P f (mkFc as_ rs un g) := by
 rw [Bool.and_eq_true] at hp
 refine ⟨⟨fn, hf, hb, hn⟩, fun R n N _ vs K r ho h => ?_⟩
 have h : (match takes as_ vs with
  |some x => (g n x).bind fun y => K (giveR rs (un y))
  |none => none) = some r := h
 split at h
 ·next x hx =>
  obtain ⟨y, hy, hK⟩ := Option.bind_eq_some_iff.mp h
  rw [hg] at hy
  obtain ⟨o1, e1⟩ := takes_v hp.1 ho hx
  refine ⟨_, hK, ?_⟩
  have hc : ∀ m w, Calls P f (vs.map (PV.v m)).toArray w fun e w' => (giveR rs (un y)).ok 0 ∧ e = .returned ((giveR rs (un y)).v m) ∧ Below w.heap.size w w' := fun m w => by
   rw [e1 m]
   refine (evF_v hcl hf o1 hy m w).mono ?_
   rintro e w' ⟨v, m', h1, rfl, ⟨N, h2⟩, h3⟩
   obtain ⟨z, hz, rfl⟩ := Option.map_eq_some_iff.mp h1
   rw [hu]
   obtain ⟨k1, k2⟩ := takeR_v hp.2 h2 hz
   exact ⟨k1, by rw [k2 m m'], h3⟩
  refine ⟨?_, fun m w _ => (hc m w).mono fun e w' he => he.2⟩
  obtain ⟨e, w', fr, hR, _⟩ := hc id default []
  exact hR.1
 ·cases h
theorem calls_of {P : Program} {f : FuncId} {as_ rs : List Sh} {T : Type} {un : T → Ts rs} {g : Nat → Ts as_ → Option T} (hok : FcOk P f (mkFc as_ rs un g)) (n : Nat) (x : Ts as_) (y : T) (ht : takes as_ (gives as_ x) = some x) (h : g n x = some y) (w : World) (hp : as_.all (fun s => s.lfs.all Lf.na) = true := by decide) :
  Calls P f ((gives as_ x).map (PV.v id)).toArray w fun e w' => e = .returned ((giveR rs (un y)).v id) ∧ Below w.heap.size w w' := by
 have hr : (mkFc as_ rs un g).run SV n [] (gives as_ x) some = some (giveR rs (un y)) := by
  show (match takes as_ (gives as_ x) with
   |some x => (g n x).bind fun y => some (giveR rs (un y))
   |none => none) = _
  rw [ht]
  show (g n x).bind _ = _
  rw [h]; rfl
 obtain ⟨v, hv, _, hc⟩ := hok.run SV n 0 [] (gives as_ x) some _ (gives_ok x hp) hr
 cases hv
 exact hc id w ⟨0, fun g e ss h => nomatch h⟩
inductive Ar where
 |s (h : Sh)
 |sl (k : IntKind)
def Ta : List Ar → Type
 |[] => Unit
 |.s h :: r => Tq h.lfs × Ta r
 |.sl _ :: r => List Int × Ta r
def sliceOf (h : List (Nat × Nat × List S)) (k : IntKind) : PV → Option (List Int)
 |.one (.sl g o n c) => match look h g with
  |some (_, [.a k' xs q]) => cnd (Nat.beq o 0 && Nat.beq q n && Nat.ble n c && Nat.ble n 1000 && decide (k' = k)) (some xs) <| none
  |_ => none
 |_ => none
def takeA (h : List (Nat × Nat × List S)) : (as_ : List Ar) → List PV → Option (Ta as_)
 |[], [] => some ()
 |[], _ :: _ => none
 |_ :: _, [] => none
 |.s p :: r, v :: q => match takeSh p v, takeA h r q with
  |some x, some y => some (x, y)
  |_, _ => none
 |.sl k :: r, v :: q => match sliceOf h k v, takeA h r q with
  |some x, some y => some (x, y)
  |_, _ => none
def Are (w : World) : (as_ : List Ar) → Ta as_ → List Value → Prop
 |[], _, vs => vs = []
 |.s p :: r, x, vs => ∃ q, vs = (giveSh p x.1).v id :: q ∧ Are w r x.2 q
 |.sl k :: r, x, vs => ∃ A c q, vs = .slice A x.1.length c :: q ∧ Kd.C (Kd.int k) w A x.1.length x.1 ∧ x.1.length ≤ c ∧ Are w r x.2 q
def Ar.plain : Ar → Bool
 |.s h => h.plain
 |_ => true
theorem sliceOf_v {h : List (Nat × Nat × List S)} {k : IntKind} {v : PV} {xs : List Int} (e : sliceOf h k v = some xs) {m : Nat → Nat} {w : World} (hw : HeapIs m h w) : ∃ A c, v.v m = .slice A xs.length c ∧ Kd.C (Kd.int k) w A xs.length xs ∧ xs.length ≤ c := by
 unfold sliceOf at e
 split at e
 ·next g o n c =>
  split at e
  ·next t k' ys q hl =>
   obtain ⟨h1, h2⟩ := bsome e
   cases h2
   simp only [Bool.and_eq_true] at h1
   obtain ⟨⟨⟨⟨h1, h2⟩, h3⟩, h4⟩, h5⟩ := h1
   obtain rfl := Nat.eq_of_beq_eq_true h1
   obtain rfl := Nat.eq_of_beq_eq_true h2
   have h3 := Nat.le_of_ble_eq_true h3
   have h4 := Nat.le_of_ble_eq_true h4
   obtain rfl := of_decide_eq_true h5
   obtain ⟨N, hw⟩ := hw
   obtain ⟨o1, o2⟩ := hw g t _ hl
   have ol : xs.length = q := o1.1
   subst ol
   have o3 : vals m [S.a k' xs xs.length] = xs.map (Value.int k') := by show xs.map _ ++ [] = _; rw [List.append_nil]
   rw [o3] at o2
   refine ⟨some ⟨m g, 0, none⟩, c, rfl, ⟨rfl, by omega, fun _ => ⟨_, rfl, fun j p hj => ⟨[.int k' p], rfl, rfl, fun i u hu => ?_⟩⟩⟩, h3⟩
   have hi : i = 0 := by
    cases i with
    |zero => rfl
    |succ i => cases hu
   subst hi
   cases hu
   unfold World.cell? Addr.add
   have hk : (Kd.int k').sz = 1 := rfl
   by_cases j0 : j = 0
   ·subst j0; simp [hk, o2]; simpa using hj
   ·simp [hk, j0, o2]; simpa using hj
  ·cases e
 ·cases e
theorem takeA_v {h : List (Nat × Nat × List S)} {N : Nat} : ∀ {as_ : List Ar} {vs : List PV} {x : Ta as_}, as_.all Ar.plain = true → (∀ v ∈ vs, v.ok N) → takeA h as_ vs = some x → ∀ (m : Nat → Nat) (w : World), HeapIs m h w → Are w as_ x (vs.map (PV.v m)) := by
 intro as_
 induction as_ with
 |nil =>
  intro vs x _ _ e m w _
  cases vs with
  |nil => rfl
  |cons v r => cases e
 |cons p as_ ih =>
  intro vs x hp ho e m w hw
  rw [List.all_cons, Bool.and_eq_true] at hp
  cases vs with
  |nil => cases p <;> cases e
  |cons v r =>
   cases p with
   |s q =>
    unfold takeA at e
    split at e
    ·next y z hy hz =>
     cases e
     obtain ⟨o1, e1⟩ := takeSh_v m hp.1 (ho v (List.mem_cons_self ..)) hy
     refine ⟨r.map (PV.v m), ?_, ih hp.2 (fun u hu => ho u (List.mem_cons_of_mem _ hu)) hz m w hw⟩
     show v.v m :: _ = _
     rw [e1, PV.v_congr (N := 0) (m := m) (m' := id) (fun g hg => absurd hg (Nat.not_lt_zero _)) o1]
    ·cases e
   |sl k =>
    unfold takeA at e
    split at e
    ·next y z hy hz =>
     cases e
     obtain ⟨A, c, e1, e2, e3⟩ := sliceOf_v hy hw
     refine ⟨A, c, r.map (PV.v m), ?_, e2, e3, ih hp.2 (fun u hu => ho u (List.mem_cons_of_mem _ hu)) hz m w hw⟩
     show v.v m :: _ = _
     rw [e1]
    ·cases e
def mkFcA (as_ : List Ar) (rs : List Sh) {T : Type} (un : T → Ts rs) (g : Nat → Ta as_ → Option T) : Fc := ⟨fun _ n h vs K => match takeA h as_ vs with
 |some x => (g n x).bind fun y => K (giveR rs (un y))
 |none => none⟩
theorem oldA_ok {P : Program} {f : FuncId} {fn : Func} {as_ : List Ar} {rs : List Sh} {T : Type} {un : T → Ts rs} {g : Nat → Ta as_ → Option T} (hf : P.funcs[f]? = some fn) (hb : fn.body.isSome = true) (hn : (fn.name == "runtime.NumGoroutine") = false)
  (hp : (as_.all Ar.plain && rs.all Sh.plain) = true) (h0 : ∀ y, (giveR rs (un y)).ok 0) (hc : ∀ n x y, g n x = some y → ∀ (m : Nat → Nat) (w : World) (vs : List Value), Are w as_ x vs → Calls P f vs.toArray w fun e w' => e = .returned ((giveR rs (un y)).v m) ∧ Below w.heap.size w w') : FcOk P f (mkFcA as_ rs un g) := by
 rw [Bool.and_eq_true] at hp
 refine ⟨⟨fn, hf, hb, hn⟩, fun R n N hh vs K r ho h => ?_⟩
 have h : (match takeA hh as_ vs with
  |some x => (g n x).bind fun y => K (giveR rs (un y))
  |none => none) = some r := h
 split at h
 ·next x hx =>
  obtain ⟨y, hy, hK⟩ := Option.bind_eq_some_iff.mp h
  exact ⟨_, hK, h0 y, fun m w hw => hc n x y hy m w _ (takeA_v hp.1 ho hx m w hw)⟩
 ·cases h
abbrev hI (k : IntKind) : Sh := .one (.i k)
abbrev hB : Sh := .one .b
abbrev vi (k : IntKind) (x : Int) : SV := .pv (.one (.i k (.x x)))
abbrev vb (b : Bool) : SV := .pv (.one (.b (.q b)))
abbrev ci (k : IntKind) (x : Int) : S := .c (.i k (.x x))
abbrev cb (b : Bool) : S := .c (.b (.q b))
end Go.Proofs.Ytejkemahdincjaa.Ek

-- Printed by a program of this session's out of Lean's print of the translation; Lean checks it.
namespace Go.Proofs.Ytejkemahdincjaa.P
open Go.RowKit Go.Proofs.YtejkemahdincjaaW.PrintWords Go.Proofs.YtejkemahdincjaaW.PrintLast Go.Proofs.YtejkemahdincjaaW.PrintMore
attribute [local go_sem] max2_int min2_int max_two min_two max_three min_three max_four min_four

-- NEED 0
/-! ### anneallaw4_form: function 7 -/
def anneallaw4_form.f (a0 : Int) : Option (Int) := (some (([0, 1, 2] : List Int) : List Int)).bind fun y304 => (if 0 ≤ (Int.tmod a0 3) then (if (Int.tmod a0 3) < (y304.length : Int) then (some (rd y304 (Int.tmod a0 3))) else (none)) else (none))
set_option maxHeartbeats 8000000 in
set_option maxRecDepth 100000 in
theorem anneallaw4_form.calls (a0 : Int) (r : Int) (w : World) (h : anneallaw4_form.f a0 = some r) :
  Calls Try.prog 7 #[.int .u8 a0] w fun e w' => e = .returned (.int .i64 r) ∧ Below w.heap.size w w' := by
 have HB := Aside0.mk (Below.refl w.heap.size w)
 have H : ((some (([0, 1, 2] : List Int) : List Int)).bind fun y304 => (if 0 ≤ (Int.tmod a0 3) then (if (Int.tmod a0 3) < (y304.length : Int) then (some (rd y304 (Int.tmod a0 3))) else (none)) else (none))) = some r := h
 clear h
 obtain ⟨y304, hy304⟩ : ∃ y_ : List Int, y_ = (([0, 1, 2] : List Int)) := ⟨_, rfl⟩
 replace H : (if 0 ≤ (Int.tmod a0 3) then (if (Int.tmod a0 3) < (y304.length : Int) then (some (rd y304 (Int.tmod a0 3))) else (none)) else (none)) = some r := by first | (rw [hy304]; with_reducible exact H) | (have H2_ := (Option.bind_some _ _).symm.trans H; rw [hy304]; with_reducible exact H2_) | (have H2_ := (Option.bind_some _ _).symm.trans H; with_reducible exact H2_) | with_reducible exact H | (rw [hy304]; exact H) | exact H
 have Ny304 := Aside0.mk hy304
 clear hy304
 obtain ⟨ji2, hji2⟩ : ∃ j_ : Int, (Int.tmod a0 3) = j_ := ⟨_, rfl⟩
 replace H : (if 0 ≤ (ji2) then (if (ji2) < (y304.length : Int) then (some (rd y304 (ji2))) else (none)) else (none)) = some r := by first | (rw [hji2] at H; exact H) | (simp only [hji2] at H ⊢; exact H)
 by_cases c3 : 0 ≤ (ji2)
 ·rw [if_pos c3] at H
  have c3b0 : decide (0 ≤ (ji2)) = true := decide_eq_true c3
  clear c3
  by_cases c4 : (ji2) < (y304.length : Int)
  ·rw [if_pos c4] at H
   have c4b0 : decide ((ji2) < (y304.length : Int)) = true := decide_eq_true c4
   clear c4
   obtain rfl := Option.some.inj H
   go_enter Try.func7, Try.ntmps7
   go_wp2_with (first | ((with_reducible refine gate_dst (N := 3) rfl ?_); refine Kd.R_lit (Kd.int .i64) _ 3 ?hg (N := 3) ?hd (xs := ([0, 1, 2] : List Int)) (inner := [.int .i64 0, .int .i64 1, .int .i64 2]) (ok := fun _ => True) (okp := fun _ => True) ?hr ?hp (fun _ hk => hk) trivial (Below.refl _ _) (Nat.le_refl _) (by simp) ?_; (case hd => rfl); (case hg => rfl); (case hr => first | (go_simp; done) | (go_simp; rfl)); (case hp => exact (Reps.one (show Kd.M (Kd.int .i64) _ _ _ 0 [.int .i64 0] from rfl) (Reps.one (show Kd.M (Kd.int .i64) _ _ _ 1 [.int .i64 1] from rfl) (Reps.one (show Kd.M (Kd.int .i64) _ _ _ 2 [.int .i64 2] from rfl) (Reps.none _ _))))); intro v305 w5 ho6 hb hg_ hnew_; clear hg_ hnew_; (first | rw [← Ny304.out] at ho6 | (simp only [Int.reduceToNat] at ho6; rw [← Ny304.out] at ho6)); have n0_ := Aside0.mk (Kd.R_lower ho6 (below_size (bl0 HB.out))); have n1_ := Aside0.mk (below_step (bl0 HB.out) hb); clear HB; have HO306 := n0_; have HB := n1_; clear n0_ n1_; clear hb ho6; obtain ⟨Ao7, co7, eo7⟩ := Kd.R_slice HO306.out; subst eo7; have p307 : 0 ≤ ((ji2) : Int) := of_decide_eq_true (by first | (with_reducible assumption) | assumption); have q307 : (ji2) < (y304.length : Int) := of_decide_eq_true (by first | (with_reducible assumption) | assumption); obtain ⟨ad307, e307, hx307_0⟩ := Kd.at_int (Kd.R_reads' HO306.out).2.2 (ji2) p307 q307; cases e307; replace p307 := eq_true p307; replace q307 := eq_true q307))
   go_ret
   exact ⟨by first | rfl | (simp [errW_none, errW_some] <;> rfl) | (simp only [← hji2]; first | rfl | (simp [errW_none, errW_some] <;> rfl)) | (simp [*, errW_none, errW_some] <;> rfl), bl0 HB.out⟩
  ·rw [if_neg c4] at H
   exact absurd H (by simp)
 ·rw [if_neg c3] at H
  exact absurd H (by simp)

-- NEED 0
/-! ### annealref1_Widths: function 23 -/
def annealref1_Widths.f (a0 : Int) : Option (Int × Int) := if a0 = 0 then (some (5, 10)) else (if a0 = 1 then (some (8, 7)) else (some (8, 23)))
set_option maxHeartbeats 8000000 in
set_option maxRecDepth 100000 in
theorem annealref1_Widths.calls (a0 : Int) (r1 : Int) (r2 : Int) (w : World) (h : annealref1_Widths.f a0 = some (r1, r2)) :
  Calls Try.prog 23 #[.int .i64 a0] w fun e w' => e = .returned (.tuple #[.int .i64 r1, .int .i64 r2]) ∧ Drawn0 w w' := by
 have H : (if a0 = 0 then (some (5, 10)) else (if a0 = 1 then (some (8, 7)) else (some (8, 23)))) = some (r1, r2) := h
 clear h
 by_cases c2 : a0 = 0
 ·rw [if_pos c2] at H
  have c2b0 : (a0 == 0) = true := beq_iff_eq.mpr c2
  have c2b1 : (a0 != 0) = false := bne_eq_false_iff_eq.mpr c2
  clear c2
  simp only [Option.some.injEq, Prod.mk.injEq] at H
  obtain ⟨rfl, rfl⟩ := H
  go_enter Try.func23, Try.ntmps23
  go_wp2
  go_ret2
  exact ⟨by first | rfl | (simp; done) | (simp [*]; done) | (congr 1; (try unfold wrap64); omega) | (congr 1; rw [IntKind.wrap_u64]; omega), by repeat (first | exact Drawn0.refl _ | apply Drawn0.step)⟩
 ·rw [if_neg c2] at H
  have c2b0 : (a0 == 0) = false := beq_eq_false_iff_ne.mpr c2
  have c2b1 : (a0 != 0) = true := bne_iff_ne.mpr c2
  by_cases c3 : a0 = 1
  ·rw [if_pos c3] at H
   have c3b0 : (a0 == 1) = true := beq_iff_eq.mpr c3
   have c3b1 : (a0 != 1) = false := bne_eq_false_iff_eq.mpr c3
   clear c3
   simp only [Option.some.injEq, Prod.mk.injEq] at H
   obtain ⟨rfl, rfl⟩ := H
   go_enter Try.func23, Try.ntmps23
   go_wp2
   go_ret2
   exact ⟨by first | rfl | (simp; done) | (simp [*]; done) | (congr 1; (try unfold wrap64); omega) | (congr 1; rw [IntKind.wrap_u64]; omega), by repeat (first | exact Drawn0.refl _ | apply Drawn0.step)⟩
  ·rw [if_neg c3] at H
   have c3b0 : (a0 == 1) = false := beq_eq_false_iff_ne.mpr c3
   have c3b1 : (a0 != 1) = true := bne_iff_ne.mpr c3
   simp only [Option.some.injEq, Prod.mk.injEq] at H
   obtain ⟨rfl, rfl⟩ := H
   go_enter Try.func23, Try.ntmps23
   go_wp2
   go_ret2
   exact ⟨by first | rfl | (simp; done) | (simp [*]; done) | (congr 1; (try unfold wrap64); omega) | (congr 1; rw [IntKind.wrap_u64]; omega), by repeat (first | exact Drawn0.refl _ | apply Drawn0.step)⟩

-- NEED 0
/-! ### annealref1_sign: function 44 -/
def annealref1_sign.f (a0 : Int) (a1 : Bool) : Option (Int) := (annealref1_Widths.f a0).bind fun bt308 => (if a1 = true then (if 0 ≤ (wrap64 (bt308.1 + bt308.2)) then (some (shl .u32 1 (wrap64 (bt308.1 + bt308.2)))) else (none)) else (some 0))
set_option maxHeartbeats 8000000 in
set_option maxRecDepth 100000 in
theorem annealref1_sign.calls (a0 : Int) (a1 : Bool) (r : Int) (w : World) (h : annealref1_sign.f a0 a1 = some r) :
  Calls Try.prog 44 #[.int .i64 a0, .bool a1] w fun e w' => e = .returned (.int .u32 r) ∧ Drawn0 w w' := by
 have H : ((annealref1_Widths.f a0).bind fun bt308 => (if a1 = true then (if 0 ≤ (wrap64 (bt308.1 + bt308.2)) then (some (shl .u32 1 (wrap64 (bt308.1 + bt308.2)))) else (none)) else (some 0))) = some r := h
 clear h
 replace H := Option.bind_eq_some_iff.mp H
 obtain ⟨⟨t308, t309⟩, A30, H⟩ := H
 replace H : (if a1 = true then (if 0 ≤ (wrap64 (t308 + t309)) then (some (shl .u32 1 (wrap64 (t308 + t309)))) else (none)) else (some 0)) = some r := H
 have A3 := Aside0.mk A30
 clear A30
 by_cases c4 : a1 = true
 ·subst c4
  have H1 : (if 0 ≤ (wrap64 (t308 + t309)) then (some (shl .u32 1 (wrap64 (t308 + t309)))) else (none)) = some r := by rw [if_pos rfl] at H; exact H
  clear H
  have H := H1
  clear H1
  obtain ⟨ji5, hji5⟩ : ∃ j_ : Int, (wrap64 (t308 + t309)) = j_ := ⟨_, rfl⟩
  replace H : (if 0 ≤ (ji5) then (some (shl .u32 1 (ji5))) else (none)) = some r := by first | (rw [hji5] at H; exact H) | (simp only [hji5] at H ⊢; exact H)
  (try rw [hji5] at A3)
  have hji5w : (IntKind.i64.wrap (t308 + t309)) = ji5 := (i64_w _).trans hji5
  by_cases c6 : 0 ≤ (ji5)
  ·rw [if_pos c6] at H
   have c6b0 := eq_true c6
   have c6b1 : decide (0 ≤ (ji5)) = true := decide_eq_true c6
   clear c6
   obtain ⟨ji7, hji7⟩ : ∃ j_ : Int, (shl .u32 1 (ji5)) = j_ := ⟨_, rfl⟩
   replace H : (some ji7) = some r := by first | (rw [hji7] at H; exact H) | (simp only [hji7] at H ⊢; exact H)
   (try rw [hji7] at A3)
   have hji7_ : (IntKind.u32.wrap (1 * 2 ^ min (ji5).toNat 32)) = ji7 := hji7
   have hji7z : (ji5) ≤ 32 → (IntKind.u32.wrap (1 * 2 ^ (ji5).toNat)) = ji7 := shl_small hji7
   have hji7u : (IntKind.u32.wrap (2 ^ min (ji5).toNat 32)) = ji7 := by have h_ := hji7_; rw [Int.one_mul] at h_; exact h_
   have hji7v : (ji5) ≤ 32 → (IntKind.u32.wrap (2 ^ (ji5).toNat)) = ji7 := fun hle_ => by have h_ := hji7z hle_; rw [Int.one_mul] at h_; exact h_
   obtain rfl := Option.some.inj H
   go_enter Try.func44, Try.ntmps44
   go_wp2_with (first | ((with_reducible refine gate_callee (f := 23) rfl ?_); refine goesL_ (some 9) rfl rfl Try.func23 (by kernel_rfl) rfl #[.int .i64 a0] rfl gl ?_; (with_reducible refine (annealref1_Widths.calls a0 t308 t309 _ A3.out).mono ?_); rintro e w' ⟨rfl, ⟨nd, rfl⟩⟩; refine ⟨_, rfl, ?_⟩))
   go_ret
   exact ⟨by first | rfl | (simp; done) | (simp only [← hji5, ← hji7] <;> (first | rfl | (simp; done))) | (simp [*]; done) | (congr 1; (try unfold wrap64); omega) | (congr 1; rw [IntKind.wrap_u64]; omega), by repeat (first | exact Drawn0.refl _ | apply Drawn0.step)⟩
  ·rw [if_neg c6] at H
   exact absurd H (by simp)
 ·replace c4 := Bool.eq_false_iff.mpr c4
  subst c4
  have H1 : (some 0) = some r := by rw [if_neg (show ¬ (false = true) by decide)] at H; exact H
  clear H
  have H := H1
  clear H1
  obtain rfl := Option.some.inj H
  go_enter Try.func44, Try.ntmps44
  go_wp2_with (first | ((with_reducible refine gate_callee (f := 23) rfl ?_); refine goesL_ (some 9) rfl rfl Try.func23 (by kernel_rfl) rfl #[.int .i64 a0] rfl gl ?_; (with_reducible refine (annealref1_Widths.calls a0 t308 t309 _ A3.out).mono ?_); rintro e w' ⟨rfl, ⟨nd, rfl⟩⟩; refine ⟨_, rfl, ?_⟩))
  go_ret
  exact ⟨by first | rfl | (simp; done) | (simp [*]; done) | (congr 1; (try unfold wrap64); omega) | (congr 1; rw [IntKind.wrap_u64]; omega), by repeat (first | exact Drawn0.refl _ | apply Drawn0.step)⟩

-- NEED 0
/-! ### annealref1_Zero: function 22 -/
def annealref1_Zero.f (a0 : Int) (a1 : Bool) : Option (Int) := (annealref1_sign.f a0 a1).bind fun t310 => (some t310)
set_option maxHeartbeats 8000000 in
set_option maxRecDepth 100000 in
theorem annealref1_Zero.calls (a0 : Int) (a1 : Bool) (r : Int) (w : World) (h : annealref1_Zero.f a0 a1 = some r) :
  Calls Try.prog 22 #[.int .i64 a0, .bool a1] w fun e w' => e = .returned (.int .u32 r) ∧ Drawn0 w w' := by
 have H : ((annealref1_sign.f a0 a1).bind fun t310 => (some t310)) = some r := h
 clear h
 replace H := Option.bind_eq_some_iff.mp H
 obtain ⟨t310, A30, H⟩ := H
 replace H : (some t310) = some r := H
 have A3 := Aside0.mk A30
 clear A30
 obtain rfl := Option.some.inj H
 go_enter Try.func22, Try.ntmps22
 go_wp2_with (first | ((with_reducible refine gate_callee (f := 44) rfl ?_); refine goesL_ (some 7) rfl rfl Try.func44 (by kernel_rfl) rfl #[.int .i64 a0, .bool a1] rfl gl ?_; (with_reducible refine (annealref1_sign.calls a0 a1 t310 _ A3.out).mono ?_); rintro e w' ⟨rfl, ⟨nd, rfl⟩⟩; refine ⟨_, rfl, ?_⟩))
 go_ret
 exact ⟨by first | rfl | (simp; done) | (simp [*]; done) | (congr 1; (try unfold wrap64); omega) | (congr 1; rw [IntKind.wrap_u64]; omega), by repeat (first | exact Drawn0.refl _ | apply Drawn0.step)⟩

-- NEED 0
/-! ### annealref1_Mask: function 24 -/
def annealref1_Mask.f (a0 : Int) : Option (Int) := (annealref1_Widths.f a0).bind fun bt311 => (if 0 ≤ (wrap64 ((wrap64 (1 + bt311.1)) + bt311.2)) then (some ((IntKind.u64.wrap ((shl .u64 1 (wrap64 ((wrap64 (1 + bt311.1)) + bt311.2))) - 1)) % 4294967296)) else (none))
set_option maxHeartbeats 8000000 in
set_option maxRecDepth 100000 in
theorem annealref1_Mask.calls (a0 : Int) (r : Int) (w : World) (h : annealref1_Mask.f a0 = some r) :
  Calls Try.prog 24 #[.int .i64 a0] w fun e w' => e = .returned (.int .u32 r) ∧ Drawn0 w w' := by
 have H : ((annealref1_Widths.f a0).bind fun bt311 => (if 0 ≤ (wrap64 ((wrap64 (1 + bt311.1)) + bt311.2)) then (some ((IntKind.u64.wrap ((shl .u64 1 (wrap64 ((wrap64 (1 + bt311.1)) + bt311.2))) - 1)) % 4294967296)) else (none))) = some r := h
 clear h
 replace H := Option.bind_eq_some_iff.mp H
 obtain ⟨⟨t311, t312⟩, A20, H⟩ := H
 replace H : (if 0 ≤ (wrap64 ((wrap64 (1 + t311)) + t312)) then (some ((IntKind.u64.wrap ((shl .u64 1 (wrap64 ((wrap64 (1 + t311)) + t312))) - 1)) % 4294967296)) else (none)) = some r := H
 have A2 := Aside0.mk A20
 clear A20
 obtain ⟨ji3, hji3⟩ : ∃ j_ : Int, (wrap64 ((wrap64 (1 + t311)) + t312)) = j_ := ⟨_, rfl⟩
 replace H : (if 0 ≤ (ji3) then (some ((IntKind.u64.wrap ((shl .u64 1 (ji3)) - 1)) % 4294967296)) else (none)) = some r := by first | (rw [hji3] at H; exact H) | (simp only [hji3] at H ⊢; exact H)
 (try rw [hji3] at A2)
 have hji3w : (IntKind.i64.wrap ((wrap64 (1 + t311)) + t312)) = ji3 := (i64_w _).trans hji3
 by_cases c4 : 0 ≤ (ji3)
 ·rw [if_pos c4] at H
  have c4b0 := eq_true c4
  have c4b1 : decide (0 ≤ (ji3)) = true := decide_eq_true c4
  clear c4
  obtain ⟨ji5, hji5⟩ : ∃ j_ : Int, (shl .u64 1 (ji3)) = j_ := ⟨_, rfl⟩
  replace H : (some ((IntKind.u64.wrap ((ji5) - 1)) % 4294967296)) = some r := by first | (rw [hji5] at H; exact H) | (simp only [hji5] at H ⊢; exact H)
  (try rw [hji5] at A2)
  have hji5_ : (IntKind.u64.wrap (1 * 2 ^ min (ji3).toNat 64)) = ji5 := hji5
  have hji5z : (ji3) ≤ 64 → (IntKind.u64.wrap (1 * 2 ^ (ji3).toNat)) = ji5 := shl_small hji5
  have hji5u : (IntKind.u64.wrap (2 ^ min (ji3).toNat 64)) = ji5 := by have h_ := hji5_; rw [Int.one_mul] at h_; exact h_
  have hji5v : (ji3) ≤ 64 → (IntKind.u64.wrap (2 ^ (ji3).toNat)) = ji5 := fun hle_ => by have h_ := hji5z hle_; rw [Int.one_mul] at h_; exact h_
  obtain rfl := Option.some.inj H
  go_enter Try.func24, Try.ntmps24
  go_wp2_with (first | ((with_reducible refine gate_callee (f := 23) rfl ?_); refine goesL_ (some 7) rfl rfl Try.func23 (by kernel_rfl) rfl #[.int .i64 a0] rfl gl ?_; (with_reducible refine (annealref1_Widths.calls a0 t311 t312 _ A2.out).mono ?_); rintro e w' ⟨rfl, ⟨nd, rfl⟩⟩; refine ⟨_, rfl, ?_⟩))
  go_ret
  exact ⟨by first | rfl | (simp; done) | (simp only [← hji3, ← hji5] <;> (first | rfl | (simp; done))) | (simp [*]; done) | (congr 1; (try unfold wrap64); omega) | (congr 1; rw [IntKind.wrap_u64]; omega), by repeat (first | exact Drawn0.refl _ | apply Drawn0.step)⟩
 ·rw [if_neg c4] at H
  exact absurd H (by simp)

-- NEED 0
/-! ### annealseat_Num: function 8 -/
def annealseat_Num.f (a0 : Int) (a1 : Int) : Option (Int) := (annealref1_Widths.f a0).bind fun bt313 => (if 0 ≤ bt313.1 then (if 0 ≤ bt313.2 then (if (shl .u32 3 bt313.2) = 0 then (none) else (if 0 ≤ (wrap64 (bt313.2 - 1)) then (if (shl .u32 9 bt313.2) = 0 then (none) else ((some (([0, 1, ((shl .u32 1 bt313.2) - 1) % 4294967296, shl .u32 1 bt313.2, shl .u32 ((((shl .u32 1 bt313.1) - 1) % 4294967296) / 2) bt313.2, ((shl .u32 ((((shl .u32 1 bt313.1) - 1) % 4294967296) / 2) bt313.2) + 1) % 4294967296, ((shl .u32 ((((shl .u32 1 bt313.1) - 1) % 4294967296) / 2) bt313.2) - 1) % 4294967296, ((shl .u32 ((((shl .u32 1 bt313.1) - 1) % 4294967296) / 2) bt313.2) + (shl .u32 1 bt313.2)) % 4294967296, ((shl .u32 ((((shl .u32 1 bt313.1) - 1) % 4294967296) / 2) bt313.2) + (Int.tmod (a1 / 16) (shl .u32 3 bt313.2))) % 4294967296, ((shl .u32 (((shl .u32 1 bt313.1) - 1) % 4294967296) bt313.2) - 1) % 4294967296, shl .u32 (((shl .u32 1 bt313.1) - 1) % 4294967296) bt313.2, Go.bits .or .u32 (shl .u32 (((shl .u32 1 bt313.1) - 1) % 4294967296) bt313.2) 1, Go.bits .or .u32 (shl .u32 (((shl .u32 1 bt313.1) - 1) % 4294967296) bt313.2) (shl .u32 1 (wrap64 (bt313.2 - 1))), ((shl .u32 ((((shl .u32 1 bt313.1) - 1) % 4294967296) / 2) bt313.2) - (Int.tmod (a1 / 16) (shl .u32 9 bt313.2))) % 4294967296, a1 / 16] : List Int) : List Int)).bind fun y315 => (if 0 ≤ (Int.tmod a1 15) then (if (Int.tmod a1 15) < (y315.length : Int) then ((annealref1_Mask.f a0).bind fun t319 => (if (a1 / 2147483648) = 1 then ((annealref1_Zero.f a0 true).bind fun t320 => (some (Go.bits .or .u32 (Go.bits .and .u32 (rd y315 (Int.tmod a1 15)) t319) t320))) else (some (Go.bits .and .u32 (rd y315 (Int.tmod a1 15)) t319)))) else (none)) else (none)))) else (none))) else (none)) else (none))

-- NEED 0
/-! ### annealseat_Mild: function 9 -/
def annealseat_Mild.f (a0 : Int) (a1 : Int) : Option (Int) := if (Int.tmod a1 7) = 0 then (some 0) else ((annealref1_Widths.f a0).bind fun bt321 => (if 0 ≤ bt321.1 then (if 0 ≤ bt321.2 then (if (shl .u32 4 bt321.2) = 0 then (none) else (if (Go.bits .and .u32 a1 1) = 1 then ((annealref1_Zero.f a0 true).bind fun t323 => (some (Go.bits .or .u32 (((((shl .u32 ((((shl .u32 1 bt321.1) - 1) % 4294967296) / 2) bt321.2) - (shl .u32 2 bt321.2)) % 4294967296) + (Int.tmod (a1 / 8) (shl .u32 4 bt321.2))) % 4294967296) t323))) else (some (((((shl .u32 ((((shl .u32 1 bt321.1) - 1) % 4294967296) / 2) bt321.2) - (shl .u32 2 bt321.2)) % 4294967296) + (Int.tmod (a1 / 8) (shl .u32 4 bt321.2))) % 4294967296)))) else (none)) else (none)))
set_option maxHeartbeats 8000000 in
set_option maxRecDepth 100000 in
theorem annealseat_Mild.calls (a0 : Int) (a1 : Int) (r : Int) (w : World) (h : annealseat_Mild.f a0 a1 = some r) :
  Calls Try.prog 9 #[.int .i64 a0, .int .u32 a1] w fun e w' => e = .returned (.int .u32 r) ∧ Drawn0 w w' := by
 have H : (if (Int.tmod a1 7) = 0 then (some 0) else ((annealref1_Widths.f a0).bind fun bt321 => (if 0 ≤ bt321.1 then (if 0 ≤ bt321.2 then (if (shl .u32 4 bt321.2) = 0 then (none) else (if (Go.bits .and .u32 a1 1) = 1 then ((annealref1_Zero.f a0 true).bind fun t323 => (some (Go.bits .or .u32 (((((shl .u32 ((((shl .u32 1 bt321.1) - 1) % 4294967296) / 2) bt321.2) - (shl .u32 2 bt321.2)) % 4294967296) + (Int.tmod (a1 / 8) (shl .u32 4 bt321.2))) % 4294967296) t323))) else (some (((((shl .u32 ((((shl .u32 1 bt321.1) - 1) % 4294967296) / 2) bt321.2) - (shl .u32 2 bt321.2)) % 4294967296) + (Int.tmod (a1 / 8) (shl .u32 4 bt321.2))) % 4294967296)))) else (none)) else (none)))) = some r := h
 clear h
 by_cases c3 : (Int.tmod a1 7) = 0
 ·rw [if_pos c3] at H
  have c3b0 : ((Int.tmod a1 7) == 0) = true := beq_iff_eq.mpr c3
  have c3b1 : ((Int.tmod a1 7) != 0) = false := bne_eq_false_iff_eq.mpr c3
  clear c3
  obtain rfl := Option.some.inj H
  go_enter Try.func9, Try.ntmps9
  go_wp2
  repeat (go_quiet (fail); try go_wp2)
  go_ret
  exact ⟨by first | rfl | (simp; done) | (simp [*]; done) | (congr 1; (try unfold wrap64); omega) | (congr 1; rw [IntKind.wrap_u64]; omega), by repeat (first | exact Drawn0.refl _ | apply Drawn0.step)⟩
 ·rw [if_neg c3] at H
  have c3b0 : ((Int.tmod a1 7) == 0) = false := beq_eq_false_iff_ne.mpr c3
  have c3b1 : ((Int.tmod a1 7) != 0) = true := bne_iff_ne.mpr c3
  replace H := Option.bind_eq_some_iff.mp H
  obtain ⟨⟨t321, t322⟩, A40, H⟩ := H
  replace H : (if 0 ≤ t321 then (if 0 ≤ t322 then (if (shl .u32 4 t322) = 0 then (none) else (if (Go.bits .and .u32 a1 1) = 1 then ((annealref1_Zero.f a0 true).bind fun t323 => (some (Go.bits .or .u32 (((((shl .u32 ((((shl .u32 1 t321) - 1) % 4294967296) / 2) t322) - (shl .u32 2 t322)) % 4294967296) + (Int.tmod (a1 / 8) (shl .u32 4 t322))) % 4294967296) t323))) else (some (((((shl .u32 ((((shl .u32 1 t321) - 1) % 4294967296) / 2) t322) - (shl .u32 2 t322)) % 4294967296) + (Int.tmod (a1 / 8) (shl .u32 4 t322))) % 4294967296)))) else (none)) else (none)) = some r := H
  have A4 := Aside0.mk A40
  clear A40
  by_cases c5 : 0 ≤ t321
  ·rw [if_pos c5] at H
   have c5b0 := eq_true c5
   have c5b1 : decide (0 ≤ t321) = true := decide_eq_true c5
   clear c5
   obtain ⟨ji6, hji6⟩ : ∃ j_ : Int, (shl .u32 1 t321) = j_ := ⟨_, rfl⟩
   replace H : (if 0 ≤ t322 then (if (shl .u32 4 t322) = 0 then (none) else (if (Go.bits .and .u32 a1 1) = 1 then ((annealref1_Zero.f a0 true).bind fun t323 => (some (Go.bits .or .u32 (((((shl .u32 ((((ji6) - 1) % 4294967296) / 2) t322) - (shl .u32 2 t322)) % 4294967296) + (Int.tmod (a1 / 8) (shl .u32 4 t322))) % 4294967296) t323))) else (some (((((shl .u32 ((((ji6) - 1) % 4294967296) / 2) t322) - (shl .u32 2 t322)) % 4294967296) + (Int.tmod (a1 / 8) (shl .u32 4 t322))) % 4294967296)))) else (none)) = some r := by first | (rw [hji6] at H; exact H) | (simp only [hji6] at H ⊢; exact H)
   (try rw [hji6] at A4)
   have hji6_ : (IntKind.u32.wrap (1 * 2 ^ min t321.toNat 32)) = ji6 := hji6
   have hji6z : t321 ≤ 32 → (IntKind.u32.wrap (1 * 2 ^ t321.toNat)) = ji6 := shl_small hji6
   have hji6u : (IntKind.u32.wrap (2 ^ min t321.toNat 32)) = ji6 := by have h_ := hji6_; rw [Int.one_mul] at h_; exact h_
   have hji6v : t321 ≤ 32 → (IntKind.u32.wrap (2 ^ t321.toNat)) = ji6 := fun hle_ => by have h_ := hji6z hle_; rw [Int.one_mul] at h_; exact h_
   obtain ⟨ji7, hji7⟩ : ∃ j_ : Int, (((ji6) - 1) % 4294967296) = j_ := ⟨_, rfl⟩
   replace H : (if 0 ≤ t322 then (if (shl .u32 4 t322) = 0 then (none) else (if (Go.bits .and .u32 a1 1) = 1 then ((annealref1_Zero.f a0 true).bind fun t323 => (some (Go.bits .or .u32 (((((shl .u32 ((ji7) / 2) t322) - (shl .u32 2 t322)) % 4294967296) + (Int.tmod (a1 / 8) (shl .u32 4 t322))) % 4294967296) t323))) else (some (((((shl .u32 ((ji7) / 2) t322) - (shl .u32 2 t322)) % 4294967296) + (Int.tmod (a1 / 8) (shl .u32 4 t322))) % 4294967296)))) else (none)) = some r := by first | (rw [hji7] at H; exact H) | (simp only [hji7] at H ⊢; exact H)
   (try rw [hji7] at A4)
   have hji7l : 0 ≤ ji7 := by rw [← hji7]; exact Int.emod_nonneg _ (by decide)
   have hji7h : ji7 ≤ 4294967295 := by have := Int.emod_lt_of_pos (((ji6) - 1)) (show (0 : Int) < 4294967296 by decide); omega
   have hji7w : (IntKind.u32.wrap ((ji6) - 1)) = ji7 := (u32_w _).trans hji7
   (try (have hji7_ := hji7; simp only [Int.add_emod_emod, Int.emod_add_emod, Int.sub_emod_emod, Int.emod_sub_emod] at hji7_))
   by_cases c8 : 0 ≤ t322
   ·rw [if_pos c8] at H
    have c8b0 := eq_true c8
    have c8b1 : decide (0 ≤ t322) = true := decide_eq_true c8
    clear c8
    obtain ⟨ji9, hji9⟩ : ∃ j_ : Int, (shl .u32 ((ji7) / 2) t322) = j_ := ⟨_, rfl⟩
    replace H : (if (shl .u32 4 t322) = 0 then (none) else (if (Go.bits .and .u32 a1 1) = 1 then ((annealref1_Zero.f a0 true).bind fun t323 => (some (Go.bits .or .u32 (((((ji9) - (shl .u32 2 t322)) % 4294967296) + (Int.tmod (a1 / 8) (shl .u32 4 t322))) % 4294967296) t323))) else (some (((((ji9) - (shl .u32 2 t322)) % 4294967296) + (Int.tmod (a1 / 8) (shl .u32 4 t322))) % 4294967296)))) = some r := by first | (rw [hji9] at H; exact H) | (simp only [hji9] at H ⊢; exact H)
    (try rw [hji9] at A4)
    have hji9_ : (IntKind.u32.wrap (((ji7) / 2) * 2 ^ min t322.toNat 32)) = ji9 := hji9
    have hji9z : t322 ≤ 32 → (IntKind.u32.wrap (((ji7) / 2) * 2 ^ t322.toNat)) = ji9 := shl_small hji9
    have c10b0 := eq_true (of_decide_eq_true (by first | (with_reducible assumption) | assumption) : 0 ≤ t322)
    obtain ⟨ji11, hji11⟩ : ∃ j_ : Int, (shl .u32 2 t322) = j_ := ⟨_, rfl⟩
    replace H : (if (shl .u32 4 t322) = 0 then (none) else (if (Go.bits .and .u32 a1 1) = 1 then ((annealref1_Zero.f a0 true).bind fun t323 => (some (Go.bits .or .u32 (((((ji9) - (ji11)) % 4294967296) + (Int.tmod (a1 / 8) (shl .u32 4 t322))) % 4294967296) t323))) else (some (((((ji9) - (ji11)) % 4294967296) + (Int.tmod (a1 / 8) (shl .u32 4 t322))) % 4294967296)))) = some r := by first | (rw [hji11] at H; exact H) | (simp only [hji11] at H ⊢; exact H)
    (try rw [hji11] at A4)
    have hji11_ : (IntKind.u32.wrap (2 * 2 ^ min t322.toNat 32)) = ji11 := hji11
    have hji11z : t322 ≤ 32 → (IntKind.u32.wrap (2 * 2 ^ t322.toNat)) = ji11 := shl_small hji11
    obtain ⟨ji12, hji12⟩ : ∃ j_ : Int, (((ji9) - (ji11)) % 4294967296) = j_ := ⟨_, rfl⟩
    replace H : (if (shl .u32 4 t322) = 0 then (none) else (if (Go.bits .and .u32 a1 1) = 1 then ((annealref1_Zero.f a0 true).bind fun t323 => (some (Go.bits .or .u32 (((ji12) + (Int.tmod (a1 / 8) (shl .u32 4 t322))) % 4294967296) t323))) else (some (((ji12) + (Int.tmod (a1 / 8) (shl .u32 4 t322))) % 4294967296)))) = some r := by first | (rw [hji12] at H; exact H) | (simp only [hji12] at H ⊢; exact H)
    (try rw [hji12] at A4)
    have hji12l : 0 ≤ ji12 := by rw [← hji12]; exact Int.emod_nonneg _ (by decide)
    have hji12h : ji12 ≤ 4294967295 := by have := Int.emod_lt_of_pos (((ji9) - (ji11))) (show (0 : Int) < 4294967296 by decide); omega
    have hji12w : (IntKind.u32.wrap ((ji9) - (ji11))) = ji12 := (u32_w _).trans hji12
    (try (have hji12_ := hji12; simp only [Int.add_emod_emod, Int.emod_add_emod, Int.sub_emod_emod, Int.emod_sub_emod] at hji12_))
    have c13b0 := eq_true (of_decide_eq_true (by first | (with_reducible assumption) | assumption) : 0 ≤ t322)
    obtain ⟨ji14, hji14⟩ : ∃ j_ : Int, (shl .u32 4 t322) = j_ := ⟨_, rfl⟩
    replace H : (if (ji14) = 0 then (none) else (if (Go.bits .and .u32 a1 1) = 1 then ((annealref1_Zero.f a0 true).bind fun t323 => (some (Go.bits .or .u32 (((ji12) + (Int.tmod (a1 / 8) (ji14))) % 4294967296) t323))) else (some (((ji12) + (Int.tmod (a1 / 8) (ji14))) % 4294967296)))) = some r := by first | (rw [hji14] at H; exact H) | (simp only [hji14] at H ⊢; exact H)
    (try rw [hji14] at A4)
    have hji14_ : (IntKind.u32.wrap (4 * 2 ^ min t322.toNat 32)) = ji14 := hji14
    have hji14z : t322 ≤ 32 → (IntKind.u32.wrap (4 * 2 ^ t322.toNat)) = ji14 := shl_small hji14
    by_cases c15 : (ji14) = 0
    ·rw [if_pos c15] at H
     exact absurd H (by simp)
    ·rw [if_neg c15] at H
     have c15b0 : ((ji14) == 0) = false := beq_eq_false_iff_ne.mpr c15
     have c15b1 : ((ji14) != 0) = true := bne_iff_ne.mpr c15
     obtain ⟨ji16, hji16⟩ : ∃ j_ : Int, (((ji12) + (Int.tmod (a1 / 8) (ji14))) % 4294967296) = j_ := ⟨_, rfl⟩
     replace H : (if (Go.bits .and .u32 a1 1) = 1 then ((annealref1_Zero.f a0 true).bind fun t323 => (some (Go.bits .or .u32 (ji16) t323))) else (some ji16)) = some r := by first | (rw [hji16] at H; exact H) | (simp only [hji16] at H ⊢; exact H)
     (try rw [hji16] at A4)
     have hji16l : 0 ≤ ji16 := by rw [← hji16]; exact Int.emod_nonneg _ (by decide)
     have hji16h : ji16 ≤ 4294967295 := by have := Int.emod_lt_of_pos (((ji12) + (Int.tmod (a1 / 8) (ji14)))) (show (0 : Int) < 4294967296 by decide); omega
     have hji16w : (IntKind.u32.wrap ((ji12) + (Int.tmod (a1 / 8) (ji14)))) = ji16 := (u32_w _).trans hji16
     (try (have hji16_ := hji16; simp only [Int.add_emod_emod, Int.emod_add_emod, Int.sub_emod_emod, Int.emod_sub_emod] at hji16_))
     by_cases c17 : (Go.bits .and .u32 a1 1) = 1
     ·rw [if_pos c17] at H
      have c17b0 : ((Go.bits .and .u32 a1 1) == 1) = true := beq_iff_eq.mpr c17
      have c17b1 : ((Go.bits .and .u32 a1 1) != 1) = false := bne_eq_false_iff_eq.mpr c17
      clear c17
      replace H := Option.bind_eq_some_iff.mp H
      obtain ⟨t323, A180, H⟩ := H
      replace H : (some (Go.bits .or .u32 (ji16) t323)) = some r := H
      have A18 := Aside0.mk A180
      clear A180
      obtain rfl := Option.some.inj H
      go_enter Try.func9, Try.ntmps9
      go_wp2_with (first | (go_at_call 23; (with_reducible refine (annealref1_Widths.calls a0 t321 t322 _ A4.out).mono ?_); rintro e w' ⟨rfl, ⟨nd, rfl⟩⟩; (try first | exact ⟨rfl, _, World.drewN_drewN _ _ _⟩ | exact ⟨rfl, _, Eq.trans (World.drewN_drewN _ _ _) (congrArg (World.drewN _) (Nat.add_assoc _ _ _))⟩)) | (go_at_call 22; (with_reducible refine (annealref1_Zero.calls a0 true t323 _ A18.out).mono ?_); rintro e w' ⟨rfl, ⟨nd, rfl⟩⟩; (try first | exact ⟨rfl, _, World.drewN_drewN _ _ _⟩ | exact ⟨rfl, _, Eq.trans (World.drewN_drewN _ _ _) (congrArg (World.drewN _) (Nat.add_assoc _ _ _))⟩)))
      repeat (go_quiet (first | (go_at_call 23; (with_reducible refine (annealref1_Widths.calls a0 t321 t322 _ A4.out).mono ?_); rintro e w' ⟨rfl, ⟨nd, rfl⟩⟩; (try first | exact ⟨rfl, _, World.drewN_drewN _ _ _⟩ | exact ⟨rfl, _, Eq.trans (World.drewN_drewN _ _ _) (congrArg (World.drewN _) (Nat.add_assoc _ _ _))⟩)) | (go_at_call 22; (with_reducible refine (annealref1_Zero.calls a0 true t323 _ A18.out).mono ?_); rintro e w' ⟨rfl, ⟨nd, rfl⟩⟩; (try first | exact ⟨rfl, _, World.drewN_drewN _ _ _⟩ | exact ⟨rfl, _, Eq.trans (World.drewN_drewN _ _ _) (congrArg (World.drewN _) (Nat.add_assoc _ _ _))⟩))); try go_wp2_with (first | (go_at_call 23; (with_reducible refine (annealref1_Widths.calls a0 t321 t322 _ A4.out).mono ?_); rintro e w' ⟨rfl, ⟨nd, rfl⟩⟩; (try first | exact ⟨rfl, _, World.drewN_drewN _ _ _⟩ | exact ⟨rfl, _, Eq.trans (World.drewN_drewN _ _ _) (congrArg (World.drewN _) (Nat.add_assoc _ _ _))⟩)) | (go_at_call 22; (with_reducible refine (annealref1_Zero.calls a0 true t323 _ A18.out).mono ?_); rintro e w' ⟨rfl, ⟨nd, rfl⟩⟩; (try first | exact ⟨rfl, _, World.drewN_drewN _ _ _⟩ | exact ⟨rfl, _, Eq.trans (World.drewN_drewN _ _ _) (congrArg (World.drewN _) (Nat.add_assoc _ _ _))⟩))))
      go_ret
      exact ⟨by first | rfl | (simp; done) | (simp only [← hji6, ← hji7, ← hji9, ← hji11, ← hji12, ← hji14, ← hji16] <;> (first | rfl | (simp; done))) | (simp [*]; done) | (congr 1; (try unfold wrap64); omega) | (congr 1; rw [IntKind.wrap_u64]; omega), by repeat (first | exact Drawn0.refl _ | apply Drawn0.step)⟩
     ·rw [if_neg c17] at H
      have c17b0 : ((Go.bits .and .u32 a1 1) == 1) = false := beq_eq_false_iff_ne.mpr c17
      have c17b1 : ((Go.bits .and .u32 a1 1) != 1) = true := bne_iff_ne.mpr c17
      obtain rfl := Option.some.inj H
      go_enter Try.func9, Try.ntmps9
      go_wp2_with (first | (go_at_call 23; (with_reducible refine (annealref1_Widths.calls a0 t321 t322 _ A4.out).mono ?_); rintro e w' ⟨rfl, ⟨nd, rfl⟩⟩; (try first | exact ⟨rfl, _, World.drewN_drewN _ _ _⟩ | exact ⟨rfl, _, Eq.trans (World.drewN_drewN _ _ _) (congrArg (World.drewN _) (Nat.add_assoc _ _ _))⟩)))
      repeat (go_quiet (first | (go_at_call 23; (with_reducible refine (annealref1_Widths.calls a0 t321 t322 _ A4.out).mono ?_); rintro e w' ⟨rfl, ⟨nd, rfl⟩⟩; (try first | exact ⟨rfl, _, World.drewN_drewN _ _ _⟩ | exact ⟨rfl, _, Eq.trans (World.drewN_drewN _ _ _) (congrArg (World.drewN _) (Nat.add_assoc _ _ _))⟩))); try go_wp2_with (first | (go_at_call 23; (with_reducible refine (annealref1_Widths.calls a0 t321 t322 _ A4.out).mono ?_); rintro e w' ⟨rfl, ⟨nd, rfl⟩⟩; (try first | exact ⟨rfl, _, World.drewN_drewN _ _ _⟩ | exact ⟨rfl, _, Eq.trans (World.drewN_drewN _ _ _) (congrArg (World.drewN _) (Nat.add_assoc _ _ _))⟩))))
      go_ret
      exact ⟨by first | rfl | (simp; done) | (simp only [← hji6, ← hji7, ← hji9, ← hji11, ← hji12, ← hji14, ← hji16] <;> (first | rfl | (simp; done))) | (simp [*]; done) | (congr 1; (try unfold wrap64); omega) | (congr 1; rw [IntKind.wrap_u64]; omega), by repeat (first | exact Drawn0.refl _ | apply Drawn0.step)⟩
   ·rw [if_neg c8] at H
    exact absurd H (by simp)
  ·rw [if_neg c5] at H
   exact absurd H (by simp)


section
variable {P : Program} {d c i o : Nat} {e : TypeId} {xs ys : Array Value} {is : List Nat} {a b : Value} {r s : Bool} {w : World}
theorem eqi_cons (ho : i * c = o) (ha : (part e xs o).run P w = .ok a w) (hb : (part e ys o).run P w = .ok b w) (he : (Op.equalIn d e a b).run P w = .ok r w) (hr : (Op.eqItems d e c xs ys is).run P w = .ok s w) : (Op.eqItems d e c xs ys (i :: is)).run P w = .ok (r && s) w := by
 simp only [Op.eqItems, Sem.run_bind, ho, ha, hb, he, Result.andThen_ok]
 cases r
 ·simp
 ·simpa using hr
theorem eqi_last (ho : i * c = o) (ha : (part e xs o).run P w = .ok a w) (hb : (part e ys o).run P w = .ok b w) (he : (Op.equalIn d e a b).run P w = .ok r w) : (Op.eqItems d e c xs ys [i]).run P w = .ok r w := by
 have h := eqi_cons (is := []) ho ha hb he (s := true) (by simp [Op.eqItems])
 rwa [Bool.and_true] at h
theorem eqArr_of {t : TypeId} {n : Nat} (hc : P.cellsOf e = c) (hu : P.underlying t = some (.array n e)) (hi : (P.info? e).isSome = true) (h : (Op.eqItems d e c xs ys (List.range n)).run P w = .ok r w) : (Op.equalIn (d + 1) t (.agg xs) (.agg ys)).run P w = .ok r w := by
 rw [run_equalIn_array w d xs ys hu (Option.some_get hi).symm, hc]; exact h
end
theorem eqA60 (d : Nat) (w : World) (x0 y0 : Int) (x1 y1 : Int) (x2 y2 : Int) (x3 y3 : Int) (x4 y4 : Int) (x5 y5 : Int) (x6 y6 : Int) (x7 y7 : Int) (x8 y8 : Int) (x9 y9 : Int) :
  (Op.equalIn (d + 2) 60 (.agg #[.int .u64 x0, .int .u64 x1, .int .u64 x2, .int .u64 x3, .int .u64 x4, .int .u64 x5, .int .u64 x6, .int .u64 x7, .int .u64 x8, .int .u64 x9]) (.agg #[.int .u64 y0, .int .u64 y1, .int .u64 y2, .int .u64 y3, .int .u64 y4, .int .u64 y5, .int .u64 y6, .int .u64 y7, .int .u64 y8, .int .u64 y9])).run Try.prog w = .ok (x0 == y0 && (x1 == y1 && (x2 == y2 && (x3 == y3 && (x4 == y4 && (x5 == y5 && (x6 == y6 && (x7 == y7 && (x8 == y8 && (x9 == y9)))))))))) w := by
 first
 |refine eqA_of Try.underlying60 (by kernel_rfl) ?_
  refine eqf_cons (by rfl) (by go_simp; rfl) (by go_simp; rfl) (by go_simp) ?_
  refine eqf_cons (by rfl) (by go_simp; rfl) (by go_simp; rfl) (by go_simp) ?_
  refine eqf_cons (by rfl) (by go_simp; rfl) (by go_simp; rfl) (by go_simp) ?_
  refine eqf_cons (by rfl) (by go_simp; rfl) (by go_simp; rfl) (by go_simp) ?_
  refine eqf_cons (by rfl) (by go_simp; rfl) (by go_simp; rfl) (by go_simp) ?_
  refine eqf_cons (by rfl) (by go_simp; rfl) (by go_simp; rfl) (by go_simp) ?_
  refine eqf_cons (by rfl) (by go_simp; rfl) (by go_simp; rfl) (by go_simp) ?_
  refine eqf_cons (by rfl) (by go_simp; rfl) (by go_simp; rfl) (by go_simp) ?_
  refine eqf_cons (by rfl) (by go_simp; rfl) (by go_simp; rfl) (by go_simp) ?_
  exact eqf_last (by rfl) (by go_simp; rfl) (by go_simp; rfl) (by go_simp)
 |refine eqArr_of (c := 1) (by kernel_rfl) Try.underlying60 (by kernel_rfl) ?_
  rw [show List.range 10 = [0, 1, 2, 3, 4, 5, 6, 7, 8, 9] from rfl]
  refine eqi_cons rfl (by go_simp; rfl) (by go_simp; rfl) (by go_simp) ?_
  refine eqi_cons rfl (by go_simp; rfl) (by go_simp; rfl) (by go_simp) ?_
  refine eqi_cons rfl (by go_simp; rfl) (by go_simp; rfl) (by go_simp) ?_
  refine eqi_cons rfl (by go_simp; rfl) (by go_simp; rfl) (by go_simp) ?_
  refine eqi_cons rfl (by go_simp; rfl) (by go_simp; rfl) (by go_simp) ?_
  refine eqi_cons rfl (by go_simp; rfl) (by go_simp; rfl) (by go_simp) ?_
  refine eqi_cons rfl (by go_simp; rfl) (by go_simp; rfl) (by go_simp) ?_
  refine eqi_cons rfl (by go_simp; rfl) (by go_simp; rfl) (by go_simp) ?_
  refine eqi_cons rfl (by go_simp; rfl) (by go_simp; rfl) (by go_simp) ?_
  exact eqi_last rfl (by go_simp; rfl) (by go_simp; rfl) (by go_simp)

attribute [local go_sem high] eqA60
-- NOT PRINTED: function 80 (annealref1_minus)

-- NOT PRINTED: function 68 (annealref1_plus)

-- NEED 0
/-! ### annealref1_nought: function 69 -/
def annealref1_nought.f (a0_0 : Bool) (a0_1 : Int) (a0_2 : Int) (a0_3 : Int) (a0_4 : Int) (a0_5 : Int) (a0_6 : Int) (a0_7 : Int) (a0_8 : Int) (a0_9 : Int) (a0_10 : Int) : Option (Bool) := some (a0_1 == 0 && (a0_2 == 0 && (a0_3 == 0 && (a0_4 == 0 && (a0_5 == 0 && (a0_6 == 0 && (a0_7 == 0 && (a0_8 == 0 && (a0_9 == 0 && (a0_10 == 0))))))))))
-- NEED 0
/-! ### annealref1_bias: function 71 -/
def annealref1_bias.f (a0 : Int) : Option (Int) := (annealref1_Widths.f a0).bind fun bt355 => (if 0 ≤ (wrap64 (bt355.1 - 1)) then (some (wrap64 ((shl .i64 1 (wrap64 (bt355.1 - 1))) - 1))) else (none))
set_option maxHeartbeats 8000000 in
set_option maxRecDepth 100000 in
theorem annealref1_bias.calls (a0 : Int) (r : Int) (w : World) (h : annealref1_bias.f a0 = some r) :
  Calls Try.prog 71 #[.int .i64 a0] w fun e w' => e = .returned (.int .i64 r) ∧ Drawn0 w w' := by
 have H : ((annealref1_Widths.f a0).bind fun bt355 => (if 0 ≤ (wrap64 (bt355.1 - 1)) then (some (wrap64 ((shl .i64 1 (wrap64 (bt355.1 - 1))) - 1))) else (none))) = some r := h
 clear h
 replace H := Option.bind_eq_some_iff.mp H
 obtain ⟨⟨t355, t356⟩, A20, H⟩ := H
 replace H : (if 0 ≤ (wrap64 (t355 - 1)) then (some (wrap64 ((shl .i64 1 (wrap64 (t355 - 1))) - 1))) else (none)) = some r := H
 have A2 := Aside0.mk A20
 clear A20
 obtain ⟨ji3, hji3⟩ : ∃ j_ : Int, (wrap64 (t355 - 1)) = j_ := ⟨_, rfl⟩
 replace H : (if 0 ≤ (ji3) then (some (wrap64 ((shl .i64 1 (ji3)) - 1))) else (none)) = some r := by first | (rw [hji3] at H; exact H) | (simp only [hji3] at H ⊢; exact H)
 (try rw [hji3] at A2)
 have hji3w : (IntKind.i64.wrap (t355 - 1)) = ji3 := (i64_w _).trans hji3
 by_cases c4 : 0 ≤ (ji3)
 ·rw [if_pos c4] at H
  have c4b0 := eq_true c4
  have c4b1 : decide (0 ≤ (ji3)) = true := decide_eq_true c4
  clear c4
  obtain ⟨ji5, hji5⟩ : ∃ j_ : Int, (shl .i64 1 (ji3)) = j_ := ⟨_, rfl⟩
  replace H : (some (wrap64 ((ji5) - 1))) = some r := by first | (rw [hji5] at H; exact H) | (simp only [hji5] at H ⊢; exact H)
  (try rw [hji5] at A2)
  have hji5_ : (IntKind.i64.wrap (1 * 2 ^ min (ji3).toNat 64)) = ji5 := hji5
  have hji5z : (ji3) ≤ 64 → (IntKind.i64.wrap (1 * 2 ^ (ji3).toNat)) = ji5 := shl_small hji5
  have hji5u : (IntKind.i64.wrap (2 ^ min (ji3).toNat 64)) = ji5 := by have h_ := hji5_; rw [Int.one_mul] at h_; exact h_
  have hji5v : (ji3) ≤ 64 → (IntKind.i64.wrap (2 ^ (ji3).toNat)) = ji5 := fun hle_ => by have h_ := hji5z hle_; rw [Int.one_mul] at h_; exact h_
  have hji5y : (wrap64 (1 * 2 ^ min (ji3).toNat 64)) = ji5 := (i64_w _).symm.trans hji5_
  have hji5x : (ji3) ≤ 64 → (wrap64 (1 * 2 ^ (ji3).toNat)) = ji5 := fun h_ => (i64_w _).symm.trans (hji5z h_)
  obtain rfl := Option.some.inj H
  go_enter Try.func71, Try.ntmps71
  go_wp2_with (first | ((with_reducible refine gate_callee (f := 23) rfl ?_); refine goesL_ (some 7) rfl rfl Try.func23 (by kernel_rfl) rfl #[.int .i64 a0] rfl gl ?_; (with_reducible refine (annealref1_Widths.calls a0 t355 t356 _ A2.out).mono ?_); rintro e w' ⟨rfl, ⟨nd, rfl⟩⟩; refine ⟨_, rfl, ?_⟩))
  go_ret
  exact ⟨by first | rfl | (simp; done) | (simp only [← hji3, ← hji5] <;> (first | rfl | (simp; done))) | (simp [*]; done) | (congr 1; (try unfold wrap64); omega) | (congr 1; rw [IntKind.wrap_u64]; omega), by repeat (first | exact Drawn0.refl _ | apply Drawn0.step)⟩
 ·rw [if_neg c4] at H
  exact absurd H (by simp)

-- NEED 0
/-! ### annealref1_Len: function 73 -/
def annealref1_Len.l0 : Nat → Int → Int → Option (Int)
 |0, _, _ => none
 |k + 1, x0, x3 => if x0 > 0 then (annealref1_Len.l0 k (x0 / 2) (wrap64 (x3 + 1))) else (some x3)
def annealref1_Len.f (k : Nat) (a0 : Int) : Option (Int) := annealref1_Len.l0 k a0 0
theorem annealref1_Len.mono_l : ∀ k, (∀ y0 y1, LeO (annealref1_Len.l0 k y0 y1) (annealref1_Len.l0 (k + 1) y0 y1))
 |0 => fun _ _ r h => by simp [annealref1_Len.l0] at h
 |k + 1 => by
  have ih0 := annealref1_Len.mono_l k
  ·intro y0 y1
   unfold annealref1_Len.l0
   repeat' first
   |(with_reducible exact ih0 _ _)
   |(with_reducible exact LeO.refl _)
   |(with_reducible exact LeO.none _)
   |(with_reducible refine LeO.ite ?_ ?_)
   |(with_reducible refine LeO.bind ?_ (fun _ => ?_))
   |exact ih0 _ _
   |exact LeO.none _
   |refine LeO.ite ?_ ?_
   |refine LeO.bind ?_ (fun _ => ?_)
theorem annealref1_Len.mono : ∀ a0 k, LeO (annealref1_Len.f k a0) (annealref1_Len.f (k + 1) a0) := by
 intro a0 k
 have ih0 := annealref1_Len.mono_l k
 unfold annealref1_Len.f
 repeat' first
   |(with_reducible exact ih0 _ _)
   |(with_reducible exact LeO.refl _)
   |(with_reducible exact LeO.none _)
   |(with_reducible refine LeO.ite ?_ ?_)
   |(with_reducible refine LeO.bind ?_ (fun _ => ?_))
   |exact ih0 _ _
   |exact LeO.none _
   |refine LeO.ite ?_ ?_
   |refine LeO.bind ?_ (fun _ => ?_)
set_option maxHeartbeats 8000000 in
set_option maxRecDepth 100000 in
theorem annealref1_Len.calls (k : Nat) (a0 : Int) (r : Int) (w : World) (h : annealref1_Len.f k a0 = some r) :
  Calls Try.prog 73 #[.int .u64 a0] w fun e w' => e = .returned (.int .i64 r) ∧ Drawn0 w w' := by
 have H : (annealref1_Len.l0 k a0 0) = some r := h
 clear h
 have H' := Aside0.mk H
 clear H
 go_enter Try.func73, Try.ntmps73
 go_wp2
 go_loopg [0, 3] k (fun kq v0 v3 w' => ∃ (x0_1 : Int) (x3_1 : Int), v0 = .int .u64 x0_1 ∧ v3 = .int .i64 x3_1 ∧ Aside0 (annealref1_Len.l0 kq x0_1 x3_1 = some r) ∧ Aside0 (kq ≤ k) ∧ Drawn0 w w')
 case atStart => exact ⟨(a0), (0), (by first | rfl | (simp; done) | (simp [*]; done) | (congr 1; (try unfold wrap64); omega) | (congr 1; rw [IntKind.wrap_u64]; omega)), (by first | rfl | (simp; done) | (simp [*]; done) | (congr 1; (try unfold wrap64); omega) | (congr 1; rw [IntKind.wrap_u64]; omega)), H', ⟨Nat.le_refl _⟩, by repeat (first | exact Drawn0.refl _ | apply Drawn0.step)⟩
 case round =>
  clear H'
  obtain ⟨x0_1, x3_1, rfl, rfl, HA, HK1, ⟨m1, rfl⟩⟩ := hrel
  cases gk with
  |zero => exact absurd HA.out (by simp [annealref1_Len.l0])
  |succ k1 =>
   have H := HA.out
   clear HA
   simp only [annealref1_Len.l0] at H
   by_cases c2 : x0_1 > 0
   ·rw [if_pos c2] at H
    have c2b0 : decide (0 < x0_1) = true := decide_eq_true c2
    clear c2
    have H' := Aside0.mk H
    clear H
    go_wp2
    go_roundg k1
    case measure => have := HK1.out; omega
    case rel => exact ⟨(x0_1 / 2), (wrap64 (x3_1 + 1)), (by first | rfl | (simp; done) | (simp [*]; done) | (congr 1; (try unfold wrap64); omega) | (congr 1; rw [IntKind.wrap_u64]; omega)), (by first | rfl | (simp; done) | (simp [*]; done) | (congr 1; (try unfold wrap64); omega) | (congr 1; rw [IntKind.wrap_u64]; omega)), H', ⟨by have := HK1.out; omega⟩, by repeat (first | exact Drawn0.refl _ | apply Drawn0.step)⟩
   ·rw [if_neg c2] at H
    have c2b0 : decide (0 < x0_1) = false := decide_eq_false c2
    clear c2
    obtain rfl := Option.some.inj H
    go_wp2
    go_ret
    exact ⟨by first | rfl | (simp; done) | (simp [*]; done) | (congr 1; (try unfold wrap64); omega) | (congr 1; rw [IntKind.wrap_u64]; omega), by repeat (first | exact Drawn0.refl _ | apply Drawn0.step)⟩

-- NEED 0
/-! ### annealref1_Shift: function 81 -/
mutual
def annealref1_Shift.l0 : Nat → Int → Int → Bool → Option (Int × Bool)
 |0, _, _, _ => none
 |k + 1, x0, x1, x6 => if x1 > 0 then (if x6 = true then (annealref1_Shift.l0 k (x0 / 2) (wrap64 (x1 - 1)) true) else (annealref1_Shift.l0 k (x0 / 2) (wrap64 (x1 - 1)) ((Go.bits .and .u64 x0 1) == 1))) else (annealref1_Shift.l1 k x0 x1 x6)
def annealref1_Shift.l1 : Nat → Int → Int → Bool → Option (Int × Bool)
 |0, _, _, _ => none
 |k + 1, x0, x1, x6 => if x1 < 0 then (if x6 = true then (annealref1_Shift.l1 k (IntKind.u64.wrap (x0 * 2)) (wrap64 (x1 + 1)) true) else (annealref1_Shift.l1 k (IntKind.u64.wrap (x0 * 2)) (wrap64 (x1 + 1)) ((x0 / 9223372036854775808) == 1))) else (some (x0, x6))
end
def annealref1_Shift.f (k : Nat) (a0 : Int) (a1 : Int) : Option (Int × Bool) := annealref1_Shift.l0 k a0 (mn (mx a1 (-64)) 64) false
theorem annealref1_Shift.mono_l : ∀ k, (∀ y0 y1 y2, LeO (annealref1_Shift.l0 k y0 y1 y2) (annealref1_Shift.l0 (k + 1) y0 y1 y2)) ∧ (∀ y0 y1 y2, LeO (annealref1_Shift.l1 k y0 y1 y2) (annealref1_Shift.l1 (k + 1) y0 y1 y2))
 |0 => ⟨fun _ _ _ r h => by simp [annealref1_Shift.l0] at h, fun _ _ _ r h => by simp [annealref1_Shift.l1] at h⟩
 |k + 1 => by
  obtain ⟨ih0, ih1⟩ := annealref1_Shift.mono_l k
  refine ⟨?_, ?_⟩
  ·intro y0 y1 y2
   unfold annealref1_Shift.l0
   repeat' first
   |(with_reducible exact ih0 _ _ _)
   |(with_reducible exact ih1 _ _ _)
   |(with_reducible exact LeO.refl _)
   |(with_reducible exact LeO.none _)
   |(with_reducible refine LeO.ite ?_ ?_)
   |(with_reducible refine LeO.bind ?_ (fun _ => ?_))
   |exact ih0 _ _ _
   |exact ih1 _ _ _
   |exact LeO.none _
   |refine LeO.ite ?_ ?_
   |refine LeO.bind ?_ (fun _ => ?_)
  ·intro y0 y1 y2
   unfold annealref1_Shift.l1
   repeat' first
   |(with_reducible exact ih0 _ _ _)
   |(with_reducible exact ih1 _ _ _)
   |(with_reducible exact LeO.refl _)
   |(with_reducible exact LeO.none _)
   |(with_reducible refine LeO.ite ?_ ?_)
   |(with_reducible refine LeO.bind ?_ (fun _ => ?_))
   |exact ih0 _ _ _
   |exact ih1 _ _ _
   |exact LeO.none _
   |refine LeO.ite ?_ ?_
   |refine LeO.bind ?_ (fun _ => ?_)
theorem annealref1_Shift.mono : ∀ a0 a1 k, LeO (annealref1_Shift.f k a0 a1) (annealref1_Shift.f (k + 1) a0 a1) := by
 intro a0 a1 k
 obtain ⟨ih0, ih1⟩ := annealref1_Shift.mono_l k
 unfold annealref1_Shift.f
 repeat' first
   |(with_reducible exact ih0 _ _ _)
   |(with_reducible exact ih1 _ _ _)
   |(with_reducible exact LeO.refl _)
   |(with_reducible exact LeO.none _)
   |(with_reducible refine LeO.ite ?_ ?_)
   |(with_reducible refine LeO.bind ?_ (fun _ => ?_))
   |exact ih0 _ _ _
   |exact ih1 _ _ _
   |exact LeO.none _
   |refine LeO.ite ?_ ?_
   |refine LeO.bind ?_ (fun _ => ?_)
set_option maxHeartbeats 8000000 in
set_option maxRecDepth 100000 in
theorem annealref1_Shift.calls (k : Nat) (a0 : Int) (a1 : Int) (r1 : Int) (r2 : Bool) (w : World) (h : annealref1_Shift.f k a0 a1 = some (r1, r2)) :
  Calls Try.prog 81 #[.int .u64 a0, .int .i64 a1] w fun e w' => e = .returned (.tuple #[.int .u64 r1, .bool r2]) ∧ Below w.heap.size w w' := by
 have HB := Aside0.mk (Below.refl w.heap.size w)
 have H : (annealref1_Shift.l0 k a0 (mn (mx a1 (-64)) 64) false) = some (r1, r2) := h
 clear h
 obtain ⟨ji3, hji3⟩ : ∃ j_ : Int, (mx a1 (-64)) = j_ := ⟨_, rfl⟩
 replace H : (annealref1_Shift.l0 k a0 (mn (ji3) 64) false) = some (r1, r2) := by first | (rw [hji3] at H; exact H) | (simp only [hji3] at H ⊢; exact H)
 have hji3_ : (if a1 < (-64) then (-64) else a1) = ji3 := hji3
 obtain ⟨ji4, hji4⟩ : ∃ j_ : Int, (mn (ji3) 64) = j_ := ⟨_, rfl⟩
 replace H : (annealref1_Shift.l0 k a0 ji4 false) = some (r1, r2) := by first | (rw [hji4] at H; exact H) | (simp only [hji4] at H ⊢; exact H)
 have hji4_ : (if 64 < (ji3) then 64 else (ji3)) = ji4 := hji4
 have H' := Aside0.mk H
 clear H
 go_enter Try.func81, Try.ntmps81
 go_wp2
 go_loopg [0, 1, 6] k (fun kq v0 v1 v6 w' => ∃ (x0_1 : Int) (x1_1 : Int) (x6_1 : Bool), v0 = .int .u64 x0_1 ∧ v1 = .int .i64 x1_1 ∧ v6 = .bool x6_1 ∧ Aside0 (annealref1_Shift.l0 kq x0_1 x1_1 x6_1 = some (r1, r2)) ∧ Aside0 (kq ≤ k) ∧ Aside0 (Below w.heap.size w w'))
 case atStart => exact ⟨(a0), (ji4), (false), (by first | rfl | (simp; done) | (simp [*]; done) | (congr 1; (try unfold wrap64); omega) | (congr 1; rw [IntKind.wrap_u64]; omega)), (by first | rfl | (simp; done) | (simp only [← hji4] <;> (first | rfl | (simp; done))) | (simp [*]; done) | (congr 1; (try unfold wrap64); omega) | (congr 1; rw [IntKind.wrap_u64]; omega)), (by first | rfl | (simp; done) | (simp [*]; done) | (congr 1; (try unfold wrap64); omega) | (congr 1; rw [IntKind.wrap_u64]; omega)), H', ⟨Nat.le_refl _⟩, ⟨bl0 HB.out⟩⟩
 case round =>
  clear H'
  try clear p2
  obtain ⟨x0_1, x1_1, x6_1, rfl, rfl, rfl, HA, HK1, HB⟩ := hrel
  cases gk with
  |zero => exact absurd HA.out (by simp [annealref1_Shift.l0])
  |succ k1 =>
   have H := HA.out
   clear HA
   simp only [annealref1_Shift.l0] at H
   by_cases c5 : x1_1 > 0
   ·rw [if_pos c5] at H
    have c5b0 : decide (0 < x1_1) = true := decide_eq_true c5
    clear c5
    by_cases c6 : x6_1 = true
    ·subst c6
     have H1 : (annealref1_Shift.l0 k1 (x0_1 / 2) (wrap64 (x1_1 - 1)) true) = some (r1, r2) := by rw [if_pos rfl] at H; exact H
     clear H
     have H := H1
     clear H1
     have H' := Aside0.mk H
     clear H
     go_wp2
     go_roundg k1
     case measure => have := HK1.out; omega
     case rel => exact ⟨(x0_1 / 2), (wrap64 (x1_1 - 1)), (true), (by first | rfl | (simp; done) | (simp [*]; done) | (congr 1; (try unfold wrap64); omega) | (congr 1; rw [IntKind.wrap_u64]; omega)), (by first | rfl | (simp; done) | (simp [*]; done) | (congr 1; (try unfold wrap64); omega) | (congr 1; rw [IntKind.wrap_u64]; omega)), (by first | rfl | (simp; done) | (simp [*]; done) | (congr 1; (try unfold wrap64); omega) | (congr 1; rw [IntKind.wrap_u64]; omega)), H', ⟨by have := HK1.out; omega⟩, ⟨bl0 HB.out⟩⟩
    ·replace c6 := Bool.eq_false_iff.mpr c6
     subst c6
     have H1 : (annealref1_Shift.l0 k1 (x0_1 / 2) (wrap64 (x1_1 - 1)) ((Go.bits .and .u64 x0_1 1) == 1)) = some (r1, r2) := by rw [if_neg (show ¬ (false = true) by decide)] at H; exact H
     clear H
     have H := H1
     clear H1
     have H' := Aside0.mk H
     clear H
     go_wp2
     go_roundg k1
     case measure => have := HK1.out; omega
     case rel => exact ⟨(x0_1 / 2), (wrap64 (x1_1 - 1)), (((Go.bits .and .u64 x0_1 1) == 1)), (by first | rfl | (simp; done) | (simp [*]; done) | (congr 1; (try unfold wrap64); omega) | (congr 1; rw [IntKind.wrap_u64]; omega)), (by first | rfl | (simp; done) | (simp [*]; done) | (congr 1; (try unfold wrap64); omega) | (congr 1; rw [IntKind.wrap_u64]; omega)), (by first | rfl | (simp; done) | (simp [*]; done) | (congr 1; (try unfold wrap64); omega) | (congr 1; rw [IntKind.wrap_u64]; omega)), H', ⟨by have := HK1.out; omega⟩, ⟨bl0 HB.out⟩⟩
   ·rw [if_neg c5] at H
    have c5b0 : decide (0 < x1_1) = false := decide_eq_false c5
    clear c5
    have H' := Aside0.mk H
    clear H
    go_wp2
    go_loopg [0, 1, 6] k1 (fun kq v0 v1 v6 w' => ∃ (x0_2 : Int) (x1_2 : Int) (x6_2 : Bool), v0 = .int .u64 x0_2 ∧ v1 = .int .i64 x1_2 ∧ v6 = .bool x6_2 ∧ Aside0 (annealref1_Shift.l1 kq x0_2 x1_2 x6_2 = some (r1, r2)) ∧ Aside0 (kq ≤ k1) ∧ Aside0 (Below w.heap.size w w'))
    case atStart => exact ⟨(x0_1), (x1_1), (x6_1), (by first | rfl | (simp; done) | (simp [*]; done) | (congr 1; (try unfold wrap64); omega) | (congr 1; rw [IntKind.wrap_u64]; omega)), (by first | rfl | (simp; done) | (simp [*]; done) | (congr 1; (try unfold wrap64); omega) | (congr 1; rw [IntKind.wrap_u64]; omega)), (by first | rfl | (simp; done) | (simp [*]; done) | (congr 1; (try unfold wrap64); omega) | (congr 1; rw [IntKind.wrap_u64]; omega)), H', ⟨Nat.le_refl _⟩, ⟨bl0 HB.out⟩⟩
    case round =>
     clear H'
     try clear p2 c5 c5b0 c6 p6 p2
     obtain ⟨x0_2, x1_2, x6_2, rfl, rfl, rfl, HA, HK2, HB⟩ := hrel
     cases gk with
     |zero => exact absurd HA.out (by simp [annealref1_Shift.l1])
     |succ k2 =>
      have H := HA.out
      clear HA
      simp only [annealref1_Shift.l1] at H
      by_cases c7 : x1_2 < 0
      ·rw [if_pos c7] at H
       have c7b0 : decide (x1_2 < 0) = true := decide_eq_true c7
       clear c7
       by_cases c8 : x6_2 = true
       ·subst c8
        have H1 : (annealref1_Shift.l1 k2 (IntKind.u64.wrap (x0_2 * 2)) (wrap64 (x1_2 + 1)) true) = some (r1, r2) := by rw [if_pos rfl] at H; exact H
        clear H
        have H := H1
        clear H1
        have H' := Aside0.mk H
        clear H
        go_wp2
        go_roundg k2
        case measure => have := HK1.out; have := HK2.out; omega
        case rel => exact ⟨(IntKind.u64.wrap (x0_2 * 2)), (wrap64 (x1_2 + 1)), (true), (by first | rfl | (simp; done) | (simp [*]; done) | (congr 1; (try unfold wrap64); omega) | (congr 1; rw [IntKind.wrap_u64]; omega)), (by first | rfl | (simp; done) | (simp [*]; done) | (congr 1; (try unfold wrap64); omega) | (congr 1; rw [IntKind.wrap_u64]; omega)), (by first | rfl | (simp; done) | (simp [*]; done) | (congr 1; (try unfold wrap64); omega) | (congr 1; rw [IntKind.wrap_u64]; omega)), H', ⟨by have := HK1.out; have := HK2.out; omega⟩, ⟨bl0 HB.out⟩⟩
       ·replace c8 := Bool.eq_false_iff.mpr c8
        subst c8
        have H1 : (annealref1_Shift.l1 k2 (IntKind.u64.wrap (x0_2 * 2)) (wrap64 (x1_2 + 1)) ((x0_2 / 9223372036854775808) == 1)) = some (r1, r2) := by rw [if_neg (show ¬ (false = true) by decide)] at H; exact H
        clear H
        have H := H1
        clear H1
        have H' := Aside0.mk H
        clear H
        go_wp2
        go_roundg k2
        case measure => have := HK1.out; have := HK2.out; omega
        case rel => exact ⟨(IntKind.u64.wrap (x0_2 * 2)), (wrap64 (x1_2 + 1)), (((x0_2 / 9223372036854775808) == 1)), (by first | rfl | (simp; done) | (simp [*]; done) | (congr 1; (try unfold wrap64); omega) | (congr 1; rw [IntKind.wrap_u64]; omega)), (by first | rfl | (simp; done) | (simp [*]; done) | (congr 1; (try unfold wrap64); omega) | (congr 1; rw [IntKind.wrap_u64]; omega)), (by first | rfl | (simp; done) | (simp [*]; done) | (congr 1; (try unfold wrap64); omega) | (congr 1; rw [IntKind.wrap_u64]; omega)), H', ⟨by have := HK1.out; have := HK2.out; omega⟩, ⟨bl0 HB.out⟩⟩
      ·rw [if_neg c7] at H
       have c7b0 : decide (x1_2 < 0) = false := decide_eq_false c7
       clear c7
       simp only [Option.some.injEq, Prod.mk.injEq] at H
       obtain ⟨rfl, rfl⟩ := H
       go_wp2
       go_ret2
       exact ⟨by first | rfl | (simp [errW_none, errW_some] <;> rfl) | (simp only [← hji3, ← hji4]; first | rfl | (simp [errW_none, errW_some] <;> rfl)) | (simp [*, errW_none, errW_some] <;> rfl), bl0 HB.out⟩

-- NEED 0
/-! ### annealref1_divide: function 74 -/
def annealref1_divide.f (k : Nat) (a0 : Int) (a1 : Int) : Option (Int × Bool × Bool) := if a1 ≤ 0 then (if 0 ≤ (mn (wrap64 (-a1)) 63) then (some (IntKind.u64.wrap (a0 * 2 ^ (mn (wrap64 (-a1)) 63).toNat), false, false)) else (none)) else (if a1 > 64 then (some (0, false, (a0 != 0))) else ((annealref1_Shift.f k a0 a1).bind fun bt357 => ((annealref1_Shift.f k a0 (wrap64 (a1 - 1))).bind fun bt359 => ((annealref1_Shift.f k a0 (wrap64 (a1 - 1))).bind fun bt361 => (some (bt357.1, ((Go.bits .and .u64 bt359.1 1) == 1), bt361.2))))))
theorem annealref1_divide.mono : ∀ a0 a1 k, LeO (annealref1_divide.f k a0 a1) (annealref1_divide.f (k + 1) a0 a1) := by
 intro a0 a1 k
 unfold annealref1_divide.f
 repeat' first
   |(with_reducible exact annealref1_Shift.mono _ _ _)
   |(with_reducible exact LeO.refl _)
   |(with_reducible exact LeO.none _)
   |(with_reducible refine LeO.ite ?_ ?_)
   |(with_reducible refine LeO.bind ?_ (fun _ => ?_))
   |exact annealref1_Shift.mono _ _ _
   |exact LeO.none _
   |refine LeO.ite ?_ ?_
   |refine LeO.bind ?_ (fun _ => ?_)
set_option maxHeartbeats 8000000 in
set_option maxRecDepth 100000 in
theorem annealref1_divide.calls (k : Nat) (a0 : Int) (a1 : Int) (r1 : Int) (r2 : Bool) (r3 : Bool) (w : World) (h : annealref1_divide.f k a0 a1 = some (r1, r2, r3)) :
  Calls Try.prog 74 #[.int .u64 a0, .int .i64 a1] w fun e w' => e = .returned (.tuple #[.int .u64 r1, .bool r2, .bool r3]) ∧ Below w.heap.size w w' := by
 have HB := Aside0.mk (Below.refl w.heap.size w)
 have H : (if a1 ≤ 0 then (if 0 ≤ (mn (wrap64 (-a1)) 63) then (some (IntKind.u64.wrap (a0 * 2 ^ (mn (wrap64 (-a1)) 63).toNat), false, false)) else (none)) else (if a1 > 64 then (some (0, false, (a0 != 0))) else ((annealref1_Shift.f k a0 a1).bind fun bt357 => ((annealref1_Shift.f k a0 (wrap64 (a1 - 1))).bind fun bt359 => ((annealref1_Shift.f k a0 (wrap64 (a1 - 1))).bind fun bt361 => (some (bt357.1, ((Go.bits .and .u64 bt359.1 1) == 1), bt361.2))))))) = some (r1, r2, r3) := h
 clear h
 by_cases c3 : a1 ≤ 0
 ·rw [if_pos c3] at H
  have c3b0 : decide (a1 ≤ 0) = true := decide_eq_true c3
  clear c3
  obtain ⟨ji4, hji4⟩ : ∃ j_ : Int, (mn (wrap64 (-a1)) 63) = j_ := ⟨_, rfl⟩
  replace H : (if 0 ≤ (ji4) then (some (IntKind.u64.wrap (a0 * 2 ^ (ji4).toNat), false, false)) else (none)) = some (r1, r2, r3) := by first | (rw [hji4] at H; exact H) | (simp only [hji4] at H ⊢; exact H)
  (try (have hji4h : ji4 ≤ 63 := by (rw [← hji4]; unfold mn; (repeat' split) <;> omega)))
  (try (have hji4g : ji4 ≤ 64 := by omega))
  have hji4_ : (if 63 < (wrap64 (-a1)) then 63 else (wrap64 (-a1))) = ji4 := hji4
  by_cases c5 : 0 ≤ (ji4)
  ·rw [if_pos c5] at H
   have c5b0 := eq_true c5
   have c5b1 : decide (0 ≤ (ji4)) = true := decide_eq_true c5
   clear c5
   simp only [Option.some.injEq, Prod.mk.injEq] at H
   obtain ⟨rfl, rfl, rfl⟩ := H
   go_enter Try.func74, Try.ntmps74
   go_wp2
   go_ret3
   exact ⟨by first | rfl | (simp [errW_none, errW_some] <;> rfl) | (simp only [← hji4]; first | rfl | (simp [errW_none, errW_some] <;> rfl)) | (simp [*, errW_none, errW_some] <;> rfl), bl0 HB.out⟩
  ·rw [if_neg c5] at H
   exact absurd H (by simp)
 ·rw [if_neg c3] at H
  have c3b0 : decide (a1 ≤ 0) = false := decide_eq_false c3
  clear c3
  by_cases c6 : a1 > 64
  ·rw [if_pos c6] at H
   have c6b0 : decide (64 < a1) = true := decide_eq_true c6
   clear c6
   simp only [Option.some.injEq, Prod.mk.injEq] at H
   obtain ⟨rfl, rfl, rfl⟩ := H
   go_enter Try.func74, Try.ntmps74
   go_wp2
   go_ret3
   exact ⟨by first | rfl | (simp [errW_none, errW_some] <;> rfl) | (simp [*, errW_none, errW_some] <;> rfl), bl0 HB.out⟩
  ·rw [if_neg c6] at H
   have c6b0 : decide (64 < a1) = false := decide_eq_false c6
   clear c6
   replace H := Option.bind_eq_some_iff.mp H
   obtain ⟨⟨t357, t358⟩, A70, H⟩ := H
   replace H : ((annealref1_Shift.f k a0 (wrap64 (a1 - 1))).bind fun bt359 => ((annealref1_Shift.f k a0 (wrap64 (a1 - 1))).bind fun bt361 => (some (t357, ((Go.bits .and .u64 bt359.1 1) == 1), bt361.2)))) = some (r1, r2, r3) := H
   have A7 := Aside0.mk A70
   clear A70
   replace H := Option.bind_eq_some_iff.mp H
   obtain ⟨⟨t359, t360⟩, A80, H⟩ := H
   replace H : ((annealref1_Shift.f k a0 (wrap64 (a1 - 1))).bind fun bt361 => (some (t357, ((Go.bits .and .u64 t359 1) == 1), bt361.2))) = some (r1, r2, r3) := H
   have A8 := Aside0.mk A80
   clear A80
   replace H := Option.bind_eq_some_iff.mp H
   obtain ⟨⟨t361, t362⟩, A90, H⟩ := H
   replace H : (some (t357, ((Go.bits .and .u64 t359 1) == 1), t362)) = some (r1, r2, r3) := H
   have A9 := Aside0.mk A90
   clear A90
   simp only [Option.some.injEq, Prod.mk.injEq] at H
   obtain ⟨rfl, rfl, rfl⟩ := H
   go_enter Try.func74, Try.ntmps74
   go_wp2_with (first | ((with_reducible refine gate_callee (f := 81) rfl ?_); refine goesL_ (some 27) rfl rfl Try.func81 (by kernel_rfl) rfl #[.int .u64 a0, .int .i64 a1] rfl gl ?_; (with_reducible refine (annealref1_Shift.calls k a0 a1 t357 t358 _ A7.out).mono ?_); rintro e w10 ⟨rfl, hb⟩; refine ⟨_, rfl, ?_⟩; have n0_ := Aside0.mk (below_step (bl0 HB.out) hb); clear HB; have HB := n0_; clear n0_) | ((with_reducible refine gate_callee (f := 81) rfl ?_); refine goesL_ (some 34) rfl rfl Try.func81 (by kernel_rfl) rfl #[.int .u64 a0, .int .i64 (wrap64 (a1 - 1))] rfl gl ?_; (with_reducible refine (annealref1_Shift.calls k a0 (wrap64 (a1 - 1)) t359 t360 _ A8.out).mono ?_); rintro e w11 ⟨rfl, hb⟩; refine ⟨_, rfl, ?_⟩; have n0_ := Aside0.mk (below_step (bl0 HB.out) hb); clear HB; have HB := n0_; clear n0_) | ((with_reducible refine gate_callee (f := 81) rfl ?_); refine goesL_ (some 41) rfl rfl Try.func81 (by kernel_rfl) rfl #[.int .u64 a0, .int .i64 (wrap64 (a1 - 1))] rfl gl ?_; (with_reducible refine (annealref1_Shift.calls k a0 (wrap64 (a1 - 1)) t361 t362 _ A9.out).mono ?_); rintro e w12 ⟨rfl, hb⟩; refine ⟨_, rfl, ?_⟩; have n0_ := Aside0.mk (below_step (bl0 HB.out) hb); clear HB; have HB := n0_; clear n0_))
   go_ret3
   exact ⟨by first | rfl | (simp [errW_none, errW_some] <;> rfl) | (simp [*, errW_none, errW_some] <;> rfl), bl0 HB.out⟩

end Go.Proofs.Ytejkemahdincjaa.P
