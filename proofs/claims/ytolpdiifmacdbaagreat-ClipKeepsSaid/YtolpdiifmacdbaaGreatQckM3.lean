import Derived.Test.YtolpdiifmacdbaaGreatQckM2
set_option linter.unusedVariables false
set_option linter.unusedSimpArgs false
namespace Go.Proofs.YtolpdiifmacdbaaGreat
noncomputable section
open Go.RowKit YtolpdiifmacdbaaGreatW.PrintWords YtolpdiifmacdbaaGreatW.PrintLast YtolpdiifmacdbaaGreatW.PrintMore
namespace Xe
def DM (l : List Bool) (d : Nat) : Prop := ∀ j, d.testBit j = l.getD j false
theorem DM.zero (n : Nat) : DM (List.replicate n false) 0 := fun j => by
 rw [Nat.zero_testBit, List.getD_eq_getElem?_getD, List.getElem?_replicate]
 split <;> rfl
theorem DM.set {l : List Bool} {d i : Nat} (h : DM l d) (hi : i < l.length) : DM (l.set i true) (Nat.lor d (Nat.pow 2 i)) := fun j => by
 show (d ||| 2 ^ i).testBit j = _
 rw [Nat.testBit_or, Nat.testBit_two_pow, h j, List.getD_eq_getElem?_getD, List.getD_eq_getElem?_getD, List.getElem?_set]
 by_cases c : i = j
 ·subst c
  simp [hi]
 ·rw [if_neg c]
  simp [c]
theorem tJ (j : Nat) : ∀ l : List Nat, (lH l).testBit j = decide (j ∈ l) := by
 intro l
 induction l with
 |nil => simp [lH]
 |cons i r ih =>
  show ((2 ^ i) ||| lH r).testBit j = _
  rw [Nat.testBit_or, Nat.testBit_two_pow, ih]
  by_cases c : i = j
  ·subst c; simp
  ·simp [c, Ne.symm c]
theorem wL {l : List Bool} {d : Nat} (h : DM l d) (r : List Nat) : Nat.beq (Nat.land d (lH r)) (lH r) = r.all (fun j => l.getD j false) := by
 have e : (Nat.land d (lH r) = lH r) ↔ ∀ j ∈ r, l.getD j false = true := by
  constructor
  ·intro he j hj
   have := congrArg (fun x : Nat => x.testBit j) he
   have h1 : (d &&& lH r).testBit j = (lH r).testBit j := this
   rw [Nat.testBit_and, tJ, decide_eq_true hj, Bool.and_true, h j] at h1
   exact h1
  ·intro hall
   apply Nat.eq_of_testBit_eq
   intro j
   show (d &&& lH r).testBit j = _
   rw [Nat.testBit_and, tJ, h j]
   by_cases c : j ∈ r
   ·rw [hall j c, Bool.true_and]
   ·rw [decide_eq_false c, Bool.and_false]
 cases hb : Nat.beq (Nat.land d (lH r)) (lH r)
 ·symm
  rw [Bool.eq_false_iff]
  intro ht
  rw [List.all_eq_true] at ht
  rw [e.2 ht, ybeq] at hb
  cases hb
 ·symm
  rw [List.all_eq_true]
  exact e.1 (Nat.eq_of_beq_eq_true hb)
theorem aAx {l : List Bool} {d : Nat} (h : DM l d) (i : Nat) : Nat.beq (Nat.land d (Nat.pow 2 i)) 0 = !l.getD i false := by
 have e : (Nat.land d (Nat.pow 2 i) = 0) ↔ l.getD i false = false := by
  constructor
  ·intro he
   have h1 : (d &&& 2 ^ i).testBit i = (0 : Nat).testBit i := congrArg (fun x : Nat => x.testBit i) he
   rw [Nat.testBit_and, Nat.testBit_two_pow, Nat.zero_testBit, h i] at h1
   simpa using h1
  ·intro he
   apply Nat.eq_of_testBit_eq
   intro j
   show (d &&& 2 ^ i).testBit j = _
   rw [Nat.testBit_and, Nat.testBit_two_pow, Nat.zero_testBit, h j]
   by_cases c : i = j
   ·subst c; rw [he, Bool.false_and]
   ·simp [c]
 cases hb : Nat.beq (Nat.land d (Nat.pow 2 i)) 0
 ·cases hl : l.getD i false
  ·rw [e.2 hl] at hb; cases hb
  ·rfl
 ·rw [e.1 (Nat.eq_of_beq_eq_true hb)]; rfl
theorem xK {l : List Bool} {j : Nat} (h : j < l.length) : l.getD j true = l.getD j false := by
 rw [List.getD_eq_getElem?_getD, List.getD_eq_getElem?_getD, List.getElem?_eq_getElem h]; rfl
theorem getD_out {l : List Bool} {j : Nat} (h : ¬ j < l.length) (b : Bool) : l.getD j b = b := by
 rw [List.getD_eq_getElem?_getD, List.getElem?_eq_none (by omega)]; rfl
theorem aDh (ops : Array Oper) (n : Nat) : ∀ (T : List (List Nat × List Nat)) (i j : Nat), (mJ ops n i T)[j]? = (T[j]?).map fun r => ⟨Nat.pow 2 (i + j), lH r.1, lH (r.2.filter fun q => Nat.blt q n), sD ops (i + j)⟩ := by
 intro T
 induction T with
 |nil => intro i j; simp [mJ]
 |cons r T ih =>
  intro i j
  cases j with
  |zero => rfl
  |succ j =>
   show (mJ ops n (i + 1) T)[j]? = _
   rw [ih, show i + 1 + j = i + (j + 1) by omega]
   simp
theorem aB9 (ops : Array Oper) (n : Nat) {T0 : List (List Nat × List Nat)} {l : List Bool} {d : Nat} (h : DM l d) (hl : l.length = T0.length) : ∀ (T : List (List Nat × List Nat)) (i : Nat), T0.drop i = T →
  qL (mJ ops n i T) i d = (List.range' i T.length).filter (readyAt T0 l) := by
 intro T
 induction T with
 |nil => intro i _; rfl
 |cons r T ih =>
  intro i hd
  have hi : i < T0.length := by
   rcases Nat.lt_or_ge i T0.length with h | h
   ·exact h
   ·rw [List.drop_eq_nil_of_le h] at hd; cases hd
  have hr : T0[i]? = some r := by
   have := congrArg (fun q : List (List Nat × List Nat) => q[0]?) hd
   simpa using this
  have hn : T0.drop (i + 1) = T := by rw [← List.drop_drop, hd]; rfl
  have e : readyAt T0 l i = (!l.getD i false && r.1.all (fun j => l.getD j false)) := by
   unfold readyAt
   rw [hr, xK (by omega)]
  show cnd (Nat.beq (Nat.land d (Nat.pow 2 i)) 0) (cnd (Nat.beq (Nat.land d (lH r.1)) (lH r.1)) (i :: qL (mJ ops n (i + 1) T) (i + 1) d) (qL (mJ ops n (i + 1) T) (i + 1) d)) (qL (mJ ops n (i + 1) T) (i + 1) d) = _
  rw [aAx h, wL h, ih (i + 1) hn, List.length_cons, List.range'_succ, List.filter_cons, e]
  cases l.getD i false <;> cases r.1.all (fun j => l.getD j false) <;> rfl
theorem aCD (ops : Array Oper) (n : Nat) {T : List (List Nat × List Nat)} {l : List Bool} {d : Nat} (h : DM l d) (hl : l.length = T.length) : qL (mJ ops n 0 T) 0 d = readyT T l := by
 rw [aB9 ops n h hl T 0 rfl]
 unfold readyT
 rw [List.range_eq_range']
theorem aBl (ops : Array Oper) (n : Nat) {T0 : List (List Nat × List Nat)} {l : List Bool} {d : Nat} (h : DM l d) : ∀ (T : List (List Nat × List Nat)) (i : Nat), T0.drop i = T →
  oO (mJ ops n i T) d = (List.range' i T.length).all fun j => !l.getD j false || match T0[j]? with
   |some r => r.1.all (fun k => l.getD k false)
   |none => true := by
 intro T
 induction T with
 |nil => intro i _; rfl
 |cons r T ih =>
  intro i hd
  have hr : T0[i]? = some r := by
   have := congrArg (fun q : List (List Nat × List Nat) => q[0]?) hd
   simpa using this
  have hn : T0.drop (i + 1) = T := by rw [← List.drop_drop, hd]; rfl
  show cnd (Nat.beq (Nat.land d (Nat.pow 2 i)) 0) (oO (mJ ops n (i + 1) T) d) (cnd (Nat.beq (Nat.land d (lH r.1)) (lH r.1)) (oO (mJ ops n (i + 1) T) d) false) = _
  rw [aAx h, wL h, ih (i + 1) hn, List.length_cons, List.range'_succ, List.all_cons, hr]
  show _ = ((!l.getD i false || r.1.all (fun j => l.getD j false)) && _)
  cases l.getD i false <;> cases r.1.all (fun j => l.getD j false) <;> rfl
theorem aBi (ops : Array Oper) (n : Nat) {T : List (List Nat × List Nat)} {l : List Bool} {d : Nat} (h : DM l d) : oO (mJ ops n 0 T) d = closedT T l := by
 rw [aBl ops n h T 0 rfl]
 unfold closedT
 rw [List.range_eq_range']
 rfl
theorem aCX {l : List Bool} {d n : Nat} (h : DM l d) (hl : l.length = n) (r : List Nat) : Nat.beq (Nat.land d (lH (r.filter fun q => Nat.blt q n))) (lH (r.filter fun q => Nat.blt q n)) = r.all (fun j => l.getD j true) := by
 rw [wL h]
 induction r with
 |nil => rfl
 |cons j r ih =>
  rw [List.filter_cons, List.all_cons]
  by_cases c : j < n
  ·rw [show Nat.blt j n = true from by rw [Nat.blt]; exact Nat.ble_eq_true_of_le c, if_pos rfl, List.all_cons, ih, xK (by omega)]
  ·have hb : Nat.blt j n = false := by
    cases hh : Nat.blt j n
    ·rfl
    ·exact absurd (Nat.le_of_ble_eq_true hh) c
   rw [hb, if_neg (by decide), ih, getD_out (by omega) true, Bool.true_and]
theorem zB {l : List Bool} {d n : Nat} (h : DM l d) (hl : l.length = n) (ds : List Nat) (hds : ∀ j ∈ ds, j < n) : Nat.beq (Nat.land d (stM n ds)) 0 = ds.all (fun j => !(l.getD j true)) := by
 have e : (Nat.land d (stM n ds) = 0) ↔ ∀ j ∈ ds, l.getD j true = false := by
  have hb : ∀ j, (stM n ds).testBit j = decide (j ∈ ds) := fun j => by
   unfold stM
   rw [tJ]
   apply decide_eq_decide.2
   rw [List.mem_filter]
   exact ⟨fun h => h.1, fun h => ⟨h, by rw [Nat.blt]; exact Nat.ble_eq_true_of_le (hds j h)⟩⟩
  constructor
  ·intro he j hj
   have h1 : (d &&& stM n ds).testBit j = (0 : Nat).testBit j := congrArg (fun x : Nat => x.testBit j) he
   rw [Nat.testBit_and, hb, decide_eq_true hj, Nat.zero_testBit, Bool.and_true, h j] at h1
   rw [xK (by rw [hl]; exact hds j hj)]
   exact h1
  ·intro hall
   apply Nat.eq_of_testBit_eq
   intro j
   show (d &&& stM n ds).testBit j = _
   rw [Nat.testBit_and, hb, Nat.zero_testBit, h j]
   by_cases c : j ∈ ds
   ·rw [← xK (by rw [hl]; exact hds j c), hall j c, Bool.false_and]
   ·rw [decide_eq_false c, Bool.and_false]
 cases hb : Nat.beq (Nat.land d (stM n ds)) 0
 ·symm
  rw [Bool.eq_false_iff]
  intro ht
  rw [List.all_eq_true] at ht
  rw [e.2 (fun j hj => by simpa using ht j hj)] at hb
  cases hb
 ·symm
  rw [List.all_eq_true]
  intro j hj
  rw [e.1 (Nat.eq_of_beq_eq_true hb) j hj]
  rfl
theorem find_congr {α : Type} {p q : α → Bool} : ∀ {l : List α}, (∀ x ∈ l, p x = q x) → l.find? p = l.find? q := by
 intro l
 induction l with
 |nil => intro _; rfl
 |cons a l ih =>
  intro h
  rw [List.find?_cons, List.find?_cons, h a (List.mem_cons_self ..), ih (fun x hx => h x (List.mem_cons_of_mem _ hx))]
theorem qP {α : Type} {p : α → Bool} {l : List α} (h : ∀ x ∈ l, p x = false) : l.find? p = none := by
 rw [List.find?_eq_none]
 intro x hx
 rw [h x hx]
 decide
theorem rtab_len (ops : Array Oper) : (rtab .any ops).2.length = ops.size := by unfold rtab; simp
def aBt (ops : Array Oper) (T : Bool × List (List Nat × List Nat)) (B ds : List Nat) (l : List Bool) : Stp := match readyT T.2 l with
 |[] => .done
 |rs => match rs.find? (fun i => pE ops i && anyT T l (l.set i true) i) with
  |some i => .pure i
  |none => match rs.find? (fun i => loadAt ops i && takeW T B ds l (l.set i true) i && ds.all (fun d => !(l.getD d true))) with
   |some i => .load i
   |none => .all rs
theorem aB5 (ops : Array Oper) (i : Nat) : Nat.beq (sD ops i) 0 = pE ops i := by
 unfold sD pE
 split
 ·next o h => cases hp : o9 o.op <;> cases hq : isLoad o.op <;> rfl
 ·rfl
theorem aDa (ops : Array Oper) (i : Nat) : Nat.beq (sD ops i) 1 = loadAt ops i := by
 unfold sD loadAt
 split
 ·next o h =>
  cases hp : o9 o.op with
  |false => cases hq : isLoad o.op <;> rfl
  |true =>
   cases hq : isLoad o.op with
   |false => rfl
   |true =>
    exfalso
    cases ho : o.op <;> rw [ho] at hp hq <;> first | (cases hq; done) | (cases hp; done)
 ·rfl
theorem aAS {ops : Array Oper} {l : List Bool} {d : Nat} (B : List Nat) (h : DM l d) (hl : l.length = ops.size) :
  stepM ops (rtab .any ops) B (dN ops) (mJ ops ops.size 0 (rtab .any ops).2) (stM ops.size (dN ops)) d = aBt ops (rtab .any ops) B (dN ops) l := by
 have hl2 : l.length = (rtab .any ops).2.length := hl.trans (rtab_len ops).symm
 have hds : ∀ j ∈ dN ops, j < ops.size := fun j hj => by
  unfold dN at hj
  exact List.mem_range.1 (List.mem_filter.1 hj).1
 have hfree : ∀ k i, okM (mJ ops ops.size 0 (rtab .any ops).2) k d i = (Nat.beq (sD ops i) k && freeT (rtab .any ops).2 l i) := by
  intro k i
  unfold okM freeT
  rw [aDh, Nat.zero_add]
  cases hT : (rtab .any ops).2[i]? with
  |none => simp
  |some r =>
   simp only [Option.map_some]
   rw [aCX h hl]
   cases Nat.beq (sD ops i) k <;> rfl
 unfold stepM aBt
 rw [aCD ops ops.size h hl2]
 have hrd : ∀ i ∈ readyT (rtab .any ops).2 l, readyAt (rtab .any ops).2 l i = true := fun i hi => (List.mem_filter.1 hi).2
 generalize hrs : readyT (rtab .any ops).2 l = rs at hrd
 cases rs with
 |nil => rfl
 |cons a rs =>
  simp only
  have e1 : (cnd (rtab .any ops).1 ((a :: rs).find? fun i => okM (mJ ops ops.size 0 (rtab .any ops).2) 0 d i) none) = (a :: rs).find? (fun i => pE ops i && anyT (rtab .any ops) l (l.set i true) i) := by
   cases ht : (rtab .any ops).1
   ·symm
    refine qP fun i hi => ?_
    unfold anyT
    rw [ht]; simp
   ·show (a :: rs).find? _ = _
    refine find_congr fun i hi => ?_
    rw [hfree, aB5]
    unfold anyT
    rw [ht, hrd i hi]; simp
  have e2 : (cnd (Nat.beq (Nat.land d (stM ops.size (dN ops))) 0) (cnd (rtab .any ops).1 (cnd (oO (mJ ops ops.size 0 (rtab .any ops).2) d) ((a :: rs).find? fun i => okM (mJ ops ops.size 0 (rtab .any ops).2) 1 d i && lastM (rtab .any ops).2.length B (dN ops) i) none) none) none) =
    (a :: rs).find? (fun i => loadAt ops i && takeW (rtab .any ops) B (dN ops) l (l.set i true) i && (dN ops).all (fun d => !(l.getD d true))) := by
   rw [zB h hl _ hds, aBi ops ops.size h]
   cases hs : (dN ops).all (fun d => !(l.getD d true))
   ·symm
    refine qP fun i hi => ?_
    simp
   ·cases ht : (rtab .any ops).1
    ·symm
     refine qP fun i hi => ?_
     unfold takeW
     rw [ht]; simp
    ·cases hc : closedT (rtab .any ops).2 l
     ·symm
      refine qP fun i hi => ?_
      unfold takeW
      rw [hc]; simp
     ·show (a :: rs).find? _ = _
      refine find_congr fun i hi => ?_
      rw [hfree, aDa]
      have hlast : lastW (rtab .any ops).2 B l (dN ops) i = lastM (rtab .any ops).2.length B (dN ops) i := by
       unfold lastW lastM
       rw [List.all_eq_true] at hs
       have : ∀ q ∈ dN ops, (l.getD q true || (decide (q < (rtab .any ops).2.length) && (B.getD q 0).testBit i)) = (decide (q < (rtab .any ops).2.length) && (B.getD q 0).testBit i) := fun q hq => by
        have := hs q hq
        have h5 : l.getD q true = false := by simpa using this
        rw [h5, Bool.false_or]
       rw [Bool.eq_iff_iff, List.all_eq_true, List.all_eq_true]
       exact ⟨fun hh q hq => by rw [← this q hq]; exact hh q hq, fun hh q hq => by rw [this q hq]; exact hh q hq⟩
      unfold takeW
      rw [ht, hrd i hi, hc, hlast]
      simp [Bool.and_assoc]
  rw [e1, e2]
  rfl
section
variable {P : Program} {H : vF} {call : uA}
theorem orK_eq (d i : Nat) (K : Nat → Bool) : orK d i K = K (Nat.lor d (Nat.pow 2 i)) := by unfold orK; rw [fO]
theorem aBc {nt : Nat} {ops : Array Oper} {T : Bool × List (List Nat × List Nat)} {B ds : List Nat} {h0 : Hp} {base f : Nat} {l : List Bool} {s : St} {K : KS} : jN H P nt call ops T B ds h0 base (f + 1) l s K = match aBt ops T B ds l with
  |.done => K s
  |.pure i => match ops[i]? with
   |some o => guarded H ops o s (fun s => cnd (okD nt o.dst) (sJ H P o.op s.env s.h (fun v h => stK ⟨s.env, h⟩ o.dst v fun s => jN H P nt call ops T B ds h0 base f (l.set i true) s K)) false) (fun s => jS nt o s (fun s => jN H P nt call ops T B ds h0 base f (l.set i true) s K))
   |none => false
  |.load i => match ops[i]? with
   |some o => guarded H ops o s (fun s => cnd (okD nt o.dst) (match o.op with
     |.load t x => yX P h0 o.dst s (fun s => jN H P nt call ops T B ds h0 base f (l.set i true) s K) t x
     |_ => false) false) (fun s => jS nt o s (fun s => jN H P nt call ops T B ds h0 base f (l.set i true) s K))
   |none => false
  |.all rs => allB rs fun i => match ops[i]? with
   |some o => guarded H ops o s (fun s => aCY H P nt call (some (Nat.add base i)) true o s (fun s => wU (jN H P nt call ops T B ds h0 base f (l.set i true) s K))) (fun s => jS nt o s (fun s => wU (jN H P nt call ops T B ds h0 base f (l.set i true) s K)))
   |none => false := by
 unfold aBt
 rw [jN]
 simp only [yV]
 cases hr : readyT T.2 l with
 |nil => rfl
 |cons a rs =>
  simp only
  cases h1 : (a :: rs).find? (fun i => pE ops i && anyT T l (l.set i true) i) with
  |some i => rfl
  |none =>
   simp only
   cases h2 : (a :: rs).find? (fun i => loadAt ops i && takeW T B ds l (l.set i true) i && ds.all (fun d => !(l.getD d true))) with
   |some i => rfl
   |none => rfl
theorem aBo {f g : Nat → Bool} : ∀ {rs : List Nat}, (∀ i ∈ rs, f i = g i) → allB rs f = allB rs g := by
 intro rs
 induction rs with
 |nil => intro _; rfl
 |cons i r ih =>
  intro h
  show both (f i) (allB r f) = both (g i) (allB r g)
  rw [h i (List.mem_cons_self ..), ih (fun j hj => h j (List.mem_cons_of_mem _ hj))]
theorem aDq {nt : Nat} {ops : Array Oper} (B : List Nat) {h0 : Hp} {base : Nat} {K : KS} : ∀ (f : Nat) (l : List Bool) (d : Nat) (s : St), DM l d → l.length = ops.size →
  nU H P nt call ops (rtab .any ops) B (dN ops) (mJ ops ops.size 0 (rtab .any ops).2) (stM ops.size (dN ops)) h0 base f d s K = jN H P nt call ops (rtab .any ops) B (dN ops) h0 base f l s K := by
 intro f
 induction f with
 |zero =>
  intro l d s h hl
  rw [nU, aAS B h hl, jN]
  unfold aBt
  cases hr : readyT (rtab .any ops).2 l with
  |nil => rfl
  |cons a rs =>
   simp only
   split
   ·next e => split at e; cases e; split at e <;> cases e
   ·rfl
 |succ f ih =>
  intro l d s h hl
  have next : ∀ (i : Nat) (s : St), i < l.length → nU H P nt call ops (rtab .any ops) B (dN ops) (mJ ops ops.size 0 (rtab .any ops).2) (stM ops.size (dN ops)) h0 base f (Nat.lor d (Nat.pow 2 i)) s K = jN H P nt call ops (rtab .any ops) B (dN ops) h0 base f (l.set i true) s K :=
   fun i s hi => ih _ _ s (h.set hi) (by rw [List.length_set]; exact hl)
  rw [nU, aAS B h hl, aBc]
  simp only [orK_eq]
  have hin : ∀ i o, ops[i]? = some o → i < l.length := fun i o ho => by rw [hl]; exact (Array.getElem?_eq_some_iff.1 ho).1
  cases aBt ops (rtab .any ops) B (dN ops) l with
  |done => rfl
  |pure i =>
   simp only
   cases ho : ops[i]? with
   |none => rfl
   |some o =>
    have nx := fun s => next i s (hin i o ho)
    simp only [nx]
  |load i =>
   simp only
   cases ho : ops[i]? with
   |none => rfl
   |some o =>
    have nx := fun s => next i s (hin i o ho)
    simp only [nx]
    congr 1
  |all rs =>
   refine aBo fun i _ => ?_
   cases ho : ops[i]? with
   |none => rfl
   |some o =>
    have nx := fun s => next i s (hin i o ho)
    simp only [nx]
end
section
variable [Rho] {P : Program} {H : vF}
variable {call : uA}
theorem aAg (hH : H.Ok) (hc : rR P call) {w0 : World} {nt id : Nat} {ops : Array Oper} {draw : Bool} {s : St} {K : KS} {A : Nat → Prop} {m : M} {a : Act} {w : World} {Q : Exit → Act → World → Prop} (hr : Rel w0 nt A m s a w) (hQ : ∀ c a w, ¬ Q (.panic c) a w)
  (h : z8 H P nt call ops draw s K = true) (hK : ∀ s' A' m' a' w', K s' = true → Rel w0 nt A' m' s' a' w' → Grow none A A' m m' s.h s'.h → Q .normal a' w') : (Code.region id ops draw).wp P Q a w := by
 unfold z8 at h
 cases draw with
 |false => exact wp_region_list (zZ hH hc hr h hK)
 |true =>
  obtain ⟨h1, h2⟩ := btf h
  rw [Bool.and_eq_true] at h1
  obtain ⟨env, ⟨hp, us, nx, pc, ro⟩⟩ := s
  unfold keepK at h2
  simp only at h2
  rw [fO, aDq _ _ (List.replicate ops.size false) 0 _ (DM.zero _) (by simp)] at h2
  have hw : Below w.heap.size w w.drew := below_drew (Below.refl _ _)
  have hr2 : Rel w0 nt A m ⟨env, ⟨hp, us, nx + ops.size, pc, ro⟩⟩ a w.drew := ⟨hr.size, hr.dfr, hr.env, by
   have := hr.h.grow hw
   exact ⟨this.heap, this.us, this.inj, fun g hg => Nat.lt_of_lt_of_le (this.nx g hg) (Nat.le_add_right _ _), this.pc, this.bel⟩⟩
  have hG : Grow none A A m m ⟨hp, us, nx, pc, ro⟩ ⟨hp, us, nx + ops.size, pc, ro⟩ := ⟨fun _ h => h, fun _ h => .inl h, .refl A m, Nat.le_add_right _ _, rfl, fun _ _ _ => rfl, fun _ _ => rfl, fun _ _ _ h => h⟩
  refine wp_region_last (S := Still w0 m ⟨hp, us, nx, pc, ro⟩) (ds := dN ops) h1.1 ?_
  refine zL hH hc h1.2 (h0 := ⟨hp, us, nx, pc, ro⟩) (h0' := ⟨hp, us, nx + ops.size, pc, ro⟩) rfl rfl (A0 := A) (m0 := m) (base := nx) (fun g e z wr cs hg => ⟨(hr.h.heap g e z wr cs hg).1, (hr.h.heap g e z wr cs hg).2.1⟩) (fun i info hi => ⟨(hr.h.us i info hi).1, (hr.h.us i info hi).2.2⟩) (Nat.le_refl _) hQ (by simp) hr2 hG
   (fun j _ _ hA => by have := hr.h.nx _ hA; have h5 : nx + j < nx := this; omega) (Nat.le_refl _) (by rw [Array.toList_replicate]; exact h2) (fun _ => ⟨hr2.h.bel, fun g e z wr cs hg => ?_⟩) (fun s' A' m' a' w' hk hrl hg => ?_)
  ·obtain ⟨_, _, _, _, rest, a5, _⟩ := hr2.h.heap g e z wr cs hg
   exact ⟨rest, a5⟩
  ·refine hK s' A' m' a' w' ?_ hrl hg
   unfold wU at hk
   cases hks : K s'
   ·rw [hks] at hk; cases hk
   ·rfl
end
def Out.exit : Out → Exit
 |.nor => .normal
 |.ret => .ret
 |.ex id => .exit id
section
variable [Rho] {P : Program} {H : vF} {call : uA}
def Does (P : Program) (w0 : World) (nt : Nat) (c : Code) (f : St → (Out → St → Bool) → Bool) : Prop :=
 ∀ (s : St) (K : Out → St → Bool) (A : Nat → Prop) (m : M) (a : Act) (w : World) (Q : Exit → Act → World → Prop), Rel w0 nt A m s a w → (∀ c a w, ¬ Q (.panic c) a w) → f s K = true →
  (∀ o s' A' m' a' w', K o s' = true → Rel w0 nt A' m' s' a' w' → Grow none A A' m m' s.h s'.h → Q o.exit a' w') → c.wp P Q a w
theorem aBG {w0 : World} {nt : Nat} {c : Code} {f : St → (Out → St → Bool) → Bool} (hf : Does P w0 nt c f) : ∀ (n : Nat) (s : St) (K : Out → St → Bool) (A : Nat → Prop) (m : M) (a : Act) (w : World) (Q : Exit → Act → World → Prop), Rel w0 nt A m s a w →
  (∀ c a w, ¬ Q (.panic c) a w) → vJ f n s K = true → (∀ o s' A' m' a' w', K o s' = true → Rel w0 nt A' m' s' a' w' → Grow none A A' m m' s.h s'.h → Q o.exit a' w') → Code.rounds P c Q n a w := by
 intro n
 induction n with
 |zero => intro s K A m a w Q _ _ h _; cases h
 |succ n ih =>
  intro s K A m a w Q hr hQ h hK
  unfold vJ at h
  refine hf s _ A m a w _ hr (fun c a w => hQ c a w) h fun o s' A' m' a' w' ho hr' hg => ?_
  cases o with
  |nor => exact ih s' K A' m' a' w' Q hr' hQ ho fun o s2 A2 m2 a2 w2 k1 k2 k3 => hK o s2 A2 m2 a2 w2 k1 k2 (hg.trans k3)
  |ret => exact hK .ret _ _ _ _ _ ho hr' hg
  |ex id => exact hK (.ex id) _ _ _ _ _ ho hr' hg
theorem evC_v (hH : H.Ok) (hc : rR P call) {w0 : World} {nt n : Nat} : ∀ (c : Code), Does P w0 nt c (evC H P nt call n c) := by
 intro c
 induction c with
 |skip => intro s K A m a w Q hr _ h hK; exact wp_skip (hK .nor _ _ _ _ _ h hr (.refl _ _ _ _))
 |region id ops draw => intro s K A m a w Q hr hQ h hK; exact aAg hH hc hr hQ h (fun s' A' m' a' w' h' hr' hg => hK .nor _ _ _ _ _ h' hr' hg)
 |seq x y ihx ihy =>
  intro s K A m a w Q hr hQ h hK
  refine wp_seq (ihx s _ A m a w _ hr (fun c a w => hQ c a w) h fun o s' A' m' a' w' ho hr' hg => ?_)
  cases o with
  |nor => exact ihy s' K A' m' a' w' Q hr' hQ ho fun o s2 A2 m2 a2 w2 k1 k2 k3 => hK o s2 A2 m2 a2 w2 k1 k2 (hg.trans k3)
  |ret => exact hK .ret _ _ _ _ _ ho hr' hg
  |ex id => exact hK (.ex id) _ _ _ _ _ ho hr' hg
 |cond x y z ihy ihz =>
  intro s K A m a w Q hr hQ h hK
  unfold evC at h
  split at h
  ·next e he =>
   obtain ⟨_, eb⟩ := jB hr.env he
   have eb' : a.eval x = .bool e.d := eb
   obtain ⟨h', e1, e2⟩ := qE hH hr.h.pc h
   have hr2 : Rel w0 nt A m ⟨s.env, h'⟩ a w := ⟨hr.size, hr.dfr, hr.env, hr.h.ext e1⟩
   have hg : Grow none A A m m s.h h' := .rA _ _ _ e1
   have hK2 : ∀ o s' A' m' a' w', K o s' = true → Rel w0 nt A' m' s' a' w' → Grow none A A' m m' h' s'.h → Q o.exit a' w' := fun o s2 A2 m2 a2 w2 k1 k2 k3 => hK o s2 A2 m2 a2 w2 k1 k2 (hg.trans k3)
   refine wp_cond_split eb' (fun hd => ?_) (fun hd => ?_)
   ·rcases e2 with ⟨_, k⟩ | ⟨hd2, _⟩
    ·exact ihy _ K A m a w Q hr2 hQ k hK2
    ·rw [hd] at hd2; cases hd2
   ·rcases e2 with ⟨hd2, _⟩ | ⟨_, k⟩
    ·rw [hd] at hd2; cases hd2
    ·exact ihz _ K A m a w Q hr2 hQ k hK2
  ·cases h
 |block id x ih =>
  intro s K A m a w Q hr hQ h hK
  refine wp_block (ih s _ A m a w _ hr (fun c a w => hQ c a w) h fun o s' A' m' a' w' ho hr' hg => ?_)
  cases o with
  |nor => exact hK .nor _ _ _ _ _ ho hr' hg
  |ret => exact hK .ret _ _ _ _ _ ho hr' hg
  |ex j =>
   show if j = id then Q .normal a' w' else Q (.exit j) a' w'
   have ho : cnd (Nat.beq j id) (K .nor s') (K (.ex j) s') = true := ho
   rcases bt ho with ⟨h0, h1⟩ | ⟨h0, h1⟩
   ·rw [if_pos (Nat.eq_of_beq_eq_true h0)]; exact hK .nor _ _ _ _ _ h1 hr' hg
   ·rw [if_neg (Nat.ne_of_beq_eq_false h0)]; exact hK (.ex j) _ _ _ _ _ h1 hr' hg
 |loop x ih =>
  intro s K A m a w Q hr hQ h hK
  exact wp_loop_rounds n (aBG ih n s K A m a w Q hr hQ h hK)
 |exit id => intro s K A m a w Q hr _ h hK; exact wp_exit (hK (.ex id) _ _ _ _ _ h hr (.refl _ _ _ _))
 |ret => intro s K A m a w Q hr _ h hK; exact wp_ret (hK .ret _ _ _ _ _ h hr (.refl _ _ _ _))
 |_ => intro s K A m a w Q hr _ h hK; cases h
omit [Rho] in
def oL (tmps : Array Value) : ResultVar → Sem Value
 |.tmp t => pure (tmps.getD t undef)
 |.cell b t => do loadVar t (← asAddr (tmps.getD b undef))
omit [Rho] in
theorem rD (fn : Func) (tmps : Array Value) : results fn tmps = (do
  let vs ← fn.results.mapM (oL tmps)
  pure (if h : vs.size = 1 then vs[0] else .tuple vs)) := by
 unfold results
 have : (fun x => match x with
   |ResultVar.tmp t => pure (tmps.getD t undef)
   |ResultVar.cell a t => do loadVar t (← asAddr (tmps.getD a undef))) = oL tmps := by funext x; cases x <;> rfl
 exact congrArg (fun f => (do
  let vs ← fn.results.mapM f
  pure (if h : vs.size = 1 then vs[0] else .tuple vs) : Sem Value)) this
section
variable {w0 : World} {nt : Nat} {A : Nat → Prop} {m : M} {s : St} {a : Act} {w : World}
theorem zR (hr : Rel w0 nt A m s a w) {x : ResultVar} {v : PV} (h : aDo P s x = some v) :
  v.ok A ∧ (oL a.tmps x).run P w = .ok (v.v m) w := by
 cases x with
 |tmp t =>
  have h : (match look s.env t with
   |some (.pv v) => some v
   |_ => none) = some v := h
  split at h
  ·next u hu =>
   cases h
   obtain ⟨o, e⟩ := hr.env t _ hu
   exact ⟨o, by show (pure (a.tmps.getD t undef) : Sem Value).run P w = _; rw [Sem.run_pure, e]; rfl⟩
  ·cases h
 |cell b t =>
  have h : (match look s.env b with
   |some (.pv (.one c)) => sF P t s.h c
   |_ => none) = some v := h
  split at h
  ·next c hc =>
   obtain ⟨o, e⟩ := hr.env b _ hc
   obtain ⟨o1, e1⟩ := pI (w := w) o hr.h.loads (fun i info hi => (hr.h.us i info hi).2.2) hr.h.bel h
   refine ⟨o1, ?_⟩
   have e' : a.tmps.getD b undef = c.v m := e
   have hp : ∃ ad, c.v m = .pointer (some ad) := by
    cases hcv : c.v m with
    |pointer ad =>
     cases ad with
     |some ad => exact ⟨ad, rfl⟩
     |none => rw [hcv] at e1; simp [Instr.loadAt, Instr.sureAddr] at e1
    |_ => rw [hcv] at e1; simp [Instr.loadAt, Instr.sureAddr] at e1
   obtain ⟨ad, had⟩ := hp
   rw [had] at e1 e'
   have e1 : (loadVar t ad).run P w = .ok (v.v m) w := e1
   show (do loadVar t (← asAddr (a.tmps.getD b undef)) : Sem Value).run P w = _
   rw [e']
   exact e1
  ·cases h
theorem wM (hr : Rel w0 nt A m s a w) {xs : List ResultVar} : ∀ {vs : List PV}, oK P s xs = some vs → (∀ v ∈ vs, v.ok A) ∧ (xs.mapM (oL a.tmps)).run P w = .ok (vs.map (PV.v m)) w := by
 induction xs with
 |nil => intro vs h; cases h; exact ⟨(fun v hv => nomatch hv), by simp⟩
 |cons x r ih =>
  intro vs h
  unfold oK at h
  split at h
  ·next v ws h1 h2 =>
   cases h
   obtain ⟨o, e⟩ := zR hr h1
   obtain ⟨o', e'⟩ := ih h2
   refine ⟨fun u hu => ?_, ?_⟩
   ·rcases List.mem_cons.1 hu with rfl | hu
    ·exact o
    ·exact o' u hu
   ·rw [List.mapM_cons, Sem.run_bind, e]
    simp only [Result.andThen_ok, Sem.run_bind, e', Sem.run_pure, List.map_cons]
  ·cases h
theorem aAd (hr : Rel w0 nt A m s a w) {fn : Func} {v : SV} (h : tO P fn s = some v) : v.ok A ∧ (results fn a.tmps).run P w = .ok (v.v m) w := by
 unfold tO at h
 have hrun : ∀ vs, oK P s fn.results.toList = some vs → (∀ v ∈ vs, v.ok A) ∧ (results fn a.tmps).run P w = .ok (if h : (vs.map (PV.v m)).toArray.size = 1 then (vs.map (PV.v m)).toArray[0] else .tuple (vs.map (PV.v m)).toArray) w := by
  intro vs hvs
  obtain ⟨o, e⟩ := wM hr hvs
  refine ⟨o, ?_⟩
  have e2 : (fn.results.mapM (oL a.tmps)).run P w = .ok (vs.map (PV.v m)).toArray w := by
   rw [Array.mapM_eq_mapM_toList]
   simp [e]
  rw [rD, Sem.run_bind, e2]
  rfl
 split at h
 ·next u hu =>
  cases h
  obtain ⟨o, e⟩ := hrun _ hu
  exact ⟨o u (List.mem_cons_self ..), by rw [e]; rfl⟩
 ·next vs hne hu =>
  cases h
  obtain ⟨o, e⟩ := hrun _ hu
  refine ⟨o, ?_⟩
  rw [e, dif_neg]
  ·rfl
  ·intro hl
   match vs, hl, hne with
   |[u], _, hne => exact hne u rfl
 ·cases h
end
omit [Rho] in
theorem argE_v {K : Env → Bool} : ∀ {vs : List PV} {i : Nat} {en : Env}, argE vs i en K = true → ∃ en', K en' = true ∧ ∀ t v, look en' t = some v → (∃ u, i ≤ t ∧ vs[t - i]? = some u ∧ v = .pv u) ∨ look en t = some v := by
 intro vs
 induction vs with
 |nil => intro i en h; exact ⟨en, h, fun t v hv => .inr hv⟩
 |cons u r ih =>
  intro i en h
  unfold argE at h
  obtain ⟨e1, k1, k2⟩ := xH h
  obtain ⟨e2, k3, k4⟩ := ih k1
  refine ⟨e2, k3, fun t v hv => ?_⟩
  rcases k4 t v hv with ⟨x, h1, h2, h3⟩ | h1
  ·refine .inl ⟨x, by omega, ?_, h3⟩
   rw [show t - i = (t - (i + 1)) + 1 by omega, List.getElem?_cons_succ]; exact h2
  ·rw [k2] at h1
   by_cases c : t = i
   ·rw [if_pos c] at h1
    cases h1
    exact .inl ⟨u, by omega, by rw [c]; simp, rfl⟩
   ·rw [if_neg c] at h1; exact .inr h1
def mK (P : Program) (f : Nat) (c : Fc) : Prop := ∀ (vs : List PV) (h : Hp) (K : KV) (A : Nat → Prop) (m : M) (w w0 : World), kD w0 A m h w → (∀ v ∈ vs, v.ok A) → c vs h K = true →
 (∃ fn, P.funcs[f]? = some fn ∧ fn.body.isSome = true ∧ (fn.name == "runtime.NumGoroutine") = false) ∧
  Calls P f (vs.map (PV.v m)).toArray w fun e w' => ∃ v A' m' h', K v h' = true ∧ e = .returned (v.v m') ∧ v.ok A' ∧ kD w0 A' m' h' w' ∧ Grow none A A' m m' h h'
def iU (P : Program) (en : Ents) : Prop := ∀ f c, find en f = some c → mK P f c
theorem iU.nil : iU P [] := fun _ _ h => nomatch h
theorem iU.cons {f : Nat} {c : Fc} {en : Ents} (h : mK P f c) (k : iU P en) : iU P ((f, c) :: en) := fun f' c' hf => by
 have hf : cnd (Nat.beq f f') (some c) (find en f') = some c' := hf
 rw [bto] at hf
 split at hf
 ·next hb => cases hf; rw [← Nat.eq_of_beq_eq_true hb]; exact h
 ·exact k f' c' hf
omit [Rho] in
def fH (P : Program) (fs : Fns) : Prop := ∀ f fn, find fs f = some fn → P.funcs[f]? = some fn ∧ (fn.name == "runtime.NumGoroutine") = false
omit [Rho] in
theorem fH.nil : fH P [] := fun _ _ h => nomatch h
omit [Rho] in
theorem fH.cons {f : Nat} {fn : Func} {fs : Fns} (h : P.funcs[f]? = some fn) (h2 : (fn.name == "runtime.NumGoroutine") = false) (k : fH P fs) : fH P ((f, fn) :: fs) := fun f' fn' hf => by
 have hf : cnd (Nat.beq f f') (some fn) (find fs f') = some fn' := hf
 rw [bto] at hf
 split at hf
 ·next hb => cases hf; rw [← Nat.eq_of_beq_eq_true hb]; exact ⟨h, h2⟩
 ·exact k f' fn' hf
theorem evFn_v (hH : H.Ok) {en : Ents} {fs : Fns} (hen : iU P en) (hfs : fH P fs) (n : Nat) : ∀ d, rR P (evFn H P en fs n d) := by
 intro d
 induction d with
 |zero => intro f vs h K A m w w0 _ _ hk; cases hk
 |succ d ih =>
  intro f vs h K A m w w0 hr hv hk
  unfold evFn at hk
  split at hk
  ·next c hf => exact hen f c hf vs h K A m w w0 hr hv hk
  ·split at hk
   ·next fn hf =>
    obtain ⟨f1, f2⟩ := hfs f fn hf
    split at hk
    ·next c hb =>
     obtain ⟨h0, hk⟩ := btf hk
     rw [Bool.and_eq_true] at h0
     have h2 := Nat.eq_of_beq_eq_true h0.1
     have h3 := Nat.le_of_ble_eq_true h0.2
     refine ⟨⟨fn, f1, by rw [hb]; rfl, f2⟩, ?_⟩
     obtain ⟨e0, hk, he0⟩ := argE_v hk
     have hrel : Rel w0 fn.ntmps A m ⟨e0, h⟩ { tmps := (vs.map (PV.v m)).toArray ++ Array.replicate (fn.ntmps - (vs.map (PV.v m)).toArray.size) undef, defers := [] } w := by
      refine ⟨by simp; omega, rfl, ?_, hr⟩
      intro t v hv'
      rcases he0 t v hv' with ⟨u, _, hu, rfl⟩ | h5
      ·rw [Nat.sub_zero] at hu
       refine ⟨hv u (List.mem_of_getElem? hu), ?_⟩
       have hlt : t < vs.length := (List.getElem?_eq_some_iff.1 hu).1
       rw [Array.getD_eq_getD_getElem?, Array.getElem?_append_left (by simpa using hlt)]
       simp [hu]
       rfl
      ·cases h5
     refine calls_of_wp f1 hb ?_
     refine wp_mono (Q := fun e a' w' => (∃ v A' m' h', K v h' = true ∧ v.ok A' ∧ a'.defers = [] ∧ (results fn a'.tmps).run P w' = .ok (v.v m') w' ∧ kD w0 A' m' h' w' ∧ Grow none A A' m m' h h') ∧ (e = .normal ∨ e = .ret)) (evC_v hH ih c _ _ A m _ w _ hrel ?_ hk ?_) ?_
     ·rintro c a w ⟨_, h | h⟩ <;> cases h
     ·intro o s' A' m' a' w' hk' hr' hg
      have fin : (match tO P fn s' with
        |some v => K v s'.h
        |none => false) = true → ∃ v A' m' h', K v h' = true ∧ v.ok A' ∧ a'.defers = [] ∧ (results fn a'.tmps).run P w' = .ok (v.v m') w' ∧ kD w0 A' m' h' w' ∧ Grow none A A' m m' h h' := by
       intro hk'
       split at hk'
       ·next v hv' =>
        obtain ⟨o1, e1⟩ := aAd hr' hv'
        exact ⟨v, A', m', s'.h, hk', o1, hr'.dfr, e1, hr'.h, hg⟩
       ·cases hk'
      cases o with
      |nor => exact ⟨fin hk', .inl rfl⟩
      |ret => exact ⟨fin hk', .inr rfl⟩
      |ex id => cases hk'
     ·rintro e a' w' ⟨⟨v, A', m', h', g1, g2, g3, g4, g5, g6⟩, he⟩
      rcases he with rfl | rfl
      ·exact ⟨g3, _, g4, v, A', m', h', g1, rfl, g2, g5, g6⟩
      ·exact ⟨g3, _, g4, v, A', m', h', g1, rfl, g2, g5, g6⟩
    ·cases hk
   ·cases hk
end
def op1 (H : vF) (id : Nat) (k1 kr : IntKind) : Fc := fun args h K => match args with
 |[.one (.i k t)] => cnd (Nat.beq (jA k1) (jA k)) (sK H (.f id t) fun t => K (pvi kr t) h) false
 |_ => false
def op2 (H : vF) (id : Nat) (k1 k2 kr : IntKind) : Fc := fun args h K => match args with
 |[.one (.i k t), .one (.i k' u)] => cnd (Nat.beq (jA k1) (jA k) && Nat.beq (jA k2) (jA k')) (sK H (.f id (.c t u)) fun t => K (pvi kr t) h) false
 |_ => false
def op3 (H : vF) (id : Nat) (k1 k2 k3 kr : IntKind) : Fc := fun args h K => match args with
 |[.one (.i k t), .one (.i k' u), .one (.i k'' v)] => cnd (Nat.beq (jA k1) (jA k) && Nat.beq (jA k2) (jA k') && Nat.beq (jA k3) (jA k'')) (sK H (.f id (.c t (.c u v))) fun t => K (pvi kr t) h) false
 |_ => false
def kb (t : Tm) (h : Hp) (K : KV) : Bool := match t with
 |.l n => K (pvb (.lit (!(aAH n 0)))) h
 |t => K (pvb (.q t)) h
def ob2 (H : vF) (id : Nat) (k1 k2 : IntKind) : Fc := fun args h K => match args with
 |[.one (.i k t), .one (.i k' u)] => cnd (Nat.beq (jA k1) (jA k) && Nat.beq (jA k2) (jA k')) (sK H (.f id (.c t u)) fun t => kb t h K) false
 |_ => false
def yes0 : Fc := fun args h K => match args with
 |[] => K (pvb .tt) h
 |_ => false
section
variable [Rho] {P : Program} {H : vF}
theorem aB0 (hH : H.Ok) {f : Nat} {fn : Func} (hf : P.funcs[f]? = some fn) (hb : fn.body.isSome = true) (hn : (fn.name == "runtime.NumGoroutine") = false) {h : Hp} {K : KV} {A : Nat → Prop} {m : M} {w w0 : World} {vs : List PV} {kr : IntKind} {id : Nat} {x : Tm}
  (hr : kD w0 A m h w) (hk : sK H (.f id x) (fun t => K (pvi kr t) h) = true) (hx : kr.has (Tm.f id x).d) (hc : Calls P f (vs.map (PV.v m)).toArray w fun e w' => e = .returned (.int kr (Tm.f id x).d) ∧ Below w.heap.size w w') :
  (∃ fn, P.funcs[f]? = some fn ∧ fn.body.isSome = true ∧ (fn.name == "runtime.NumGoroutine") = false) ∧
  Calls P f (vs.map (PV.v m)).toArray w fun e w' => ∃ v A' m' h', K v h' = true ∧ e = .returned (v.v m') ∧ v.ok A' ∧ kD w0 A' m' h' w' ∧ Grow none A A' m m' h h' := by
 refine ⟨⟨fn, hf, hb, hn⟩, hc.mono ?_⟩
 rintro e w' ⟨rfl, hbw⟩
 obtain ⟨t', e1, e2⟩ := wI hH hk
 exact ⟨_, A, m, h, e2, by show _ = Ending.returned (Value.int kr t'.d); rw [e1], by show kr.has t'.d; rw [e1]; exact hx, hr.grow hbw, .refl _ _ _ _⟩
theorem bool_ok (hH : H.Ok) {f : Nat} {fn : Func} (hf : P.funcs[f]? = some fn) (hb : fn.body.isSome = true) (hn : (fn.name == "runtime.NumGoroutine") = false) {h : Hp} {K : KV} {A : Nat → Prop} {m : M} {w w0 : World} {vs : List PV} {id : Nat} {x : Tm}
  (hr : kD w0 A m h w) (hk : sK H (.f id x) (fun t => kb t h K) = true) (hc : Calls P f (vs.map (PV.v m)).toArray w fun e w' => e = .returned (.bool (!((Tm.f id x).d == 0))) ∧ Below w.heap.size w w') :
  (∃ fn, P.funcs[f]? = some fn ∧ fn.body.isSome = true ∧ (fn.name == "runtime.NumGoroutine") = false) ∧
  Calls P f (vs.map (PV.v m)).toArray w fun e w' => ∃ v A' m' h', K v h' = true ∧ e = .returned (v.v m') ∧ v.ok A' ∧ kD w0 A' m' h' w' ∧ Grow none A A' m m' h h' := by
 refine ⟨⟨fn, hf, hb, hn⟩, hc.mono ?_⟩
 rintro e w' ⟨rfl, hbw⟩
 obtain ⟨t', e1, e2⟩ := wI hH hk
 unfold kb at e2
 split at e2
 ·next n =>
  refine ⟨_, A, m, h, e2, ?_, trivial, hr.grow hbw, .refl _ _ _ _⟩
  show _ = Ending.returned (Value.bool (BE.lit (!(aAH n 0))).d)
  rw [BE.tZ, aAL, ← e1]; rfl
 ·exact ⟨_, A, m, h, e2, by show _ = Ending.returned (Value.bool (!(t'.d == 0))); rw [e1], trivial, hr.grow hbw, .refl _ _ _ _⟩
section
variable (hH : H.Ok) {f : Nat} {fn : Func} (hf : P.funcs[f]? = some fn) (hb : fn.body.isSome = true) (hn : (fn.name == "runtime.NumGoroutine") = false)
 include hH hf hb hn
theorem op1_ok {id : Nat} {k1 kr : IntKind} {F : Int → Int} (hF : ∀ a : U, (Rho.f id a).int = F a.int) (hr : ∀ x, k1.has x → kr.has (F x)) (hc : ∀ x, k1.has x → ∀ w, Calls P f #[.int k1 x] w fun e w' => e = .returned (.int kr (F x)) ∧ Below w.heap.size w w') : mK P f (op1 H id k1 kr) := by
 intro vs h K A m w w0 hrel hv hk
 unfold op1 at hk
 split at hk
 ·next k t =>
  have h9 := btf hk
  clear hk
  obtain ⟨h1, hk⟩ := h9
  obtain rfl := jG h1
  have ht : k1.has t.d := hv _ (List.mem_cons_self ..)
  have e : (Tm.f id t).d = F t.d := hF _
  exact aB0 hH hf hb hn hrel hk (by rw [e]; exact hr _ ht) (by rw [e]; exact hc _ ht w)
 ·cases hk
theorem yB {id : Nat} {k1 k2 kr : IntKind} {F : Int → Int → Int} (hF : ∀ a b : U, (Rho.f id (.p a b)).int = F a.int b.int) (hr : ∀ x y, k1.has x → k2.has y → kr.has (F x y)) (hc : ∀ x y, k1.has x → k2.has y → ∀ w, Calls P f #[.int k1 x, .int k2 y] w fun e w' => e = .returned (.int kr (F x y)) ∧ Below w.heap.size w w') : mK P f (op2 H id k1 k2 kr) := by
 intro vs h K A m w w0 hrel hv hk
 unfold op2 at hk
 split at hk
 ·next k t k' u =>
  have h9 := btf hk
  clear hk
  obtain ⟨h1, hk⟩ := h9
  rw [Bool.and_eq_true] at h1
  have h2 := jG h1.1
  have h3 := jG h1.2
  subst h2
  subst h3
  have ht : k1.has t.d := hv _ (List.mem_cons_self ..)
  have hu : k2.has u.d := hv (.one (.i k2 u)) (by simp)
  have e : (Tm.f id (.c t u)).d = F t.d u.d := hF _ _
  exact aB0 hH hf hb hn hrel hk (by rw [e]; exact hr _ _ ht hu) (by rw [e]; exact hc _ _ ht hu w)
 ·cases hk
theorem op3_ok {id : Nat} {k1 k2 k3 kr : IntKind} {F : Int → Int → Int → Int} (hF : ∀ a b c : U, (Rho.f id (.p a (.p b c))).int = F a.int b.int c.int) (hr : ∀ x y z, k1.has x → k2.has y → k3.has z → kr.has (F x y z)) (hc : ∀ x y z, k1.has x → k2.has y → k3.has z → ∀ w, Calls P f #[.int k1 x, .int k2 y, .int k3 z] w fun e w' => e = .returned (.int kr (F x y z)) ∧ Below w.heap.size w w') : mK P f (op3 H id k1 k2 k3 kr) := by
 intro vs h K A m w w0 hrel hv hk
 unfold op3 at hk
 split at hk
 ·next k t k' u k'' v =>
  have h9 := btf hk
  clear hk
  obtain ⟨h1, hk⟩ := h9
  simp only [Bool.and_eq_true] at h1
  have h2 := jG h1.1.1
  have h3 := jG h1.1.2
  have h4 := jG h1.2
  subst h2
  subst h3
  subst h4
  have ht : k1.has t.d := hv _ (List.mem_cons_self ..)
  have hu : k2.has u.d := hv (.one (.i k2 u)) (by simp)
  have hz : k3.has v.d := hv (.one (.i k3 v)) (by simp)
  have e : (Tm.f id (.c t (.c u v))).d = F t.d u.d v.d := hF _ _ _
  exact aB0 hH hf hb hn hrel hk (by rw [e]; exact hr _ _ _ ht hu hz) (by rw [e]; exact hc _ _ _ ht hu hz w)
 ·cases hk
theorem ob2_ok {id : Nat} {k1 k2 : IntKind} {F : Int → Int → Bool} (hF : ∀ a b : U, (Rho.f id (.p a b)).int = if F a.int b.int = true then 1 else 0) (hc : ∀ x y, k1.has x → k2.has y → ∀ w, Calls P f #[.int k1 x, .int k2 y] w fun e w' => e = .returned (.bool (F x y)) ∧ Below w.heap.size w w') : mK P f (ob2 H id k1 k2) := by
 intro vs h K A m w w0 hrel hv hk
 unfold ob2 at hk
 split at hk
 ·next k t k' u =>
  have h9 := btf hk
  clear hk
  obtain ⟨h1, hk⟩ := h9
  rw [Bool.and_eq_true] at h1
  have h2 := jG h1.1
  have h3 := jG h1.2
  subst h2
  subst h3
  have ht : k1.has t.d := hv _ (List.mem_cons_self ..)
  have hu : k2.has u.d := hv (.one (.i k2 u)) (by simp)
  have e : (!((Tm.f id (.c t u)).d == 0)) = F t.d u.d := by
   have : (Tm.f id (.c t u)).d = if F t.d u.d = true then 1 else 0 := hF _ _
   rw [this]; cases F t.d u.d <;> rfl
  exact bool_ok hH hf hb hn hrel hk (by rw [e]; exact hc _ _ ht hu w)
 ·cases hk
omit hH in
theorem yes0_ok (hc : ∀ w, Calls P f #[] w fun e w' => e = .returned (.bool true) ∧ Below w.heap.size w w') : mK P f yes0 := by
 intro vs h K A m w w0 hrel hv hk
 unfold yes0 at hk
 split at hk
 ·refine ⟨⟨fn, hf, hb, hn⟩, (hc w).mono ?_⟩
  rintro e w' ⟨rfl, hbw⟩
  exact ⟨_, A, m, h, hk, rfl, trivial, hrel.grow hbw, .refl _ _ _ _⟩
 ·cases hk
end
def Kt (H : vF) : KV := fun v h => match v with
 |.pv (.one (.b e)) => brk H e h (fun _ => true) (fun _ => false)
 |_ => false
omit [Rho] in
def m00 : M := ⟨fun _ => 0, fun _ => 0, fun _ => ⟨.nilFunc, rfl⟩⟩
theorem law_v (hH : H.Ok) {en : Ents} {fs : Fns} (hen : iU P en) (hfs : fH P fs) {n d f : Nat} {vs : List PV} {h : Hp} {A : Nat → Prop} {m : M} {W : World} (hr : kD W A m h W) (hv : ∀ v ∈ vs, v.ok A)
  (hk : evFn H P en fs n d f vs h (Kt H) = true) : Calls P f (vs.map (PV.v m)).toArray W fun e w' => e = .returned (.bool true) ∧ Below W.heap.size W w' := by
 refine ((evFn_v hH hen hfs n d f vs h (Kt H) A m W W hr hv hk).2).mono ?_
 rintro e w' ⟨v, A', m', h', h1, rfl, h3, h4, h5⟩
 refine ⟨?_, h4.bel⟩
 unfold Kt at h1
 split at h1
 ·next b =>
  obtain ⟨h2, e1, e2⟩ := qE hH h4.pc h1
  rcases e2 with ⟨hd, _⟩ | ⟨_, q⟩
  ·show Ending.returned (Value.bool b.d) = _; rw [hd]
  ·cases q
 ·cases h1
end
def addK (h : Hp) (e z : Nat) (cs : List C) (K : Nat → Hp → Bool) : Bool := match h with
 |⟨hp, us, nx, pc, ro⟩ => iG (Nat.succ nx) fun nx' => aAN hp nx (e, z, false, cs) fun hp => K nx ⟨hp, us, nx', pc, ro⟩
theorem addK_v {h : Hp} {e z : Nat} {cs : List C} {K : Nat → Hp → Bool} (hk : addK h e z cs K = true) : ∃ h', K h.next h' = true ∧ (∀ j, look h'.heap j = if j = h.next then some (e, z, false, cs) else look h.heap j) ∧
  h'.us = h.us ∧ h'.ro = h.ro ∧ h'.pc = h.pc ∧ h'.next = h.next + 1 := by
 obtain ⟨hp, us, nx, pc, ro⟩ := h
 have hk : iG (Nat.succ nx) (fun nx' => aAN hp nx (e, z, false, cs) fun hp => K nx ⟨hp, us, nx', pc, ro⟩) = true := hk
 rw [fO] at hk
 obtain ⟨hp', k1, k2⟩ := xH hk
 exact ⟨⟨hp', us, nx + 1, pc, ro⟩, k1, k2, rfl, rfl, rfl, rfl⟩
section
variable [Rho] {w0 : World} {A : Nat → Prop} {m : M} {h : Hp} {w : World}
theorem zP (r : kD w0 A m h w) {e z base n : Nat} {cs : List C} {v : Value} {K : Nat → Hp → Bool} (ho : oks A cs) (hv : w.ownsRow base e z v n (vals m cs)) (hn : 0 < n) (hfr : ∀ j x, look h.heap j = some x → x.2.2.1 = true → m.b j < base) (hk : addK h e z cs K = true) :
  ∃ (A' : Nat → Prop) (m' : M) (h' : Hp) (g : Nat), K g h' = true ∧ kD w0 A' m' h' w ∧ Grow none A A' m m' h h' ∧ A' g ∧ v = (C.sl g 0 z n).v m' ∧ (∀ j x, look h'.heap j = some x → x.2.2.1 = true → m'.b j < base) := by
 obtain ⟨h', k1, k2, k3, k4, k5, k6⟩ := addK_v hk
 obtain ⟨q1, q2⟩ := hv
 rcases q2 with ⟨_, q2⟩ | ⟨B, cap, cur, q3, q4, q5, q6, q7, q8, q9⟩
 ·omega
 ·have hng : ¬ A h.next := fun ha => Nat.lt_irrefl _ (r.nx _ ha)
  have e1 : vals m cs ++ cur.toList.drop (n * z) = cur.toList := by rw [← q9, List.take_append_drop]
  obtain ⟨r1, r2⟩ := r.add (w' := w) (g := h.next) (B := B) (cap := cap) (e := e) (z := z) (wr := false) (cs := cs) (rest := cur.toList.drop (n * z)) hng ho k2 k3 k4 k5 (by omega) (by omega) q7 (fun hf => by cases hf) (by rw [e1]; exact q5)
   (by
    have h1 : cs.length = n * z := by rw [← q1, dK]
    have := Nat.mul_le_mul_right z q6
    show cs.length + (cur.toList.drop (n * z)).length = cap * z
    have e2 : cur.toList.length = cap * z := by rw [← q8]; simp
    rw [List.length_drop, e2]
    omega)
   (fun j x hj => ⟨rfl, fun hw => by
    rcases hw with hw | hw
    ·cases hw
    ·exact Nat.ne_of_lt (Nat.lt_of_lt_of_le (hfr j x hj hw) q4)⟩) r.bel
  exact ⟨_, _, h', h.next, k1, r1, ⟨fun j hj => .inl hj, fun j hj => by
   rcases hj with hj | rfl
   ·exact .inl hj
   ·exact .inr (.inl (Nat.le_refl _)), r2, by omega, k4, fun j _ h2 => by rw [k2, if_neg (fun (hj : j = h.next) => hng (hj ▸ h2))], fun i _ => by rw [k3], fun i k t hi => by rw [k3] at hi; exact hi⟩, .inr rfl, by
   rw [q3]
   show _ = Value.slice (some ⟨(if h.next = h.next then B else m.b h.next), 0 * z, none⟩) n ((if h.next = h.next then cap else m.cap h.next) - 0)
   simp, fun j x hj hx => by
   rw [k2] at hj
   split at hj
   ·cases hj
    cases hx
   ·next hj' =>
    show (if j = h.next then B else m.b j) < base
    rw [if_neg hj']
    exact hfr j x hj hx⟩
end
def yH (k : IntKind) (w : World) (a : Option Addr) (len cap : Nat) (zs : List Int) : Prop :=
 (a = none ∧ len = 0 ∧ cap = 0 ∧ zs = []) ∨
 ∃ x, a = some x ∧ len ≤ cap ∧ cap ≤ maxLen ∧ zs.length = cap ∧ (∀ i, i < zs.length → w.cell? (x.add i) = some (.int k (zs.getD i 0))) ∧ ∀ n ∈ zs, (Lit.int k n).wf = true
theorem aA1 {k : IntKind} {W : World} {a : Option Addr} {len cap : Nat} {z : List Int} (h : yH k W a len cap z) : (z.take len).length = len ∧ len ≤ cap ∧ len ≤ aBv ∧ (0 < len → a.isSome = true) ∧ Kd.C (Kd.int k) W a len (z.take len) ∧ (∀ x ∈ z.take len, k.has x) ∧
  (∀ ad, a = some ad → 0 < len → ad.block < W.heap.size) := by
 rcases h with ⟨rfl, rfl, rfl, rfl⟩ | ⟨x, rfl, h1, h2, h3, h4, h5⟩
 ·exact ⟨rfl, Nat.le_refl _, by decide, fun h => (by omega), ⟨rfl, by decide, fun h => (by omega)⟩, fun x hx => (by cases hx), fun ad h => (by cases h)⟩
 ·have hl : (z.take len).length = len := by rw [List.length_take]; omega
  have hm : len ≤ aBv := by unfold aBv; unfold maxLen at h2; omega
  refine ⟨hl, h1, hm, fun _ => rfl, ⟨hl, hm, fun _ => ⟨x, rfl, fun j p hj => ⟨[.int k p], rfl, rfl, fun i u hu => ?_⟩⟩⟩, fun y hy => aAq.1 (h5 y (List.mem_of_mem_take hy)), fun ad ha h0 => ?_⟩
  ·have hi : i = 0 := by
    cases i with
    |zero => rfl
    |succ i => cases hu
   subst hi
   cases hu
   have hk : (Kd.int k).sz = 1 := rfl
   have e9 : j * (Kd.int k).sz + 0 = j := by rw [hk, Nat.mul_one]; rfl
   rw [e9]
   have hjl : j < len := by
    have := (List.getElem?_eq_some_iff.1 hj).1
    omega
   rw [List.getElem?_take, if_pos hjl] at hj
   rw [h4 j (by omega), List.getD_eq_getElem?_getD, hj]
   rfl
  ·cases ha
   have := h4 0 (by omega)
   have h9 := World.block_lt_of_cell? W _ this
   unfold Addr.add at h9
   simpa using h9
section
variable [Rho]
theorem start_pc (W : World) (pc : Facts) (h : nQ pc) : kD W (fun _ => False) m00 ⟨.e, .e, 1, pc, 0⟩ W := by
 refine ⟨?_, ?_, ?_, ?_, h, Below.refl _ _⟩
 ·intro g e z wr cs h; cases h
 ·intro i info h; cases h
 ·intro g g' e z cs x h; cases h
 ·intro g h; exact False.elim h
theorem ro_ok {k : IntKind} {W : World} {a : Option Addr} {len cap : Nat} {z : List Int} (h : yH k W a len cap z) {i : Nat} (hv : Rho.v i = .s (z.take len)) {m : M} {g : Nat} (hm : (m.u g).1 = .slice a len cap) (A : Nat → Prop) : mR m g (.ro k (.v i)) ∧ UIn A W m g (.ro k (.v i)) := by
 obtain ⟨h1, h2, h3, h4, h5, h6, h7⟩ := aA1 h
 have e : (Tm.v i).u.lst = z.take len := by show (Rho.v i).lst = _; rw [hv]; rfl
 refine ⟨⟨a, cap, ?_, ?_, ?_⟩, a, cap, ?_, ?_, ?_, ?_, ?_⟩
 ·rw [e, h1]; exact hm
 ·rw [e, h1]; exact h3
 ·rw [e, h1]; exact h4
 ·rw [e, h1]; exact hm
 ·rw [e, h1]; exact h5
 ·rw [e]; exact h6
 ·rw [e, h1]; exact h7
 ·rw [e, h1]; exact h2
abbrev m1 (a : Option Addr) (len cap : Nat) : M := ⟨fun _ => 0, fun _ => 0, fun _ => ⟨.slice a len cap, rfl⟩⟩
theorem aDj (W : World) (pc : Facts) (h : nQ pc) {k : IntKind} {a : Option Addr} {len cap : Nat} {z : List Int} (hz : yH k W a len cap z) {i : Nat} (hv : Rho.v i = .s (z.take len)) :
  kD W (fun j => j = 0) (m1 a len cap) ⟨.e, .n .e (some (.ro k (.v i))) .e, 1, pc, 0⟩ W := by
 refine ⟨?_, ?_, ?_, ?_, h, Below.refl _ _⟩
 ·intro g e z wr cs h; cases h
 ·intro j info hj
  have hj : look (Tr.n .e (some (UI.ro k (.v i))) .e) j = some info := hj
  rw [o8] at hj
  by_cases c : j = 0
  ·rw [if_pos c] at hj
   cases hj
   obtain ⟨x1, x2⟩ := ro_ok hz hv (m := m1 a len cap) (g := j) rfl (fun j => j = 0)
   exact ⟨c, x1, x2⟩
  ·rw [if_neg c] at hj
   split at hj <;> cases hj
 ·intro g g' e z cs x h; cases h
 ·intro g h; rw [show g = 0 from h]; exact Nat.zero_lt_one
abbrev m2 (a : Option Addr) (len cap : Nat) (a' : Option Addr) (len' cap' : Nat) : M := ⟨fun _ => 0, fun _ => 0, fun j => if j = 0 then ⟨.slice a len cap, rfl⟩ else ⟨.slice a' len' cap', rfl⟩⟩
end
end Xe
namespace Num
theorem kP (n : Int) : IntKind.u64.wrap n = n % 18446744073709551616 := by simp [IntKind.wrap, IntKind.bits, IntKind.signed]
theorem qV (n : Int) : IntKind.u32.wrap n = n % 4294967296 := by simp [IntKind.wrap, IntKind.bits, IntKind.signed]
theorem i64_wrap (n : Int) : IntKind.i64.wrap n = wrap64 n := by rw [i64_w]
theorem wH (n : Nat) : IntKind.u64.wrap (n : Int) = ((n % 18446744073709551616 : Nat) : Int) := by rw [kP]; omega
theorem gL (n : Nat) (h : n < 18446744073709551616) : IntKind.u64.wrap (n : Int) = (n : Int) := by rw [kP]; omega
theorem cZ (n : Int) (h : -9223372036854775808 ≤ n) (h' : n ≤ 9223372036854775807) : wrap64 n = n := by unfold wrap64; omega
theorem mG {n : Int} (h : 0 ≤ n) : ∃ m : Nat, n = (m : Int) := ⟨n.toNat, by omega⟩
theorem xB (n : Nat) : ((2 ^ n : Nat) : Int) = (2 : Int) ^ n := by simp
theorem aDi (k : IntKind) (v n : Nat) (hv : v < 2 ^ k.bits) : shr k (v : Int) (n : Int) = ((v / 2 ^ n : Nat) : Int) := by
 unfold shr
 rw [Int.toNat_natCast]
 by_cases h : n ≤ k.bits
 ·rw [Nat.min_eq_left h]; simp
 ·rw [Nat.min_eq_right (by omega), Nat.div_eq_of_lt (show v < 2 ^ n from Nat.lt_of_lt_of_le hv (Nat.pow_le_pow_right (by decide) (by omega)))]
  have : v / 2 ^ k.bits = 0 := Nat.div_eq_of_lt hv
  have e : ((v : Int) / 2 ^ k.bits) = ((v / 2 ^ k.bits : Nat) : Int) := by simp
  rw [e, this]
theorem oH (v n : Nat) (hv : v < 18446744073709551616) : shr .u64 (v : Int) (n : Int) = ((v / 2 ^ n : Nat) : Int) := aDi .u64 v n hv
theorem tK (v n : Nat) (hv : v < 4294967296) : shr .u32 (v : Int) (n : Int) = ((v / 2 ^ n : Nat) : Int) := aDi .u32 v n hv
theorem kX (v n : Nat) : shl .u64 (v : Int) (n : Int) = ((v * 2 ^ n % 18446744073709551616 : Nat) : Int) := by
 unfold shl
 rw [Int.toNat_natCast]
 by_cases h : n ≤ 64
 ·rw [show IntKind.u64.bits = 64 from rfl, Nat.min_eq_left h, show (v : Int) * 2 ^ n = ((v * 2 ^ n : Nat) : Int) by simp, wH]
 ·have e : (2 : Nat) ^ n = 18446744073709551616 * 2 ^ (n - 64) := by rw [show 18446744073709551616 = 2 ^ 64 from rfl, ← Nat.pow_add]; congr 1; omega
  rw [Nat.min_eq_right (show IntKind.u64.bits ≤ n by show 64 ≤ n; omega), show (v : Int) * 2 ^ IntKind.u64.bits = ((v * 18446744073709551616 : Nat) : Int) by simp [IntKind.bits], wH, Nat.mul_mod_left, e, ← Nat.mul_assoc, Nat.mul_comm v, Nat.mul_assoc, Nat.mul_mod_right]
theorem uF (v n : Nat) : shl .u32 (v : Int) (n : Int) = ((v * 2 ^ n % 4294967296 : Nat) : Int) := by
 unfold shl
 rw [Int.toNat_natCast]
 by_cases h : n ≤ 32
 ·rw [show IntKind.u32.bits = 32 from rfl, Nat.min_eq_left h, show (v : Int) * 2 ^ n = ((v * 2 ^ n : Nat) : Int) by simp, qV]; omega
 ·have e : (2 : Nat) ^ n = 4294967296 * 2 ^ (n - 32) := by rw [show 4294967296 = 2 ^ 32 from rfl, ← Nat.pow_add]; congr 1; omega
  rw [Nat.min_eq_right (show IntKind.u32.bits ≤ n by show 32 ≤ n; omega), show (v : Int) * 2 ^ IntKind.u32.bits = ((v * 4294967296 : Nat) : Int) by simp [IntKind.bits], qV, e, ← Nat.mul_assoc, Nat.mul_comm v, Nat.mul_assoc, Nat.mul_mod_right]; omega
theorem wraps_u64 (n : Int) (h₀ : 0 ≤ n) (h₁ : n < 2 ^ 64) : IntKind.u64.wrap n = n := by rw [kP]; omega
theorem wraps_u32 (n : Int) (h₀ : 0 ≤ n) (h₁ : n < 2 ^ 32) : IntKind.u32.wrap n = n := by rw [qV]; omega
theorem and_u64 (a b : Nat) (ha : a < 18446744073709551616) (hb : b < 18446744073709551616) : Go.bits .and .u64 a b = ((a &&& b : Nat) : Int) := (bits_nat .u64 64 (by decide) wraps_u64 a b ha hb).1
theorem aAp (a b : Nat) (ha : a < 18446744073709551616) (hb : b < 18446744073709551616) : Go.bits .or .u64 a b = ((a ||| b : Nat) : Int) := (bits_nat .u64 64 (by decide) wraps_u64 a b ha hb).2
theorem aAi (a b : Nat) (ha : a < 4294967296) (hb : b < 4294967296) : Go.bits .and .u32 a b = ((a &&& b : Nat) : Int) := (bits_nat .u32 32 (by decide) wraps_u32 a b ha hb).1
theorem qB (a b : Nat) (ha : a < 4294967296) (hb : b < 4294967296) : Go.bits .or .u32 a b = ((a ||| b : Nat) : Int) := (bits_nat .u32 32 (by decide) wraps_u32 a b ha hb).2
theorem aCy (a b : Nat) (ha : a < 4294967296) (hb : b < 4294967296) : Go.bits .xor .u32 a b = ((a ^^^ b : Nat) : Int) := by
 have e : (BitVec.ofInt 32 (a : Int) ^^^ BitVec.ofInt 32 (b : Int)).toNat = a ^^^ b := by
  rw [BitVec.toNat_xor, BitVec.ofInt_natCast, BitVec.ofInt_natCast, BitVec.toNat_ofNat, BitVec.toNat_ofNat, Nat.mod_eq_of_lt ha, Nat.mod_eq_of_lt hb]
 show IntKind.u32.wrap (((BitVec.ofInt 32 (a : Int) ^^^ BitVec.ofInt 32 (b : Int)).toNat : Nat) : Int) = _
 rw [e]
 exact wraps_u32 _ (Int.natCast_nonneg _) (by exact_mod_cast Nat.xor_lt_two_pow (n := 32) ha hb)
theorem wE (a n : Nat) (ha : a < 18446744073709551616) (hn : n ≤ 64) : Go.bits .and .u64 a ((2 ^ n - 1 : Nat) : Int) = ((a % 2 ^ n : Nat) : Int) := by
 have h : 2 ^ n - 1 < 18446744073709551616 := by
  have := Nat.pow_le_pow_right (show 0 < 2 by decide) hn
  have : 0 < 2 ^ n := Nat.two_pow_pos n
  omega
 rw [and_u64 a _ ha h, Nat.and_two_pow_sub_one_eq_mod]
theorem qC (a : Nat) (ha : a < 18446744073709551616) : Go.bits .and .u64 a 1 = ((a % 2 : Nat) : Int) := wE a 1 ha (by decide)
theorem nO (a b n : Nat) (ha : a % 2 ^ n = 0) (hb : b < 2 ^ n) : a ||| b = a + b := by
 have hq : a = 2 ^ n * (a / 2 ^ n) := by have := Nat.div_add_mod a (2 ^ n); omega
 have := Nat.two_pow_add_eq_or_of_lt hb (a / 2 ^ n)
 rw [← hq] at this
 exact this.symm
end Num
end
end Go.Proofs.YtolpdiifmacdbaaGreat
