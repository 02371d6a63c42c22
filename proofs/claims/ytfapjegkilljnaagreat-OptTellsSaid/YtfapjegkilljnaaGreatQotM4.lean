import Derived.Test.YtfapjegkilljnaaGreatQotM3
import Derived.Test.YtfapjegkilljnaaGreatQotWMore
/- Functions of numbers, truth values, structs and arrays of these: what they are given and answer, as plain values. -/
set_option linter.unusedVariables false
set_option linter.unusedSimpArgs false
namespace Go.Proofs.YtfapjegkilljnaaGreat.Ek
open Go.RowKit Go.Proofs.YtfapjegkilljnaaGreatW.PrintWords Go.Proofs.YtfapjegkilljnaaGreatW.PrintLast Go.Proofs.YtfapjegkilljnaaGreatW.PrintMore

inductive Lf where
 |i (k : IntKind)
 |b
 |a (k : IntKind) (n : Nat)
def Lf.T : Lf → Type
 |.i _ => Int
 |.b => Bool
 |.a _ _ => List Int
def Tq : List Lf → Type
 |[] => Unit
 |l :: r => l.T × Tq r
def uK : (l : Lf) → l.T → S
 |.i k, x => .c (.i k (.x x))
 |.b, x => .c (.b (.q x))
 |.a k n, xs => .a k xs n
def uQ : (ls : List Lf) → Tq ls → List S
 |[], _ => []
 |l :: r, x => uK l x.1 :: uQ r x.2
def takeLf : (l : Lf) → List S → Option (l.T × List S)
 |.i k, .c (.i k' x) :: r => cnd (decide (k' = k)) (some (x.d, r)) <| none
 |.b, .c (.b x) :: r => some (x.d, r)
 |.a k n, .a k' xs n' :: r => cnd (decide (k' = k) && Nat.beq n' n) (some (xs, r)) <| none
 |.a k n, ss => match oK ss n with
  |some (q, r) => match uV k q with
   |some xs => some (xs, r)
   |none => none
  |none => none
 |_, _ => none
def wQ : (ls : List Lf) → List S → Option (Tq ls)
 |[], [] => some ()
 |[], _ :: _ => none
 |l :: r, ss => match takeLf l ss with
  |some (x, q) => match wQ r q with
   |some y => some (x, y)
   |none => none
  |none => none
inductive Sh where
 |one (l : Lf)
 |agg (ls : List Lf)
def Sh.lfs : Sh → List Lf
 |.one l => [l]
 |.agg ls => ls
def aBr (h : Sh) (v : PV) : Option (Tq h.lfs) := match h, v with
 |.one l, .one c => wQ [l] [.c c]
 |.agg ls, .agg ss => wQ ls ss
 |_, _ => none
def uH : (h : Sh) → Tq h.lfs → PV
 |.one l, x => match uK l x.1 with
  |.c c => .one c
  |s => .agg [s]
 |.agg ls, x => .agg (uQ ls x)
def Ts : List Sh → Type
 |[] => Unit
 |h :: r => Tq h.lfs × Ts r
def takes : (hs : List Sh) → List PV → Option (Ts hs)
 |[], [] => some ()
 |[], _ :: _ => none
 |_ :: _, [] => none
 |h :: r, v :: q => match aBr h v, takes r q with
  |some x, some y => some (x, y)
  |_, _ => none
def gives : (hs : List Sh) → Ts hs → List PV
 |[], _ => []
 |h :: r, x => uH h x.1 :: gives r x.2
def Sh.plain : Sh → Bool
 |.one (.a _ _) => false
 |_ => true
def kJ (hs : List Sh) : SV → Option (Ts hs)
 |.pv v => takes hs [v]
 |.tup vs => cnd (Nat.beq vs.length 1) (none) <| takes hs vs
 |.und => none
def l7 (hs : List Sh) (x : Ts hs) : SV := match gives hs x with
 |[v] => .pv v
 |vs => .tup vs

theorem takeLf_v (m : Nat → Nat) {N : Nat} {l : Lf} {ss r : List S} {x : l.T} (ho : oks N ss) (h : takeLf l ss = some (x, r)) : oks N r ∧ (uK l x).ok 0 ∧ vals m ss = (uK l x).v m ++ vals m r := by
 cases l with
 |i k =>
  match ss, h with
  |.c (.i k' y) :: q, h =>
   obtain ⟨h1, h2⟩ := fZ h
   cases h2
   obtain rfl := of_decide_eq_true h1
   exact ⟨ho.2, trivial, rfl⟩
 |b =>
  match ss, h with
  |.c (.b y) :: q, h => cases h; exact ⟨ho.2, trivial, rfl⟩
 |a k n =>
  have gen : (match oK ss n with
    |some (q, r) => match uV k q with
     |some xs => some (xs, r)
     |none => none
    |none => none) = some (x, r) → oks N r ∧ (uK (.a k n) x).ok 0 ∧ vals m ss = (uK (.a k n) x).v m ++ vals m r := by
   intro h
   split at h
   ·next q r' hs =>
    split at h
    ·next xs hi =>
     cases h
     obtain ⟨e, hl⟩ := oV hs
     subst e
     rw [jT] at ho
     have hv := tH m hi
     have hlen := dD m q ho.1
     refine ⟨ho.2, ?_, ?_⟩
     ·have h1 : (vals m q).length = (show List Int from x).length := by rw [hv]; exact List.length_map ..
      show (show List Int from x).length = n
      omega
     ·rw [eG, hv]; rfl
    ·cases h
   ·cases h
  match ss, h with
  |.a k' xs n' :: q, h =>
   obtain ⟨h1, h2⟩ := fZ h
   cases h2
   rw [Bool.and_eq_true] at h1
   obtain rfl := of_decide_eq_true h1.1
   obtain rfl := Nat.eq_of_beq_eq_true h1.2
   exact ⟨ho.2, ho.1, rfl⟩
  |[], h => exact gen h
  |.c u :: q, h => exact gen h
theorem aAk (m : Nat → Nat) {N : Nat} : ∀ {ls : List Lf} {ss : List S} {x : Tq ls}, oks N ss → wQ ls ss = some x → oks 0 (uQ ls x) ∧ vals m ss = vals m (uQ ls x) := by
 intro ls
 induction ls with
 |nil =>
  intro ss x _ h
  cases ss with
  |nil => exact ⟨trivial, rfl⟩
  |cons s r => cases h
 |cons l ls ih =>
  intro ss x ho h
  unfold wQ at h
  split at h
  ·next y q hy =>
   split at h
   ·next z hz =>
    cases h
    obtain ⟨o1, o2, e⟩ := takeLf_v m ho hy
    obtain ⟨o3, e2⟩ := ih o1 hz
    exact ⟨⟨o2, o3⟩, by rw [e, e2]; rfl⟩
   ·cases h
  ·cases h
theorem vQ (m : Nat → Nat) {N : Nat} {h : Sh} {v : PV} {x : Tq h.lfs} (hp : h.plain = true) (ho : v.ok N) (ht : aBr h v = some x) : (uH h x).ok 0 ∧ v.v m = (uH h x).v m := by
 cases h with
 |one l =>
  cases v with
  |agg ss => cases ht
  |one c =>
   obtain ⟨o1, e⟩ := aAk m (ls := [l]) (ss := [.c c]) (N := N) ⟨ho, trivial⟩ ht
   have e : [c.v m] = vals m (uQ [l] x) := e
   cases l with
   |a k n => cases hp
   |i k =>
    refine ⟨trivial, ?_⟩
    have : [c.v m] = [Value.int k x.1] := e
    exact (List.cons.inj this).1
   |b =>
    refine ⟨trivial, ?_⟩
    have : [c.v m] = [Value.bool x.1] := e
    exact (List.cons.inj this).1
 |agg ls =>
  cases v with
  |one c => cases ht
  |agg ss =>
   obtain ⟨o1, e⟩ := aAk m ho ht
   exact ⟨o1, by show Value.agg _ = Value.agg _; rw [e]⟩
theorem xK {N : Nat} : ∀ {hs : List Sh} {vs : List PV} {x : Ts hs}, hs.all Sh.plain = true → (∀ v ∈ vs, v.ok N) → takes hs vs = some x → (∀ v ∈ gives hs x, v.ok 0) ∧ ∀ m, vs.map (PV.v m) = (gives hs x).map (PV.v m) := by
 intro hs
 induction hs with
 |nil =>
  intro vs x _ _ h
  cases vs with
  |nil => exact ⟨(fun v hv => nomatch hv), fun _ => rfl⟩
  |cons v r => cases h
 |cons h hs ih =>
  intro vs x hp ho ht
  cases vs with
  |nil => cases ht
  |cons v r =>
   rw [List.all_cons, Bool.and_eq_true] at hp
   unfold takes at ht
   split at ht
   ·next y z hy hz =>
    cases ht
    obtain ⟨o2, e2⟩ := ih hp.2 (fun u hu => ho u (List.mem_cons_of_mem _ hu)) hz
    have hv := ho v (List.mem_cons_self ..)
    refine ⟨fun u hu => ?_, fun m => ?_⟩
    ·have hu : u ∈ uH h y :: gives hs z := hu
     rcases List.mem_cons.1 hu with rfl | hu
     ·exact (vQ id hp.1 hv hy).1
     ·exact o2 u hu
    ·show v.v m :: r.map (PV.v m) = (uH h y).v m :: (gives hs z).map (PV.v m)
     rw [(vQ m hp.1 hv hy).2, e2 m]
   ·cases ht
theorem takeR_v {N : Nat} {hs : List Sh} {v : SV} {x : Ts hs} (hp : hs.all Sh.plain = true) (ho : v.ok N) (h : kJ hs v = some x) : (l7 hs x).ok 0 ∧ ∀ m m', v.v m' = (l7 hs x).v m := by
 have cong : ∀ (vs : List PV), (∀ v ∈ vs, v.ok 0) → ∀ m m' : Nat → Nat, vs.map (PV.v m') = vs.map (PV.v m) := fun vs hv m m' =>
  List.map_congr_left fun u hu => PV.iD (N := 0) (fun g hg => absurd hg (Nat.not_lt_zero _)) (hv u hu)
 have main : ∀ vs : List PV, (∀ v ∈ vs, v.ok N) → takes hs vs = some x → (∀ v ∈ gives hs x, v.ok 0) ∧ ∀ m m', vs.map (PV.v m') = (gives hs x).map (PV.v m) := fun vs hv ht => by
  obtain ⟨o, e⟩ := xK hp hv ht
  exact ⟨o, fun m m' => (e m').trans (cong _ o m m')⟩
 cases v with
 |und => cases h
 |pv u =>
  obtain ⟨o, e⟩ := main [u] (by intro v hv; rcases List.mem_cons.1 hv with rfl | hv; exact ho; cases hv) h
  unfold l7
  have hl : (gives hs x).length = 1 := by
   have := congrArg List.length (e id id); simpa using this.symm
  match hg : gives hs x, hl with
  |[w], _ =>
   rw [hg] at o e
   refine ⟨o w (List.mem_cons_self ..), fun m m' => ?_⟩
   have := e m m'
   exact (List.cons.inj this).1
 |tup vs =>
  have h0 : (cnd (Nat.beq vs.length 1) (none) <| takes hs vs) = some x := h
  have hne : vs.length ≠ 1 := by
   intro hl
   rw [hl] at h0
   cases h0
  have h' : takes hs vs = some x := by
   rcases qX h0 with ⟨_, h1⟩ | ⟨_, h1⟩
   ·cases h1
   ·exact h1
  obtain ⟨o, e⟩ := main vs ho h'
  have hl : (gives hs x).length ≠ 1 := by
   intro hl
   have := congrArg List.length (e id id)
   simp only [List.length_map] at this
   omega
  have hg : l7 hs x = .tup (gives hs x) := by
   unfold l7
   split
   ·next u hu => rw [hu] at hl; exact absurd rfl hl
   ·rfl
  rw [hg]
  exact ⟨o, fun m m' => by show Value.tuple _ = Value.tuple _; rw [e m m']⟩

def Lf.na : Lf → Bool
 |.a _ _ => false
 |_ => true
theorem aBg : ∀ {ls : List Lf} (x : Tq ls), ls.all Lf.na = true → oks 0 (uQ ls x) := by
 intro ls
 induction ls with
 |nil => intro x _; trivial
 |cons l ls ih =>
  intro x h
  rw [List.all_cons, Bool.and_eq_true] at h
  refine ⟨?_, ih x.2 h.2⟩
  cases l with
  |a k n => cases h.1
  |i k => trivial
  |b => trivial
theorem aAi : ∀ {hs : List Sh} (x : Ts hs), hs.all (fun s => s.lfs.all Lf.na) = true → ∀ v ∈ gives hs x, v.ok 0 := by
 intro hs
 induction hs with
 |nil => intro x _ v hv; cases hv
 |cons h hs ih =>
  intro x hh v hv
  rw [List.all_cons, Bool.and_eq_true] at hh
  rcases List.mem_cons.1 hv with rfl | hv
  ·cases h with
   |agg ls => exact aBg x.1 hh.1
   |one l =>
    cases l with
    |a k n => have := hh.1; cases this
    |i k => trivial
    |b => trivial
  ·exact ih x.2 hh.2 v hv
theorem dF {hs : List Sh} (h : hs.all (fun s => s.lfs.all Lf.na) = true) (x : Ts hs) : (l7 hs x).ok 0 := by
 have k := aAi x h
 unfold l7
 split
 ·next v hv => exact k v (by rw [hv]; exact List.mem_cons_self ..)
 ·exact k
def gX (as_ rs : List Sh) {T : Type} (un : T → Ts rs) (g : Nat → Ts as_ → Option T) : Fc := ⟨fun _ n _ vs K => match takes as_ vs with
 |some x => (g n x).bind fun y => K (l7 rs (un y))
 |none => none⟩
theorem bS.nil {P : Program} : bS P [] := fun _ _ h => nomatch h
theorem bS.cons {P : Program} {f : FuncId} {c : Fc} {cl : Cls} (h : gI P f c) (k : bS P cl) : bS P ((f, c) :: cl) := fun f' c' hl => by
 rw [eX] at hl
 by_cases e : f = f'
 ·rw [if_pos e] at hl; cases hl; subst e; exact h
 ·rw [if_neg e] at hl; exact k f' c' hl
theorem eB {P : Program} {f : FuncId} {fn : Func} {as_ rs : List Sh} {T : Type} {un : T → Ts rs} {g : Nat → Ts as_ → Option T} (hf : P.funcs[f]? = some fn) (hb : fn.body.isSome = true) (hn : (fn.name == "runtime.NumGoroutine") = false)
  (hp : (as_.all Sh.plain && rs.all Sh.plain) = true) (h0 : ∀ y, (l7 rs (un y)).ok 0) (hc : ∀ n x y, g n x = some y → ∀ (m : Nat → Nat) (w : World), Calls P f ((gives as_ x).map (PV.v m)).toArray w fun e w' => e = .returned ((l7 rs (un y)).v m) ∧ Below w.heap.size w w') : gI P f (gX as_ rs un g) := by
 rw [Bool.and_eq_true] at hp
 refine ⟨⟨fn, hf, hb, hn⟩, fun R n N _ vs K r ho h => ?_⟩
 have h : (match takes as_ vs with
  |some x => (g n x).bind fun y => K (l7 rs (un y))
  |none => none) = some r := h
 split at h
 ·next x hx =>
  obtain ⟨y, hy, hK⟩ := Option.bind_eq_some_iff.mp h
  obtain ⟨o1, e1⟩ := xK hp.1 ho hx
  exact ⟨_, hK, h0 y, fun m w _ => by rw [e1 m]; exact hc n x y hy m w⟩
 ·cases h
theorem rC {P : Program} {cl : Cls} (hcl : bS P cl) {f : FuncId} {fn : Func} {cuts : List Nat} {as_ rs : List Sh} {T : Type} {cv : Ts rs → T} {un : T → Ts rs} {g : Nat → Ts as_ → Option T} (hf : P.funcs[f]? = some fn) (hb : fn.body.isSome = true) (hn : (fn.name == "runtime.NumGoroutine") = false)
  (hp : (as_.all Sh.plain && rs.all Sh.plain) = true) (hu : ∀ z, un (cv z) = z) (hg : ∀ n x, g n x = evF P cl fn cuts n (gives as_ x) (fun v => (kJ rs v).map cv)) : gI P f (gX as_ rs un g) := by
 rw [Bool.and_eq_true] at hp
 refine ⟨⟨fn, hf, hb, hn⟩, fun R n N _ vs K r ho h => ?_⟩
 have h : (match takes as_ vs with
  |some x => (g n x).bind fun y => K (l7 rs (un y))
  |none => none) = some r := h
 split at h
 ·next x hx =>
  obtain ⟨y, hy, hK⟩ := Option.bind_eq_some_iff.mp h
  rw [hg] at hy
  obtain ⟨o1, e1⟩ := xK hp.1 ho hx
  refine ⟨_, hK, ?_⟩
  have hc : ∀ m w, Calls P f (vs.map (PV.v m)).toArray w fun e w' => (l7 rs (un y)).ok 0 ∧ e = .returned ((l7 rs (un y)).v m) ∧ Below w.heap.size w w' := fun m w => by
   rw [e1 m]
   refine (evF_v hcl hf o1 hy m w).mono ?_
   rintro e w' ⟨v, m', h1, rfl, ⟨N, h2⟩, h3⟩
   obtain ⟨z, hz, rfl⟩ := Option.map_eq_some_iff.mp h1
   rw [hu]
   obtain ⟨k1, k2⟩ := takeR_v hp.2 h2 hz
   exact ⟨k1, by rw [k2 m m'], h3⟩
  refine ⟨?_, fun m w _ => (hc m w).mono fun e w' he => he.2⟩
  obtain ⟨e, w', fr, hR, _⟩ := hc id default []
  exact hR.1
 ·cases h
theorem iK {P : Program} {f : FuncId} {as_ rs : List Sh} {T : Type} {un : T → Ts rs} {g : Nat → Ts as_ → Option T} (hok : gI P f (gX as_ rs un g)) (n : Nat) (x : Ts as_) (y : T) (ht : takes as_ (gives as_ x) = some x) (h : g n x = some y) (w : World) (hp : as_.all (fun s => s.lfs.all Lf.na) = true := by decide) :
  Calls P f ((gives as_ x).map (PV.v id)).toArray w fun e w' => e = .returned ((l7 rs (un y)).v id) ∧ Below w.heap.size w w' := by
 have hr : (gX as_ rs un g).run SV n [] (gives as_ x) some = some (l7 rs (un y)) := by
  show (match takes as_ (gives as_ x) with
   |some x => (g n x).bind fun y => some (l7 rs (un y))
   |none => none) = _
  rw [ht]
  show (g n x).bind _ = _
  rw [h]; rfl
 obtain ⟨v, hv, _, hc⟩ := hok.run SV n 0 [] (gives as_ x) some _ (aAi x hp) hr
 cases hv
 exact hc id w ⟨0, fun g e ss h => nomatch h⟩
inductive Ar where
 |s (h : Sh)
 |sl (k : IntKind)
def Ta : List Ar → Type
 |[] => Unit
 |.s h :: r => Tq h.lfs × Ta r
 |.sl _ :: r => List Int × Ta r
def yL (h : List (Nat × Nat × List S)) (k : IntKind) : PV → Option (List Int)
 |.one (.sl g o n c) => match look h g with
  |some (_, [.a k' xs q]) => cnd (Nat.beq o 0 && Nat.beq q n && Nat.ble n c && Nat.ble n 1000 && decide (k' = k)) (some xs) <| none
  |_ => none
 |_ => none
def takeA (h : List (Nat × Nat × List S)) : (as_ : List Ar) → List PV → Option (Ta as_)
 |[], [] => some ()
 |[], _ :: _ => none
 |_ :: _, [] => none
 |.s p :: r, v :: q => match aBr p v, takeA h r q with
  |some x, some y => some (x, y)
  |_, _ => none
 |.sl k :: r, v :: q => match yL h k v, takeA h r q with
  |some x, some y => some (x, y)
  |_, _ => none
def Are (w : World) : (as_ : List Ar) → Ta as_ → List Value → Prop
 |[], _, vs => vs = []
 |.s p :: r, x, vs => ∃ q, vs = (uH p x.1).v id :: q ∧ Are w r x.2 q
 |.sl k :: r, x, vs => ∃ A c q, vs = .slice A x.1.length c :: q ∧ Kd.C (Kd.int k) w A x.1.length x.1 ∧ x.1.length ≤ c ∧ Are w r x.2 q
def Ar.plain : Ar → Bool
 |.s h => h.plain
 |_ => true
theorem aBD {h : List (Nat × Nat × List S)} {k : IntKind} {v : PV} {xs : List Int} (e : yL h k v = some xs) {m : Nat → Nat} {w : World} (hw : aB7 m h w) : ∃ A c, v.v m = .slice A xs.length c ∧ Kd.C (Kd.int k) w A xs.length xs ∧ xs.length ≤ c := by
 unfold yL at e
 split at e
 ·next g o n c =>
  split at e
  ·next t k' ys q hl =>
   obtain ⟨h1, h2⟩ := fZ e
   cases h2
   simp only [Bool.and_eq_true] at h1
   obtain ⟨⟨⟨⟨h1, h2⟩, h3⟩, h4⟩, h5⟩ := h1
   obtain rfl := Nat.eq_of_beq_eq_true h1
   obtain rfl := Nat.eq_of_beq_eq_true h2
   have h3 := Nat.le_of_ble_eq_true h3
   have h4 := Nat.le_of_ble_eq_true h4
   obtain rfl := of_decide_eq_true h5
   obtain ⟨N, hw⟩ := hw
   obtain ⟨o1, o2⟩ := hw g t _ hl
   have ol : xs.length = q := o1.1
   subst ol
   have o3 : vals m [S.a k' xs xs.length] = xs.map (Value.int k') := by show xs.map _ ++ [] = _; rw [List.append_nil]
   rw [o3] at o2
   refine ⟨some ⟨m g, 0, none⟩, c, rfl, ⟨rfl, by omega, fun _ => ⟨_, rfl, fun j p hj => ⟨[.int k' p], rfl, rfl, fun i u hu => ?_⟩⟩⟩, h3⟩
   have hi : i = 0 := by
    cases i with
    |zero => rfl
    |succ i => cases hu
   subst hi
   cases hu
   unfold World.cell? Addr.add
   have hk : (Kd.int k').sz = 1 := rfl
   by_cases j0 : j = 0
   ·subst j0; simp [hk, o2]; simpa using hj
   ·simp [hk, j0, o2]; simpa using hj
  ·cases e
 ·cases e
theorem takeA_v {h : List (Nat × Nat × List S)} {N : Nat} : ∀ {as_ : List Ar} {vs : List PV} {x : Ta as_}, as_.all Ar.plain = true → (∀ v ∈ vs, v.ok N) → takeA h as_ vs = some x → ∀ (m : Nat → Nat) (w : World), aB7 m h w → Are w as_ x (vs.map (PV.v m)) := by
 intro as_
 induction as_ with
 |nil =>
  intro vs x _ _ e m w _
  cases vs with
  |nil => rfl
  |cons v r => cases e
 |cons p as_ ih =>
  intro vs x hp ho e m w hw
  rw [List.all_cons, Bool.and_eq_true] at hp
  cases vs with
  |nil => cases p <;> cases e
  |cons v r =>
   cases p with
   |s q =>
    unfold takeA at e
    split at e
    ·next y z hy hz =>
     cases e
     obtain ⟨o1, e1⟩ := vQ m hp.1 (ho v (List.mem_cons_self ..)) hy
     refine ⟨r.map (PV.v m), ?_, ih hp.2 (fun u hu => ho u (List.mem_cons_of_mem _ hu)) hz m w hw⟩
     show v.v m :: _ = _
     rw [e1, PV.iD (N := 0) (m := m) (m' := id) (fun g hg => absurd hg (Nat.not_lt_zero _)) o1]
    ·cases e
   |sl k =>
    unfold takeA at e
    split at e
    ·next y z hy hz =>
     cases e
     obtain ⟨A, c, e1, e2, e3⟩ := aBD hy hw
     refine ⟨A, c, r.map (PV.v m), ?_, e2, e3, ih hp.2 (fun u hu => ho u (List.mem_cons_of_mem _ hu)) hz m w hw⟩
     show v.v m :: _ = _
     rw [e1]
    ·cases e
def mkFcA (as_ : List Ar) (rs : List Sh) {T : Type} (un : T → Ts rs) (g : Nat → Ta as_ → Option T) : Fc := ⟨fun _ n h vs K => match takeA h as_ vs with
 |some x => (g n x).bind fun y => K (l7 rs (un y))
 |none => none⟩
theorem xZ {P : Program} {f : FuncId} {fn : Func} {as_ : List Ar} {rs : List Sh} {T : Type} {un : T → Ts rs} {g : Nat → Ta as_ → Option T} (hf : P.funcs[f]? = some fn) (hb : fn.body.isSome = true) (hn : (fn.name == "runtime.NumGoroutine") = false)
  (hp : (as_.all Ar.plain && rs.all Sh.plain) = true) (h0 : ∀ y, (l7 rs (un y)).ok 0) (hc : ∀ n x y, g n x = some y → ∀ (m : Nat → Nat) (w : World) (vs : List Value), Are w as_ x vs → Calls P f vs.toArray w fun e w' => e = .returned ((l7 rs (un y)).v m) ∧ Below w.heap.size w w') : gI P f (mkFcA as_ rs un g) := by
 rw [Bool.and_eq_true] at hp
 refine ⟨⟨fn, hf, hb, hn⟩, fun R n N hh vs K r ho h => ?_⟩
 have h : (match takeA hh as_ vs with
  |some x => (g n x).bind fun y => K (l7 rs (un y))
  |none => none) = some r := h
 split at h
 ·next x hx =>
  obtain ⟨y, hy, hK⟩ := Option.bind_eq_some_iff.mp h
  exact ⟨_, hK, h0 y, fun m w hw => hc n x y hy m w _ (takeA_v hp.1 ho hx m w hw)⟩
 ·cases h
abbrev hI (k : IntKind) : Sh := .one (.i k)
abbrev hB : Sh := .one .b
abbrev ci (k : IntKind) (x : Int) : S := .c (.i k (.x x))
abbrev cb (b : Bool) : S := .c (.b (.q b))
end Go.Proofs.YtfapjegkilljnaaGreat.Ek

/- What one side answers the other answers. -/
namespace Go.Proofs.YtfapjegkilljnaaGreat.P
open Go.RowKit Go.Proofs.YtfapjegkilljnaaGreatW.PrintWords Go.Proofs.YtfapjegkilljnaaGreatW.PrintLast Go.Proofs.YtfapjegkilljnaaGreatW.PrintMore
theorem LeO.gH {α : Type} {c d : Prop} [Decidable c] [Decidable d] (e : c ↔ d) {a a' b b' : Option α} (h : c → LeO a a') (k : ¬ c → LeO b b') : LeO (if c then a else b) (if d then a' else b') := by
 by_cases x : c
 ·rw [if_pos x, if_pos (e.mp x)]; exact h x
 ·rw [if_neg x, if_neg (fun y => x (e.mpr y))]; exact k x
theorem LeO.pos {α : Type} {c : Prop} [Decidable c] (x : c) {a b b' : Option α} (h : LeO a b) : LeO a (if c then b else b') := by rw [if_pos x]; exact h
theorem LeO.neg {α : Type} {c : Prop} [Decidable c] (x : ¬ c) {a b b' : Option α} (h : LeO a b') : LeO a (if c then b else b') := by rw [if_neg x]; exact h
theorem LeO.l6 {α : Type} {c : Prop} [Decidable c] (x : c) {a b b' : Option α} (h : LeO b a) : LeO (if c then b else b') a := by rw [if_pos x]; exact h
theorem LeO.lZ {α : Type} {c : Prop} [Decidable c] (x : ¬ c) {a b b' : Option α} (h : LeO b' a) : LeO (if c then b else b') a := by rw [if_neg x]; exact h
end Go.Proofs.YtfapjegkilljnaaGreat.P
