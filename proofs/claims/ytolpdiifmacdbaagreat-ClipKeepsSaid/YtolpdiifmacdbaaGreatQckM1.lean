import Derived.Test.YtolpdiifmacdbaaGreatQckWMore
import Derived.Test.YtolpdiifmacdbaaGreatQckWTab
import Derived.OpenShut
set_option linter.unusedVariables false
set_option linter.unusedSimpArgs false
namespace Go.Proofs.YtolpdiifmacdbaaGreat
noncomputable section
open Go.RowKit YtolpdiifmacdbaaGreatW.PrintWords YtolpdiifmacdbaaGreatW.PrintLast YtolpdiifmacdbaaGreatW.PrintMore
namespace Xe
abbrev cnd {α : Type _} (b : Bool) (t e : α) : α := Bool.casesOn b e t
abbrev both (a b : Bool) : Bool := Bool.casesOn a false b
noncomputable section
inductive U where
 |n (i : Int)
 |p (a b : U)
 |s (xs : List Int)
def U.int : U → Int
 |.n i => i
 |_ => 0
def U.lst : U → List Int
 |.s xs => xs
 |_ => []
inductive TO where
 |add | sub | mul | quo | rem | and | or | xor | andNot | shl | shr | neg | com | conv | mn | mx
inductive Tm where
 |l (n : Int)
 |v (i : Nat)
 |o (op : TO) (k : IntKind) (x y : Tm)
 |c (x y : Tm)
 |f (i : Nat) (x : Tm)
 |sel (k : IntKind) (x i : Tm)
 |pk (i : Tm) (n : Nat) (x y : Tm)
 |len (x : Tm)
def iW (k : IntKind) (n : Int) : Int := match k with
 |.i64 => wrap64 n
 |.i32 => wrap32 n
 |.u32 => n % 4294967296
 |.u8 => n % 256
 |k => k.wrap n
def TO.run (op : TO) (k : IntKind) (a b : Int) : Int := match op with
 |.add => iW k (a + b)
 |.sub => iW k (a - b)
 |.mul => iW k (a * b)
 |.quo => iW k (Int.tdiv a b)
 |.rem => iW k (Int.tmod a b)
 |.and => Go.bits .and k a b
 |.or => Go.bits .or k a b
 |.xor => Go.bits .xor k a b
 |.andNot => Go.bits .andNot k a b
 |.shl => YtolpdiifmacdbaaGreatW.PrintWords.shl k a b
 |.shr => iW k (YtolpdiifmacdbaaGreatW.PrintWords.shr k a b)
 |.neg => iW k (-a)
 |.com => Go.bits .xor k (if k.signed then -1 else k.max) a
 |.conv => iW k a
 |.mn => iW k (YtolpdiifmacdbaaGreatW.PrintWords.mn a b)
 |.mx => iW k (YtolpdiifmacdbaaGreatW.PrintWords.mx a b)
class Rho where
 v : Nat → U
 f : Nat → U → U
def aBv : Nat := 9223372036854775807
def Tm.u [Rho] : Tm → U
 |.l n => .n n
 |.v i => Rho.v i
 |.o op k x y => .n (op.run k x.u.int y.u.int)
 |.c x y => .p x.u y.u
 |.f i x => Rho.f i x.u
 |.sel k x i => .n (k.wrap (rd x.u.lst i.u.int))
 |.pk i n x y => .n (if i.u.int = n then x.u.int else y.u.int)
 |.len x => .n (min x.u.lst.length aBv : Nat)
def Tm.d [Rho] (t : Tm) : Int := t.u.int
def TO.code : TO → Nat
 |.add => 0 | .sub => 1 | .mul => 2 | .quo => 3 | .rem => 4 | .and => 5 | .or => 6 | .xor => 7 | .andNot => 8 | .shl => 9 | .shr => 10 | .neg => 11 | .com => 12 | .conv => 13 | .mn => 14 | .mx => 15
def jA : IntKind → Nat
 |.i8 => 0 | .i16 => 1 | .i32 => 2 | .i64 => 3 | .u8 => 4 | .u16 => 5 | .u32 => 6 | .u64 => 7
def aAH : Int → Int → Bool
 |.ofNat a, .ofNat b => Nat.beq a b
 |.negSucc a, .negSucc b => Nat.beq a b
 |_, _ => false
def Tm.beq : Tm → Tm → Bool
 |.l n, .l m => aAH n m
 |.v i, .v j => Nat.beq i j
 |.o op k x y, .o op' k' x' y' => both (both (Nat.beq op.code op'.code) (Nat.beq (jA k) (jA k'))) (both (x.beq x') (y.beq y'))
 |.c x y, .c x' y' => both (x.beq x') (y.beq y')
 |.f i x, .f j y => both (Nat.beq i j) (x.beq y)
 |.sel k x i, .sel k' x' i' => both (Nat.beq (jA k) (jA k')) (both (x.beq x') (i.beq i'))
 |.pk i n x y, .pk i' n' x' y' => both (both (i.beq i') (Nat.beq n n')) (both (x.beq x') (y.beq y'))
 |.len x, .len y => x.beq y
 |_, _ => false
inductive BE where
 |tt | ff
 |q (t : Tm)
 |lt (x y : Tm)
 |le (x y : Tm)
 |eq (x y : Tm)
 |no (b : BE)
def BE.d [Rho] : BE → Bool
 |.tt => true
 |.ff => false
 |.q t => !(t.d == 0)
 |.lt x y => decide (x.d < y.d)
 |.le x y => decide (x.d ≤ y.d)
 |.eq x y => x.d == y.d
 |.no b => !b.d
def BE.neg : BE → BE
 |.tt => .ff
 |.ff => .tt
 |.no b => b
 |b => .no b
def BE.lit (b : Bool) : BE := cnd b .tt .ff
def BE.beq : BE → BE → Bool
 |.tt, .tt => true
 |.ff, .ff => true
 |.q t, .q u => t.beq u
 |.lt x y, .lt x' y' => both (x.beq x') (y.beq y')
 |.le x y, .le x' y' => both (x.beq x') (y.beq y')
 |.eq x y, .eq x' y' => both (x.beq x') (y.beq y')
 |.no b, .no c => b.beq c
 |_, _ => false
abbrev Facts := List (BE × Bool)
structure vF where
 s : Tm → Option Tm
 d : Facts → BE → Option Bool
 rv : Nat → Int × Int
 rf : Nat → Int × Int
 cz : Tm → Bool
def iG (n : Nat) (K : Nat → Bool) : Bool := match n with
 |0 => K 0
 |m + 1 => K (Nat.succ m)
def yG (n : Int) (K : Int → Bool) : Bool := match n with
 |.ofNat a => iG a fun a => K (.ofNat a)
 |.negSucc a => iG a fun a => K (.negSucc a)
section
variable (H : vF)
def kr (k : IntKind) : Int × Int := (k.min, k.max)
def fits (k : IntKind) (lo hi : Int) : Int × Int := cnd (decide (k.min ≤ lo) && decide (hi ≤ k.max)) (lo, hi) (kr k)
def rng : Tm → Int × Int
 |.l n => (n, n)
 |.v i => H.rv i
 |.f i _ => H.rf i
 |.c _ _ => (0, 0)
 |.sel k _ _ => kr k
 |.pk _ _ x y => match rng x, rng y with
  |(a, b), (c, d) => (cnd (decide (a ≤ c)) a c, cnd (decide (b ≤ d)) d b)
 |.len _ => (0, 9223372036854775807)
 |.o op k x y => match op with
  |.add => match rng x, rng y with
   |(a, b), (c, d) => fits k (a + c) (b + d)
  |.sub => match rng x, rng y with
   |(a, b), (c, d) => fits k (a - d) (b - c)
  |.mul => match rng x, rng y with
   |(a, b), (c, d) => cnd (decide (0 ≤ a) && decide (0 ≤ c)) (fits k 0 (b * d)) (kr k)
  |.quo => match rng x, rng y with
   |(a, b), (c, _) => cnd (decide (0 ≤ a) && decide (0 < c)) (fits k 0 b) (kr k)
  |.rem => match rng x, rng y with
   |(a, _), (c, d) => cnd (decide (0 ≤ a) && decide (0 < c)) (fits k 0 (d - 1)) (kr k)
  |.conv => match rng x with
   |(a, b) => fits k a b
  |.mn => match rng x, rng y with
   |(a, b), (c, d) => fits k (cnd (decide (a ≤ c)) a c) (cnd (decide (b ≤ d)) b d)
  |.mx => match rng x, rng y with
   |(a, b), (c, d) => fits k (cnd (decide (a ≤ c)) c a) (cnd (decide (b ≤ d)) d b)
  |_ => kr k
def aBx : Facts → Tm → Option Int
 |[], _ => none
 |(.eq x (.l n), true) :: r, t => cnd (x.beq t) (some n) (aBx r t)
 |_ :: r, t => aBx r t
def nrm (pc : Facts) : Tm → Tm
 |.l n => .l n
 |.o op k x y => match aBx pc (.o op k x y) with
  |some n => .l n
  |none => match nrm pc x, nrm pc y with
   |.l a, .l b => .l (op.run k a b)
   |x', y' => .o op k x' y'
 |t => match aBx pc t with
  |some n => .l n
  |none => t
def known : Facts → BE → Option Bool
 |[], _ => none
 |(c, r) :: l, b => cnd (c.beq b) (some r) (known l b)
def dec0 : BE → Option Bool
 |.tt => some true
 |.ff => some false
 |.eq x y => cnd (x.beq y) (some true) (match rng H x, rng H y with
  |(a, b), (c, d) => cnd (decide (b < c) || decide (d < a)) (some false) (cnd (decide (a = b) && decide (c = d) && decide (a = c)) (some true) none))
 |.lt x y => cnd (x.beq y) (some false) (match rng H x, rng H y with
  |(a, b), (c, d) => cnd (decide (b < c)) (some true) (cnd (decide (d ≤ a)) (some false) none))
 |.le x y => cnd (x.beq y) (some true) (match rng H x, rng H y with
  |(a, b), (c, d) => cnd (decide (b ≤ c)) (some true) (cnd (decide (d < a)) (some false) none))
 |_ => none
def nrmB (pc : Facts) : BE → BE
 |.eq x y => .eq (nrm pc x) (nrm pc y)
 |.lt x y => .lt (nrm pc x) (nrm pc y)
 |.le x y => .le (nrm pc x) (nrm pc y)
 |b => b
def decB (pc : Facts) : BE → Option Bool
 |.no b => match decB pc b with
  |some r => some (!r)
  |none => none
 |b => match dec0 H b with
  |some r => some r
  |none => match known pc b with
   |some r => some r
   |none => match dec0 H (nrmB pc b) with
    |some r => some r
    |none => H.d pc b
inductive C where
 |i (k : IntKind) (x : Tm)
 |b (x : BE)
 |p (g o : Nat)
 |sl (g o z n : Nat)
 |nil
 |st (s : ByteArray)
 |u (i : Nat)
 |pu (i : Nat) (t x : Tm)
 |pd (g o n : Nat) (x : Tm)
 |fn (f : Nat)
 |nf
inductive PV where
 |one (c : C)
 |agg (cs : List C)
inductive SV where
 |pv (v : PV)
 |tup (vs : List PV)
 |und
inductive UI where
 |clo (f : Nat) (caps : List PV)
 |ro (k : IntKind) (t : Tm)
 |em (full : Bool)
inductive Tr (α : Type) where
 |e
 |n (l : Tr α) (v : Option α) (r : Tr α)
def look {α : Type} (t : Tr α) : Nat → Option α :=
 @Tr.rec α (fun _ => Nat → Option α) (fun _ => none) (fun _ v _ il ir k => @Bool.rec (fun _ => Option α) (@Bool.rec (fun _ => Option α) (ir (Nat.sub (Nat.div k 2) 1)) (il (Nat.div k 2)) (Nat.beq (Nat.mod k 2) 1)) v (Nat.beq k 0)) t
def aA2 {α : Type} (f : Nat) : Tr α → Nat → Option α → (Tr α → Bool) → Bool :=
 @Nat.rec (fun _ => Tr α → Nat → Option α → (Tr α → Bool) → Bool) (fun _ _ _ _ => false) (fun _ ih t k u K => @Tr.rec α (fun _ => Bool)
  (@Bool.rec (fun _ => Bool) (@Bool.rec (fun _ => Bool) (ih .e (Nat.sub (Nat.div k 2) 1) u fun r => K (.n .e none r)) (ih .e (Nat.div k 2) u fun l => K (.n l none .e)) (Nat.beq (Nat.mod k 2) 1)) (K (.n .e u .e)) (Nat.beq k 0))
  (fun l v r _ _ => @Bool.rec (fun _ => Bool) (@Bool.rec (fun _ => Bool) (ih r (Nat.sub (Nat.div k 2) 1) u fun r => K (.n l v r)) (ih l (Nat.div k 2) u fun l => K (.n l v r)) (Nat.beq (Nat.mod k 2) 1)) (K (.n l u r)) (Nat.beq k 0)) t) f
abbrev aAN {α : Type} (t : Tr α) (k : Nat) (u : α) (K : Tr α → Bool) : Bool := aA2 20 t k (some u) K
abbrev delK {α : Type} (t : Tr α) (k : Nat) (K : Tr α → Bool) : Bool := aA2 20 t k none K
structure Hp where
 heap : Tr (Nat × Nat × Bool × List C)
 us : Tr UI
 next : Nat
 pc : Facts
 ro : Nat
abbrev Env := Tr SV
structure St where
 env : Env
 h : Hp
def stK (s : St) (d : Option Nat) (v : SV) (K : St → Bool) : Bool := match d with
 |some d => match s with
  |⟨env, h⟩ => aAN env d v fun env => K ⟨env, h⟩
 |none => K s
def uG : Value → Option C
 |.int k n => cnd (decide (k.min ≤ n) && decide (n ≤ k.max)) (some (.i k (.l n))) none
 |.bool b => some (.b (.lit b))
 |.slice none 0 0 => some .nil
 |.string s => some (.st s)
 |.nilFunc => some .nf
 |_ => none
def mQ : List Value → Option (List C)
 |[] => some []
 |v :: r => match uG v, mQ r with
  |some c, some cs => some (c :: cs)
  |_, _ => none
def ofV (v : Value) : Option SV := match v with
 |.agg cs => match mQ cs.toList with
  |some cs => some (.pv (.agg cs))
  |none => none
 |v => match uG v with
  |some c => some (.pv (.one c))
  |none => none
def ev (env : Env) : Operand → Option SV
 |.tmp t => look env t
 |.const v => ofV v
 |.func f => some (.pv (.one (.fn f)))
 |_ => none
def evs (env : Env) : List Operand → Option (List PV)
 |[] => some []
 |x :: r => match ev env x, evs env r with
  |some (.pv v), some vs => some (v :: vs)
  |_, _ => none
def sK (t : Tm) (K : Tm → Bool) : Bool := match H.s t with
 |some t' => K t'
 |none => K t
def aCj (k : IntKind) (x : Tm) (K : Tm → Bool) : Bool := match x with
 |.l a => yG (iW k a) fun n => K (.l n)
 |x => match rng H x with
  |(a, b) => cnd (decide (k.min ≤ a) && decide (b ≤ k.max)) (K x) (sK H (.o .conv k x (.l 0)) K)
def addF (h : Hp) (b : BE) (r : Bool) (K : Hp → Bool) : Bool := match h with
 |⟨hp, us, nx, pc, ro⟩ => K ⟨hp, us, nx, (b, r) :: pc, ro⟩
def brk0 (b : BE) (h : Hp) (t e : Hp → Bool) : Bool := match decB H h.pc b with
 |some r => cnd r (t h) (e h)
 |none => both (addF h b true t) (addF h b false e)
def brk (b : BE) (h : Hp) (t e : Hp → Bool) : Bool := match b with
 |.tt => t h
 |.ff => e h
 |.no b => brk0 H b h e t
 |b => brk0 H b h t e
def concL (t : Tm) (lo : Int) : Nat → Hp → (Int → Hp → Bool) → Bool
 |0, _, _ => true
 |n + 1, h, K => both (yG (lo + n) fun m => brk H (.eq t (.l m)) h (fun h => K m h) (fun _ => true)) (concL t lo n h K)
def aBk (t : Tm) (h : Hp) (K : Int → Hp → Bool) : Bool := match t with
 |.l n => K n h
 |t => match nrm h.pc t with
  |.l n => yG n fun n => K n h
  |_ => match rng H t with
   |(a, b) => cnd (decide (b - a ≤ 64)) (concL H t a (b - a + 1).toNat h K) false
def back (op : TO) (k : IntKind) (x y : Tm) : Option Tm := match op with
 |.sub => match x with
  |.o .add k' a b => cnd (Nat.beq (jA k) (jA k') && a.beq y) (match rng H a, rng H b with
   |(p, q), (r, s) => cnd (decide (k.min ≤ p + r) && decide (q + s ≤ k.max) && decide (k.min ≤ r) && decide (s ≤ k.max)) (some b) none) none
  |_ => none
 |_ => none
def mkO (op : TO) (k : IntKind) (x y : Tm) (h : Hp) (K : Tm → Hp → Bool) : Bool := match x with
 |.l a => match y with
  |.l b => yG (op.run k a b) fun n => K (.l n) h
  |y => cnd (H.cz (.o op k x y)) (aBk H (.o op k x y) h fun n h => K (.l n) h) (sK H (.o op k x y) fun t => K t h)
 |x => match back H op k x y with
  |some t => K t h
  |none => cnd (H.cz (.o op k x y)) (aBk H (.o op k x y) h fun n h => K (.l n) h) (sK H (.o op k x y) fun t => K t h)
abbrev pvi (k : IntKind) (t : Tm) : SV := .pv (.one (.i k t))
abbrev pvb (b : BE) : SV := .pv (.one (.b b))
def aAW (x y : Tm) (e : BE) : BE := match x, y with
 |.l a, .l b => match e with
  |.lt _ _ => .lit (decide (a < b))
  |.le _ _ => .lit (decide (a ≤ b))
  |.eq _ _ => .lit (aAH a b)
  |e => e
 |_, _ => e
def binI (op : BinOp) (k k' : IntKind) (a b : Tm) (h : Hp) (K : SV → Hp → Bool) : Bool := match op with
 |.shl => brk H (aAW (.l 0) b (.le (.l 0) b)) h (fun h => mkO H .shl k a b h fun t h => K (pvi k t) h) (fun _ => false)
 |.shr => brk H (aAW (.l 0) b (.le (.l 0) b)) h (fun h => mkO H .shr k a b h fun t h => K (pvi k t) h) (fun _ => false)
 |op => cnd (Nat.beq (jA k) (jA k')) (match op with
  |.add => mkO H .add k a b h fun t h => K (pvi k t) h
  |.sub => mkO H .sub k a b h fun t h => K (pvi k t) h
  |.mul => mkO H .mul k a b h fun t h => K (pvi k t) h
  |.quo => brk H (aAW b (.l 0) (.eq b (.l 0))) h (fun _ => false) (fun h => mkO H .quo k a b h fun t h => K (pvi k t) h)
  |.rem => brk H (aAW b (.l 0) (.eq b (.l 0))) h (fun _ => false) (fun h => mkO H .rem k a b h fun t h => K (pvi k t) h)
  |.and => mkO H .and k a b h fun t h => K (pvi k t) h
  |.or => mkO H .or k a b h fun t h => K (pvi k t) h
  |.xor => mkO H .xor k a b h fun t h => K (pvi k t) h
  |.andNot => mkO H .andNot k a b h fun t h => K (pvi k t) h
  |.eql => K (pvb (aAW a b (.eq a b))) h
  |.neq => K (pvb (aAW a b (.eq a b)).neg) h
  |.lss => K (pvb (aAW a b (.lt a b))) h
  |.leq => K (pvb (aAW a b (.le a b))) h
  |.gtr => K (pvb (aAW b a (.lt b a))) h
  |.geq => K (pvb (aAW b a (.le b a))) h
  |_ => false) false
def eqB (a b : BE) (h : Hp) (K : BE → Hp → Bool) : Bool := brk H a h (fun h => K b h) (fun h => K b.neg h)
section
variable (P : Program)
def oN (t : Nat) : Option (List C) := match P.info? t with
 |some i => match i.zero with
  |some v => mQ v.cells.toList
  |none => none
 |none => none
def jV (t : Nat) : Option Bool := match P.underlying t with
 |some (.struct _) => some true
 |some (.array _ _) => some true
 |some _ => some false
 |none => none
def jH (t : Nat) : Option Nat := match P.info? t with
 |some i => some i.size
 |none => none
def takeO : List C → Nat → Option (List C)
 |_, 0 => some []
 |[], _ + 1 => none
 |c :: r, n + 1 => match takeO r n with
  |some q => some (c :: q)
  |none => none
def dropO : List C → Nat → Option (List C)
 |l, 0 => some l
 |[], _ + 1 => none
 |_ :: r, n + 1 => dropO r n
def subO (cs : List C) (o n : Nat) : Option (List C) := match dropO cs o with
 |some r => takeO r n
 |none => none
def nth : List C → Nat → Option C
 |[], _ => none
 |c :: _, 0 => some c
 |_ :: r, n + 1 => nth r n
def sH (t : Nat) (cs : List C) (o : Nat) : Option PV := match jV P t with
 |some true => match jH P t with
  |some n => match subO cs o n with
   |some r => some (.agg r)
   |none => none
  |none => none
 |some false => match nth cs o with
  |some c => some (.one c)
  |none => none
 |none => none
def xI : List C → Nat → List C → (List C → Bool) → Bool
 |l, 0, new, K => go l new K
 |[], _ + 1, _, _ => false
 |c :: r, n + 1, new, K => xI r n new fun r' => K (c :: r')
 where go : List C → List C → (List C → Bool) → Bool
 |l, [], K => K l
 |[], _ :: _, _ => false
 |_ :: r, c :: q, K => go r q fun r' => K (c :: r')
def pM (env : Env) (places : List (Nat × Nat)) : List C → List (Nat × Operand) → (List C → Bool) → Bool
 |cs, [], K => K cs
 |cs, (j, x) :: r, K => match places[j]?, ev env x with
  |some (o, 1), some (.pv (.one c)) => xI cs o [c] fun cs => pM env places cs r K
  |some (o, n), some (.pv (.agg new)) => cnd (Nat.beq n new.length) (xI cs o new fun cs => pM env places cs r K) false
  |_, _ => false
abbrev KV := SV → Hp → Bool
def aA5 (env : Env) (h : Hp) (K : KV) (x : Operand) : Bool := match ev env x with
 |some v => K v h
 |none => false
def vPick (env : Env) (h : Hp) (K : KV) (c a b : Operand) : Bool := match ev env c with
 |some (.pv (.one (.b e))) => brk H e h (fun h => aA5 env h K a) (fun h => aA5 env h K b)
 |_ => false
def vBinB (h : Hp) (K : KV) (op : BinOp) (a b : BE) : Bool := match op with
 |.eql => eqB H a b h fun e h => K (pvb e) h
 |.neq => eqB H a b h fun e h => K (pvb e.neg) h
 |_ => false
def isNil (h : Hp) (c : C) : Option Bool := match c with
 |.nil => some true
 |.sl _ _ _ _ => some false
 |.u g => match look h.us g with
  |some (.em _) => some false
  |_ => none
 |_ => none
def vBinP (h : Hp) (K : KV) (op : BinOp) (t : Nat) (x y : PV) : Bool := match x with
 |.agg _ => false
 |.one a => match y with
  |.agg _ => false
  |.one b => match a with
   |.i k a => match b with
    |.i k' b => binI H op k k' a b h K
    |_ => false
   |.b a => match b with
    |.b b => match P.underlying t with
     |some .bool => vBinB H h K op a b
     |_ => false
    |_ => false
   |a => match b with
    |.nil => match P.underlying t with
     |some (.slice _) => match isNil h a with
      |some r => match op with
       |.eql => K (pvb (.lit r)) h
       |.neq => K (pvb (.lit (!r))) h
       |_ => false
      |none => false
     |_ => false
    |_ => false
def vBin (env : Env) (h : Hp) (K : KV) (op : BinOp) (t : Nat) (x y : Operand) : Bool := match ev env x with
 |some (.pv x) => match ev env y with
  |some (.pv y) => vBinP H P h K op t x y
  |_ => false
 |_ => false
def vUn (env : Env) (h : Hp) (K : KV) (op : UnOp) (x : Operand) : Bool := match ev env x with
 |some (.pv (.one (.i k a))) => match op with
  |.neg => mkO H .neg k a (.l 0) h fun t h => K (pvi k t) h
  |.xor => mkO H .com k a (.l 0) h fun t h => K (pvi k t) h
  |_ => false
 |some (.pv (.one (.b a))) => match op with
  |.not => K (pvb a.neg) h
  |_ => false
 |_ => false
def vConv (env : Env) (h : Hp) (K : KV) (s t : Nat) (x : Operand) : Bool := match P.underlying s with
 |some _ => match P.underlying t with
  |some (.int k) => match ev env x with
   |some (.pv (.one (.i _ a))) => aCj H k a fun t => K (pvi k t) h
   |_ => false
  |_ => false
 |none => false
def rF (env : Env) (h : Hp) (K : KV) (t : Nat) (x : Operand) (f : Nat) : Bool := match P.underlying t with
 |some (.struct fs) => match fs[f]? with
  |some fd => match jH P fd.type with
   |some (_ + 1) => match ev env x with
    |some (.pv (.one (.p g o))) => iG (Nat.add o fd.offset) fun o => K (.pv (.one (.p g o))) h
    |_ => false
   |_ => false
  |none => false
 |_ => false
def aBQ (env : Env) (h : Hp) (K : KV) (t : Nat) (x : Operand) (f : Nat) : Bool := match P.underlying t with
 |some (.struct fs) => match fs[f]? with
  |some fd => match ev env x with
   |some (.pv (.agg ss)) => match sH P fd.type ss fd.offset with
    |some v => K (.pv v) h
    |none => false
   |_ => false
  |none => false
 |_ => false
def vIx (j : Tm) (n : Nat) (h : Hp) (K : Nat → Hp → Bool) : Bool := aBk H j h fun j h => match j with
 |.ofNat j => cnd (Nat.blt j n) (iG j fun j => K j h) false
 |.negSucc _ => false
def vBd (j : Tm) (n : Nat) (h : Hp) (K : Hp → Bool) : Bool := brk H (.le (.l 0) j) h (fun h => brk H (.lt j (.l n)) h K fun _ => false) fun _ => false
def isSym (pc : Facts) (j : Tm) : Bool := match nrm pc j with
 |.l _ => false
 |_ => true
def pick (j : Tm) : Nat → List C → Option (IntKind × Tm)
 |_, [.i k t] => some (k, t)
 |n, .i k t :: r => match pick j (Nat.succ n) r with
  |some (k', u) => cnd (Nat.beq (jA k) (jA k')) (some (k, .pk j n t u)) none
  |none => none
 |_, _ => none
def isNums (h : Hp) (g o n : Nat) : Bool := match look h.heap g with
 |some (_, _, _, cs) => match subO cs o n with
  |some q => match pick (.l 0) 0 q with
   |some _ => true
   |none => false
  |none => false
 |none => false
def rO (env : Env) (h : Hp) (K : KV) (t : Nat) (x i : Operand) : Bool := match ev env i with
 |some (.pv (.one (.i _ j))) => match ev env x with
  |some (.pv (.one c)) => match P.underlying t with
   |some (.array n e) => match c with
    |.p g o => match jH P e with
     |some z => vIx H j n h fun j h => iG (Nat.add o (Nat.mul j z)) fun o => K (.pv (.one (.p g o))) h
     |none => false
    |_ => false
   |some (.slice e) => match c with
    |.sl g o z n => match jH P e with
     |some z' => cnd (Nat.beq z z') (cnd (isSym h.pc j && Nat.beq z 1 && isNums h g o n) (vBd H j n h fun h => K (.pv (.one (.pd g o n j))) h) (vIx H j n h fun j h => iG (Nat.mul (Nat.add o j) z) fun o => K (.pv (.one (.p g o))) h)) false
     |none => false
    |.u g => match jH P e with
     |some 1 => match look h.us g with
      |some (.ro _ t) => brk H (aAW (.l 0) j (.le (.l 0) j)) h (fun h => brk H (.lt j (.len t)) h (fun h => K (.pv (.one (.pu g t j))) h) (fun _ => false)) (fun _ => false)
      |_ => false
     |_ => false
    |_ => false
   |_ => false
  |_ => false
 |_ => false
def aCu (env : Env) (h : Hp) (K : KV) (t : Nat) (x i : Operand) : Bool := match P.underlying t with
 |some (.array n e) => match jH P e with
  |some z => match ev env x with
   |some (.pv (.agg ss)) => match ev env i with
    |some (.pv (.one (.i _ j))) => vIx H j n h fun j h => match sH P e ss (Nat.mul j z) with
     |some v => K (.pv v) h
     |none => false
    |_ => false
   |_ => false
  |none => false
 |_ => false
def wT (env : Env) (h : Hp) (K : KV) (x : Operand) (i : Nat) : Bool := match ev env x with
 |some (.tup vs) => match vs[i]? with
  |some v => K (.pv v) h
  |none => false
 |_ => false
def xR (env : Env) (h : Hp) (K : KV) (x : Operand) : Bool := match ev env x with
 |some (.pv (.one (.p g o))) => K (.pv (.one (.p g o))) h
 |_ => false
def aCV (env : Env) (h : Hp) (K : KV) (t : Nat) (ps : Array (Nat × Operand)) : Bool := match P.underlying t with
 |some (.struct fs) => match fs.toList.mapM (fun f => (P.info? f.type).map fun i => (f.offset, i.size)) with
  |some places => match oN P t with
   |some cs => pM env places cs ps.toList fun cs => K (.pv (.agg cs)) h
   |none => false
  |none => false
 |some (.array n e) => match P.info? e with
  |some ie => match oN P t with
   |some cs => pM env ((List.range n).map fun i => (i * ie.size, ie.size)) cs ps.toList fun cs => K (.pv (.agg cs)) h
   |none => false
  |none => false
 |_ => false
def lenC (h : Hp) (K : KV) (c : C) : Bool := match c with
 |.sl _ _ _ n => cnd (Nat.ble n aBv) (iG n fun n => K (pvi .i64 (.l (.ofNat n))) h) false
 |.nil => K (pvi .i64 (.l (.ofNat 0))) h
 |.u g => match look h.us g with
  |some (.ro _ t) => K (pvi .i64 (.len t)) h
  |some (.em _) => K (pvi .i64 (.l (.ofNat 0))) h
  |_ => false
 |_ => false
def vLen (env : Env) (h : Hp) (K : KV) (t : Nat) (x : Operand) : Bool := match P.underlying t with
 |some (.slice _) => match ev env x with
  |some (.pv (.one c)) => lenC h K c
  |_ => false
 |_ => false
def vMM (env : Env) (h : Hp) (K : KV) (op : TO) (args : List Operand) : Bool := match evs env args with
 |some [.one (.i k a), .one (.i k' b)] => cnd (Nat.beq (jA k) (jA k')) (mkO H op k a b h fun t h => K (pvi k t) h) false
 |_ => false
def sQ (env : Env) (h : Hp) (K : KV) (b : Builtin) (args : List Operand) (ts : List Nat) : Bool := match b with
 |.len => match args with
  |[x] => match ts with
   |[t] => vLen P env h K t x
   |_ => false
  |_ => false
 |.min => vMM H env h K .mn args
 |.max => vMM H env h K .mx args
 |_ => false
def sJ (op : Op) (env : Env) (h : Hp) (K : KV) : Bool := match op with
 |.move x => aA5 env h K x
 |.assign x => aA5 env h K x
 |.pick c a b => vPick H env h K c a b
 |.binOp op t x y _ => vBin H P env h K op t x y
 |.unOp op _ x => vUn H env h K op x
 |.convert s t x => vConv H P env h K s t x
 |.fieldAddr t x f => rF P env h K t x f
 |.field t x f => aBQ P env h K t x f
 |.indexAddr t x i => rO H P env h K t x i
 |.index t x i => aCu H P env h K t x i
 |.extract x i => wT env h K x i
 |.nilCheck x => xR env h K x
 |.build t ps => aCV P env h K t ps
 |.call c => match c.callee with
  |.builtin b => sQ H P env h K b c.args.toList c.argTypes.toList
  |_ => false
 |_ => false
def sF (t : Nat) (h : Hp) : C → Option PV
 |.p g o => match look h.heap g with
  |some (_, _, _, cs) => sH P t cs o
  |none => none
 |.pd g o n j => match jV P t, look h.heap g with
  |some false, some (_, _, _, cs) => match subO cs o n with
   |some q => match pick j 0 q with
    |some (k, t) => some (.one (.i k t))
    |none => none
   |none => none
  |_, _ => none
 |.pu g l j => match jV P t, look h.us g with
  |some false, some (.ro k l') => cnd (l.beq l') (some (.one (.i k (.sel k l j)))) none
  |_, _ => none
 |_ => none
def PV.cells : PV → List C
 |.one c => [c]
 |.agg cs => cs
def jZ (h : Hp) (z : Nat) : C → Option (List C)
 |.nil => some []
 |.sl g o z' n => cnd (Nat.beq z z') (match look h.heap g with
  |some (_, zb, _, cs) => cnd (Nat.beq z zb) (subO cs (o * z) (n * z)) none
  |none => none) none
 |.u g => match look h.us g with
  |some (.em _) => some []
  |_ => none
 |_ => none
def catK : List C → List C → (List C → Bool) → Bool
 |[], q, K => K q
 |c :: r, q, K => catK r q fun l => K (c :: l)
def repK : Nat → List C → (List C → Bool) → Bool
 |0, _, K => K []
 |n + 1, z, K => repK n z fun l => catK z l K
abbrev uA := Nat → List PV → Hp → (SV → Hp → Bool) → Bool
variable (nt : Nat) (call : uA)
def okD (nt : Nat) : Option Nat → Bool
 |some d => Nat.blt d nt
 |none => true
def aCM (sl : Option Nat) (s : St) (d : Option Nat) (e z : Nat) (cs : List C) (v : Nat → C) (K : St → Bool) : Bool := match s with
 |⟨env, ⟨hp, us, nx, pc, ro⟩⟩ => match sl with
  |none => iG (Nat.succ nx) fun nx' => aAN hp nx (e, z, true, cs) fun hp => stK ⟨env, ⟨hp, us, nx', pc, ro⟩⟩ d (.pv (.one (v nx))) K
  |some g => aAN hp g (e, z, true, cs) fun hp => stK ⟨env, ⟨hp, us, nx, pc, ro⟩⟩ d (.pv (.one (v g))) K
def newU (sl : Option Nat) (s : St) (d : Option Nat) (u : UI) (K : St → Bool) : Bool := match s with
 |⟨env, ⟨hp, us, nx, pc, ro⟩⟩ => match sl with
  |none => iG (Nat.succ nx) fun nx' => aAN us nx u fun us => stK ⟨env, ⟨hp, us, nx', pc, ro⟩⟩ d (.pv (.one (.u nx))) K
  |some g => aAN us g u fun us => stK ⟨env, ⟨hp, us, nx, pc, ro⟩⟩ d (.pv (.one (.u g))) K
def calls (call : uA) (cm : Bool) (f : Nat) (vs : List PV) (h : Hp) (K : SV → Hp → Bool) : Bool := match cm with
 |false => call f vs h K
 |true => match h with
  |⟨hp, us, nx, pc, ro⟩ => call f vs ⟨hp, us, nx, pc, nx⟩ fun v h' => match h' with
   |⟨hp, us, nx, pc, _⟩ => K v ⟨hp, us, nx, pc, ro⟩
abbrev KS := St → Bool
def setH (s : St) (g : Nat) (b : Nat × Nat × Bool × List C) (K : St → Bool) : Bool := match s with
 |⟨env, ⟨hp, us, nx, pc, ro⟩⟩ => aAN hp g b fun hp => K ⟨env, ⟨hp, us, nx, pc, ro⟩⟩
def delH (s : St) (g : Nat) (K : St → Bool) : Bool := match s with
 |⟨env, ⟨hp, us, nx, pc, ro⟩⟩ => delK hp g fun hp => K ⟨env, ⟨hp, us, nx, pc, ro⟩⟩
def aBD (sl : Option Nat) (o : Option Nat) (s : St) (K : KS) (t : Nat) : Bool := match oN P t with
 |some cs => aCM sl s o t cs.length cs (fun g => .p g 0) K
 |none => false
def oBox (sl : Option Nat) (o : Option Nat) (s : St) (K : KS) (t : Nat) (x : Operand) : Bool := match ev s.env x with
 |some (.pv v) => aCM sl s o t v.cells.length v.cells (fun g => .p g 0) K
 |_ => false
def yX (h0 : Hp) (o : Option Nat) (s : St) (K : KS) (t : Nat) (x : Operand) : Bool := match ev s.env x with
 |some (.pv (.one c)) => match sF P t h0 c with
  |some v => stK s o (.pv v) K
  |none => false
 |_ => false
def aCB (o : Option Nat) (s : St) (K : KS) (t : Nat) (x y : Operand) : Bool := match ev s.env x with
 |some (.pv (.one (.p g a))) => match ev s.env y with
  |some (.pv v) => match look s.h.heap g with
   |some (e, z, true, cs) => match jH P t with
    |some n => cnd (Nat.beq n v.cells.length && Nat.ble s.h.ro g) (xI cs a v.cells fun cs => setH s g (e, z, true, cs) fun s => stK s o .und K) false
    |_ => false
   |_ => false
  |_ => false
 |_ => false
def pG (sl : Option Nat) (o : Option Nat) (s : St) (K : KS) (t len : Nat) (ps : Array (Nat × Operand)) : Bool := match P.underlying t with
 |some (.slice e) => match jH P e, oN P e with
  |some z, some z0 => cnd (Nat.blt 0 z && Nat.ble (len * z) 1000000 && Nat.beq z z0.length) (repK len z0 fun cs => pM s.env ((List.range len).map fun i => (i * z, z)) cs ps.toList fun cs => aCM sl s o e z cs (fun g => .sl g 0 z len) K) false
  |_, _ => false
 |_ => false
def rG (sl : Option Nat) (o : Option Nat) (s : St) (K : KS) (t : Nat) (x y : Operand) : Bool := match P.underlying t, ev s.env x, ev s.env y with
 |some (.slice e), some (.pv (.one (.i _ a))), some (.pv (.one (.i _ b))) => match jH P e, oN P e, P.info? e with
  |some z, some z0, some ie => aBk H a s.h fun a h => aBk H b h fun b h => cnd (decide (0 ≤ a) && aAH a b && Nat.blt 0 z && Nat.beq z z0.length && Nat.ble (a.toNat * z) 1000000 && Nat.ble (ie.bytes * a.toNat) 1000000000) (iG a.toNat fun n => repK n z0 fun cs => aCM sl ⟨s.env, h⟩ o e z cs (fun g => .sl g 0 z n) K) false
  |_, _, _ => false
 |_, _, _ => false
def uZ (sl : Option Nat) (o : Option Nat) (s : St) (K : KS) (f : Fn) (first caps : Array Operand) : Bool := match f with
 |.func f => cnd (Nat.beq first.size 0) (match evs s.env caps.toList with
  |some vs => newU sl s o (.clo f vs) K
  |none => false) false
 |_ => false
def aCZ (sl : Option Nat) (o : Option Nat) (s : St) (K : KS) (c : C) (lo hi m : Tm) : Bool := aBk H lo s.h fun lo h => aBk H hi h fun hi h => aBk H m h fun m h => cnd (aAH lo 0 && aAH hi 0 && aAH m 0) (match c with
 |.nil => stK ⟨s.env, h⟩ o (.pv (.one .nil)) K
 |.sl _ _ _ _ => newU sl ⟨s.env, h⟩ o (.em true) K
 |_ => false) false
def aDe (sl : Option Nat) (o : Option Nat) (s : St) (K : KS) (g a z n : Nat) (lo hi : Tm) : Bool := aBk H lo s.h fun lo h => aBk H hi h fun hi h => cnd (decide (0 ≤ lo) && decide (lo ≤ hi) && decide (hi ≤ (n : Int)) && Nat.blt 0 z) (iG (a + lo.toNat) fun a => iG (hi - lo).toNat fun n => cnd (Nat.blt 0 n || aAH lo 0) (stK ⟨s.env, h⟩ o (.pv (.one (.sl g a z n))) K) (newU sl ⟨s.env, h⟩ o (.em false) K)) false
def evI (env : Env) (x : Option Operand) (d : Tm) : Option Tm := match x with
 |none => some d
 |some x => match ev env x with
  |some (.pv (.one (.i _ t))) => some t
  |_ => none
def aCI (sl : Option Nat) (o : Option Nat) (s : St) (K : KS) (t : Nat) (x : Operand) (lo hi mx : Option Operand) : Bool := match P.underlying t with
 |some (.slice e) => match jH P e with
  |some z => match ev s.env x with
   |some (.pv (.one c)) => match mx with
    |some mx => match evI s.env lo (.l 0), hi, evI s.env (some mx) (.l 0) with
     |some lo, some hi, some m => match evI s.env (some hi) (.l 0) with
      |some hi => aCZ H sl o s K c lo hi m
      |none => false
     |_, _, _ => false
    |none => match c with
     |.sl g a z' n => match jZ s.h z (.sl g a z' n) with
      |some _ => match evI s.env lo (.l 0), evI s.env hi (.l n) with
       |some lo, some hi => aDe H sl o s K g a z n lo hi
       |_, _ => false
      |none => false
     |_ => false
   |_ => false
  |none => false
 |_ => false
def nSl : C → Nat
 |.sl _ _ _ n => n
 |_ => 0
def isSl : C → Bool
 |.sl _ _ _ _ => true
 |_ => false
def canW (h : Hp) (g e z : Nat) : Bool := match look h.heap g with
 |some (e', z', w, _) => w && Nat.beq e e' && Nat.beq z z'
 |none => false
def oAppC (sl : Option Nat) (o : Option Nat) (s : St) (K : KS) (e z by_ : Nat) (a b : C) : Bool := match jZ s.h z b with
 |some [] => match jZ s.h z a with
  |some _ => stK s o (.pv (.one a)) K
  |none => false
 |some news => cnd (isSl b) (match a with
  |.sl g 0 z' n => match jZ s.h z (.sl g 0 z' n) with
   |some olds => cnd (canW s.h g e z) (cnd (Nat.ble ((n + nSl b) * by_) 1000000000 && Nat.ble (n + nSl b) 1000000 && Nat.ble s.h.ro g) (delH s g fun s => catK olds news fun cs => iG (n + nSl b) fun l => aCM sl s o e z cs (fun g => .sl g 0 z l) K) false) false
   |none => false
  |.nil => cnd (Nat.ble (nSl b * by_) 1000000000 && Nat.ble (nSl b) 1000000) (iG (nSl b) fun m => aCM sl s o e z news (fun g => .sl g 0 z m) K) false
  |.u g => match look s.h.us g with
   |some (.em true) => cnd (Nat.ble (nSl b * by_) 1000000000 && Nat.ble (nSl b) 1000000) (iG (nSl b) fun m => aCM sl s o e z news (fun g => .sl g 0 z m) K) false
   |_ => false
  |_ => false) false
 |none => false
def aAn (sl : Option Nat) (o : Option Nat) (s : St) (K : KS) (args : List Operand) (ts : List Nat) : Bool := match args, ts with
 |[x, y], [t, t'] => cnd (Nat.beq t t') (match P.underlying t with
  |some (.slice e) => match jH P e, oN P e, P.info? e with
   |some z, some z0, some ie => cnd (Nat.blt 0 z && Nat.beq z z0.length) (match ev s.env x, ev s.env y with
    |some (.pv (.one a)), some (.pv (.one b)) => oAppC sl o s K e z ie.bytes a b
    |_, _ => false) false
   |_, _, _ => false
  |_ => false) false
 |_, _ => false
def oCall (cm : Bool) (o : Option Nat) (s : St) (K : KS) (f : Nat) (args : List Operand) : Bool := match evs s.env args with
 |some vs => calls call cm f vs s.h fun v h => stK ⟨s.env, h⟩ o v K
 |_ => false
def oCallT (cm : Bool) (o : Option Nat) (s : St) (K : KS) (x : Nat) (args : List Operand) : Bool := match look s.env x with
 |some (.pv (.one (.u g))) => match look s.h.us g with
  |some (.clo f caps) => match evs s.env args with
   |some vs => calls call cm f (vs ++ caps) s.h fun v h => stK ⟨s.env, h⟩ o v K
   |none => false
  |_ => false
 |some (.pv (.one (.fn f))) => match evs s.env args with
  |some vs => calls call cm f vs s.h fun v h => stK ⟨s.env, h⟩ o v K
  |none => false
 |_ => false
def oCalls (sl : Option Nat) (cm : Bool) (o : Option Nat) (s : St) (K : KS) (c : Call) : Bool := match c.callee with
 |.builtin b => match b with
  |.append => aAn P sl o s K c.args.toList c.argTypes.toList
  |b => sQ H P s.env s.h (fun v h => stK ⟨s.env, h⟩ o v K) b c.args.toList c.argTypes.toList
 |.value f => match f with
  |.func f => oCall call cm o s K f c.args.toList
  |.tmp x => oCallT call cm o s K x c.args.toList
  |_ => false
 |_ => false
def aCY (sl : Option Nat) (cm : Bool) (o : Oper) (s : St) (K : KS) : Bool := cnd (okD nt o.dst) (match o.op with
 |.alloc t => aBD P sl o.dst s K t
 |.box t x => oBox sl o.dst s K t x
 |.load t x => yX P s.h o.dst s K t x
 |.store t x y => aCB P o.dst s K t x y
 |.buildSlice t len ps => pG P sl o.dst s K t len ps
 |.makeSlice t x y => rG H P sl o.dst s K t x y
 |.makeFunc f first caps => uZ sl o.dst s K f first caps
 |.slice t x lo hi mx => aCI H P sl o.dst s K t x lo hi mx
 |.call c => oCalls H P call sl cm o.dst s K c
 |op => sJ H P op s.env s.h fun v h => stK ⟨s.env, h⟩ o.dst v K) false
def guarded (ops : Array Oper) (o : Oper) (s : St) (yes no : St → Bool) : Bool := match o.guard with
 |none => yes s
 |some (j, want) => match (ops[j]?).bind (·.dst) with
  |none => false
  |some t => match look s.env t with
   |some .und => no s
   |some (.pv (.one (.b e))) => brk H e s.h (fun h => cnd want (yes ⟨s.env, h⟩) (no ⟨s.env, h⟩)) (fun h => cnd want (no ⟨s.env, h⟩) (yes ⟨s.env, h⟩))
   |_ => false
def jS (o : Oper) (s : St) (K : St → Bool) : Bool := cnd (okD nt o.dst) (stK s o.dst .und K) false
def uC (ops : Array Oper) : List Oper → St → (St → Bool) → Bool
 |[], s, K => K s
 |o :: r, s, K => guarded H ops o s (fun s => aCY H P nt call none false o s (fun s => uC ops r s K)) (fun s => jS nt o s (fun s => uC ops r s K))
def o9 : Op → Bool
 |.move _ | .assign _ | .pick .. | .binOp .. | .unOp .. | .convert .. | .fieldAddr .. | .field .. | .indexAddr .. | .index .. | .extract .. | .nilCheck _ | .build .. => true
 |.call { callee := .builtin .len, .. } => true
 |.call { callee := .builtin .min, .. } => true
 |.call { callee := .builtin .max, .. } => true
 |_ => false
def isLoad : Op → Bool
 |.load .. => true
 |_ => false
def iV : Op → Bool
 |.store .. => true
 |.call { callee := .builtin .append, .. } => true
 |_ => false
def pE (ops : Array Oper) (i : Nat) : Bool := match ops[i]? with
 |some o => o9 o.op
 |none => false
def loadAt (ops : Array Oper) (i : Nat) : Bool := match ops[i]? with
 |some o => isLoad o.op
 |none => false
def dN (ops : Array Oper) : List Nat := (List.range ops.size).filter fun i => match ops[i]? with
 |some o => iV o.op
 |none => false
def masks (T : List (List Nat × List Nat)) : List Nat := T.foldl (fun acc r => acc ++ [upM acc acc.length r.1]) []
def allB : List Nat → (Nat → Bool) → Bool
 |[], _ => true
 |i :: r, f => both (f i) (allB r f)
def wU (b : Bool) : Bool := Bool.casesOn b false true
def setB : Nat → List Bool → (List Bool → Bool) → Bool
 |_, [], K => K []
 |0, _ :: r, K => K (true :: r)
 |i + 1, b :: r, K => setB i r fun r => K (b :: r)
def jN (ops : Array Oper) (T : Bool × List (List Nat × List Nat)) (B : List Nat) (ds : List Nat) (h0 : Hp) (base : Nat) : Nat → List Bool → St → (St → Bool) → Bool
 |0, l, s, K => match readyT T.2 l with
  |[] => K s
  |_ => false
 |f + 1, l, s, K => match readyT T.2 l with
  |[] => K s
  |rs => match rs.find? (fun i => pE ops i && anyT T l (l.set i true) i) with
   |some i => match ops[i]? with
    |some o => guarded H ops o s (fun s => cnd (okD nt o.dst) (sJ H P o.op s.env s.h (fun v h => stK ⟨s.env, h⟩ o.dst v fun s => setB i l fun l => jN ops T B ds h0 base f l s K)) false) (fun s => jS nt o s (fun s => setB i l fun l => jN ops T B ds h0 base f l s K))
    |none => false
   |none => match rs.find? (fun i => loadAt ops i && takeW T B ds l (l.set i true) i && ds.all (fun d => !(l.getD d true))) with
    |some i => match ops[i]? with
     |some o => guarded H ops o s (fun s => cnd (okD nt o.dst) (match o.op with
       |.load t x => yX P h0 o.dst s (fun s => setB i l fun l => jN ops T B ds h0 base f l s K) t x
       |_ => false) false) (fun s => jS nt o s (fun s => setB i l fun l => jN ops T B ds h0 base f l s K))
     |none => false
    |none => allB rs fun i => match ops[i]? with
     |some o => guarded H ops o s (fun s => aCY H P nt call (some (Nat.add base i)) true o s (fun s => setB i l fun l => wU (jN ops T B ds h0 base f l s K))) (fun s => jS nt o s (fun s => setB i l fun l => wU (jN ops T B ds h0 base f l s K)))
     |none => false
structure Rw where
 b : Nat
 p : Nat
 f : Nat
 k : Nat
def lH : List Nat → Nat
 |[] => 0
 |j :: r => Nat.lor (Nat.pow 2 j) (lH r)
def sD (ops : Array Oper) (i : Nat) : Nat := match ops[i]? with
 |some o => cnd (o9 o.op) 0 (cnd (isLoad o.op) 1 2)
 |none => 2
def mJ (ops : Array Oper) (n : Nat) : Nat → List (List Nat × List Nat) → List Rw
 |_, [] => []
 |i, r :: q => ⟨Nat.pow 2 i, lH r.1, lH (r.2.filter fun j => Nat.blt j n), sD ops i⟩ :: mJ ops n (Nat.succ i) q
def lastM (n : Nat) (B ds : List Nat) (i : Nat) : Bool := ds.all fun d => decide (d < n) && (B.getD d 0).testBit i
inductive Stp where
 |done
 |pure (i : Nat)
 |load (i : Nat)
 |all (rs : List Nat)
def qL : List Rw → Nat → Nat → List Nat
 |[], _, _ => []
 |r :: q, i, d => cnd (Nat.beq (Nat.land d r.b) 0) (cnd (Nat.beq (Nat.land d r.p) r.p) (i :: qL q (Nat.succ i) d) (qL q (Nat.succ i) d)) (qL q (Nat.succ i) d)
def oO : List Rw → Nat → Bool
 |[], _ => true
 |r :: q, d => cnd (Nat.beq (Nat.land d r.b) 0) (oO q d) (cnd (Nat.beq (Nat.land d r.p) r.p) (oO q d) false)
def okM (rows : List Rw) (k d i : Nat) : Bool := match rows[i]? with
 |some r => cnd (Nat.beq r.k k) (Nat.beq (Nat.land d r.f) r.f) false
 |none => false
def stepM (ops : Array Oper) (T : Bool × List (List Nat × List Nat)) (B ds : List Nat) (rows : List Rw) (st d : Nat) : Stp := match qL rows 0 d with
 |[] => .done
 |rs => match cnd T.1 (rs.find? fun i => okM rows 0 d i) none with
  |some i => .pure i
  |none => match cnd (Nat.beq (Nat.land d st) 0) (cnd T.1 (cnd (oO rows d) (rs.find? fun i => okM rows 1 d i && lastM T.2.length B ds i) none) none) none with
   |some i => .load i
   |none => .all rs
def orK (d i : Nat) (K : Nat → Bool) : Bool := iG (Nat.lor d (Nat.pow 2 i)) K
def nU (ops : Array Oper) (T : Bool × List (List Nat × List Nat)) (B : List Nat) (ds : List Nat) (rows : List Rw) (st : Nat) (h0 : Hp) (base : Nat) : Nat → Nat → St → (St → Bool) → Bool
 |0, d, s, K => match stepM ops T B ds rows st d with
  |.done => K s
  |_ => false
 |f + 1, d, s, K => match stepM ops T B ds rows st d with
  |.done => K s
  |.pure i => match ops[i]? with
   |some o => guarded H ops o s (fun s => cnd (okD nt o.dst) (sJ H P o.op s.env s.h (fun v h => stK ⟨s.env, h⟩ o.dst v fun s => orK d i fun d => nU ops T B ds rows st h0 base f d s K)) false) (fun s => jS nt o s (fun s => orK d i fun d => nU ops T B ds rows st h0 base f d s K))
   |none => false
  |.load i => match ops[i]? with
   |some o => guarded H ops o s (fun s => cnd (okD nt o.dst) (match o.op with
     |.load t x => yX P h0 o.dst s (fun s => orK d i fun d => nU ops T B ds rows st h0 base f d s K) t x
     |_ => false) false) (fun s => jS nt o s (fun s => orK d i fun d => nU ops T B ds rows st h0 base f d s K))
   |none => false
  |.all rs => allB rs fun i => match ops[i]? with
   |some o => guarded H ops o s (fun s => aCY H P nt call (some (Nat.add base i)) true o s (fun s => orK d i fun d => wU (nU ops T B ds rows st h0 base f d s K))) (fun s => jS nt o s (fun s => orK d i fun d => wU (nU ops T B ds rows st h0 base f d s K)))
   |none => false
def stM (n : Nat) (ds : List Nat) : Nat := lH (ds.filter fun d => Nat.blt d n)
def keepK (s : St) (n : Nat) (K : Nat → St → Bool) : Bool := match s with
 |⟨env, ⟨hp, us, nx, pc, ro⟩⟩ => iG (Nat.add nx n) fun nx' => K nx ⟨env, ⟨hp, us, nx', pc, ro⟩⟩
def z8 (ops : Array Oper) (draw : Bool) (s : St) (K : St → Bool) : Bool := match draw with
 |false => uC H P nt call ops ops.toList s K
 |true => cnd (P.follows .mixedOrders && waitsOk (rtab .any ops).2 (masks (rtab .any ops).2)) (keepK s ops.size fun base s => nU H P nt call ops (rtab .any ops) (masks (rtab .any ops).2) (dN ops) (mJ ops ops.size 0 (rtab .any ops).2) (stM ops.size (dN ops)) s.h base ops.size 0 s fun s => wU (K s)) false
inductive Out where
 |nor | ret
 |ex (id : Nat)
abbrev kseq (g : St → (Out → St → Bool) → Bool) (K : Out → St → Bool) : Out → St → Bool
 |.nor, s => g s K
 |o, s => K o s
abbrev kblk (id : Nat) (K : Out → St → Bool) : Out → St → Bool
 |.ex j, s => cnd (Nat.beq j id) (K .nor s) (K (.ex j) s)
 |o, s => K o s
def vJ (f : St → (Out → St → Bool) → Bool) : Nat → St → (Out → St → Bool) → Bool
 |0, _, _ => false
 |n + 1, s, K => f s (fun o s' => match o with
  |.nor => vJ f n s' K
  |o => K o s')
def evC (n : Nat) : Code → St → (Out → St → Bool) → Bool
 |.skip, s, K => K .nor s
 |.region _ ops d, s, K => z8 H P nt call ops d s (K .nor)
 |.seq a b, s, K => evC n a s (kseq (fun s K => evC n b s K) K)
 |.cond c a b, s, K => match ev s.env c with
  |some (.pv (.one (.b e))) => brk H e s.h (fun h => evC n a ⟨s.env, h⟩ K) (fun h => evC n b ⟨s.env, h⟩ K)
  |_ => false
 |.block id c, s, K => evC n c s (kblk id K)
 |.loop c, s, K => vJ (fun s K => evC n c s K) n s K
 |.exit id, s, K => K (.ex id) s
 |.ret, s, K => K .ret s
 |_, _, _ => false
end
def aDo (P : Program) (s : St) : ResultVar → Option PV
 |.tmp t => match look s.env t with
  |some (.pv v) => some v
  |_ => none
 |.cell a t => match look s.env a with
  |some (.pv (.one c)) => sF P t s.h c
  |_ => none
def oK (P : Program) (s : St) : List ResultVar → Option (List PV)
 |[] => some []
 |r :: rs => match aDo P s r, oK P s rs with
  |some v, some vs => some (v :: vs)
  |_, _ => none
def tO (P : Program) (fn : Func) (s : St) : Option SV := match oK P s fn.results.toList with
 |some [v] => some (.pv v)
 |some vs => some (.tup vs)
 |none => none
def argE : List PV → Nat → Env → (Env → Bool) → Bool
 |[], _, en, K => K en
 |v :: r, i, en, K => aAN en i (.pv v) fun en => argE r (i + 1) en K
def kfin (P : Program) (fn : Func) (K : SV → Hp → Bool) : Out → St → Bool
 |.nor, s => (match tO P fn s with
  |some v => K v s.h
  |none => false)
 |.ret, s => (match tO P fn s with
  |some v => K v s.h
  |none => false)
 |_, _ => false
abbrev Fc := List PV → Hp → (SV → Hp → Bool) → Bool
abbrev Ents := List (Nat × Fc)
abbrev Fns := List (Nat × Func)
def find {α : Type} : List (Nat × α) → Nat → Option α
 |[], _ => none
 |(k, v) :: r, t => cnd (Nat.beq k t) (some v) (find r t)
def evFn (P : Program) (en : Ents) (fs : Fns) (n : Nat) : Nat → uA
 |0, _, _, _, _ => false
 |d + 1, f, args, h, K => match find en f with
  |some c => c args h K
  |none => match find fs f with
   |some fn => match fn.body with
    |some c => cnd (Nat.beq (fn.params.size + fn.nfree) args.length && Nat.ble args.length fn.ntmps) (argE args 0 .e fun env => evC H P fn.ntmps (evFn P en fs n d) n c ⟨env, h⟩ (kfin P fn K)) false
    |none => false
   |none => false
end
end
theorem bt {b t e : Bool} (h : cnd b t e = true) : (b = true ∧ t = true) ∨ (b = false ∧ e = true) := by
 cases b
 ·exact .inr ⟨rfl, h⟩
 ·exact .inl ⟨rfl, h⟩
theorem btf {b t : Bool} (h : cnd b t false = true) : b = true ∧ t = true := by
 cases b
 ·cases h
 ·exact ⟨rfl, h⟩
theorem bto {α : Type _} {b : Bool} {t e : α} : cnd b t e = if b = true then t else e := by cases b <;> rfl
theorem gF {α : Type _} {b : Bool} {x : Option α} {r : α} (h : cnd b x none = some r) : b = true ∧ x = some r := by
 cases b
 ·cases h
 ·exact ⟨rfl, h⟩
theorem kZ {a b : Bool} (h : both a b = true) : a = true ∧ b = true := by
 cases a
 ·cases h
 ·exact ⟨rfl, h⟩
theorem fO (n : Nat) (K : Nat → Bool) : iG n K = K n := by cases n <;> rfl
theorem sV (n : Int) (K : Int → Bool) : yG n K = K n := by
 cases n with
 |ofNat a => exact fO a (fun a => K (.ofNat a))
 |negSucc a => exact fO a (fun a => K (.negSucc a))
theorem uS {a b : Int} (h : aAH a b = true) : a = b := by
 unfold aAH at h
 split at h
 ·rw [Nat.eq_of_beq_eq_true h]
 ·rw [Nat.eq_of_beq_eq_true h]
 ·cases h
theorem aAL (a b : Int) : aAH a b = (a == b) := by
 cases h : aAH a b
 ·refine (beq_eq_false_iff_ne.mpr fun e => ?_).symm
  subst e
  cases a <;> simp [aAH] at h
 ·rw [uS h]; simp
theorem jG {k k' : IntKind} (h : Nat.beq (jA k) (jA k') = true) : k = k' := by cases k <;> cases k' <;> first | rfl | cases h
theorem code_v {k k' : TO} (h : Nat.beq k.code k'.code = true) : k = k' := by cases k <;> cases k' <;> first | rfl | cases h
theorem Tm.mM {x : Tm} : ∀ {y : Tm}, x.beq y = true → x = y := by
 induction x with
 |l n => intro y h; cases y <;> first | cases h | (rw [uS h])
 |v i => intro y h; cases y <;> first | cases h | (rw [Nat.eq_of_beq_eq_true h])
 |o op k x y ihx ihy =>
  intro z h
  cases z <;> first | cases h | skip
  obtain ⟨h1, h2⟩ := kZ h
  obtain ⟨h3, h4⟩ := kZ h1
  obtain ⟨h5, h6⟩ := kZ h2
  rw [code_v h3, jG h4, ihx h5, ihy h6]
 |c x y ihx ihy =>
  intro z h
  cases z <;> first | cases h | skip
  obtain ⟨h1, h2⟩ := kZ h
  rw [ihx h1, ihy h2]
 |f i x ih =>
  intro z h
  cases z <;> first | cases h | skip
  obtain ⟨h1, h2⟩ := kZ h
  rw [Nat.eq_of_beq_eq_true h1, ih h2]
 |sel k x i ihx ihi =>
  intro z h
  cases z <;> first | cases h | skip
  obtain ⟨h1, h2⟩ := kZ h
  obtain ⟨h3, h4⟩ := kZ h2
  rw [jG h1, ihx h3, ihi h4]
 |pk i n x y ihi ihx ihy =>
  intro z h
  cases z <;> first | cases h | skip
  obtain ⟨h1, h2⟩ := kZ h
  obtain ⟨h3, h4⟩ := kZ h1
  obtain ⟨h5, h6⟩ := kZ h2
  rw [ihi h3, Nat.eq_of_beq_eq_true h4, ihx h5, ihy h6]
 |len x ih =>
  intro z h
  cases z <;> first | cases h | skip
  rw [ih h]
theorem BE.mM {x : BE} : ∀ {y : BE}, x.beq y = true → x = y := by
 induction x with
 |tt => intro y h; cases y <;> first | rfl | cases h
 |ff => intro y h; cases y <;> first | rfl | cases h
 |q t => intro y h; cases y <;> first | cases h | (rw [Tm.mM h])
 |lt a b => intro y h; cases y <;> first | cases h | (obtain ⟨h1, h2⟩ := kZ h; rw [Tm.mM h1, Tm.mM h2])
 |le a b => intro y h; cases y <;> first | cases h | (obtain ⟨h1, h2⟩ := kZ h; rw [Tm.mM h1, Tm.mM h2])
 |eq a b => intro y h; cases y <;> first | cases h | (obtain ⟨h1, h2⟩ := kZ h; rw [Tm.mM h1, Tm.mM h2])
 |no b ih => intro y h; cases y <;> first | cases h | (rw [ih h])
theorem fZ (k : IntKind) (n : Int) : iW k n = k.wrap n := by
 cases k <;> first | rfl | exact (i64_w n).symm | exact (i32_w n).symm | exact (IntKind.wrap_u32 n).symm | exact (IntKind.wrap_u8 n).symm
theorem aAq {k : IntKind} {n : Int} : (Lit.int k n).wf = true ↔ k.has n := by simp [Lit.wf, IntKind.has]
theorem nI (k : IntKind) (n : Int) : k.has (k.wrap n) := aAq.1 (Go.wf_wrap k n)
theorem kS {k : IntKind} {n : Int} (h : k.has n) : k.wrap n = n := by
 obtain ⟨h1, h2⟩ := h
 cases k <;> simp [IntKind.min, IntKind.max, IntKind.signed, IntKind.bits, IntKind.wrap] at * <;> omega
theorem has_bits {op : BinOp} {k : IntKind} {a b : Int} (h : op = .and ∨ op = .or ∨ op = .xor ∨ op = .andNot) : k.has (Go.bits op k a b) := by
 rcases h with rfl | rfl | rfl | rfl <;> exact nI _ _
theorem pF (op : TO) (k : IntKind) (a b : Int) : k.has (op.run k a b) := by
 cases op <;> unfold TO.run <;> simp only [fZ] <;> first | exact nI _ _ | exact has_bits (by simp)
section
variable [Rho]
theorem Tm.l_d (n : Int) : (Tm.l n).d = n := rfl
theorem Tm.o_d (op : TO) (k : IntKind) (x y : Tm) : (Tm.o op k x y).d = op.run k x.d y.d := rfl
theorem Tm.sel_d (k : IntKind) (x i : Tm) : (Tm.sel k x i).d = k.wrap (rd x.u.lst i.d) := rfl
theorem Tm.len_d (x : Tm) : (Tm.len x).d = (min x.u.lst.length aBv : Nat) := rfl
theorem Tm.pk_d (i : Tm) (n : Nat) (x y : Tm) : (Tm.pk i n x y).d = if i.d = n then x.d else y.d := rfl
theorem BE.vL (b : BE) : b.neg.d = !b.d := by cases b <;> simp [BE.neg, BE.d]
theorem BE.tZ (b : Bool) : (BE.lit b).d = b := by cases b <;> rfl
structure vF.Ok (H : vF) : Prop where
 s : ∀ t t', H.s t = some t' → t'.d = t.d
 d : ∀ (pc : Facts) (b : BE) (r : Bool), (∀ p ∈ pc, p.1.d = p.2) → H.d pc b = some r → b.d = r
 rv : ∀ i, (H.rv i).1 ≤ (Tm.v i).d ∧ (Tm.v i).d ≤ (H.rv i).2
 rf : ∀ i x, (H.rf i).1 ≤ (Tm.f i x).d ∧ (Tm.f i x).d ≤ (H.rf i).2
def nQ (pc : Facts) : Prop := ∀ p ∈ pc, p.1.d = p.2
omit [Rho] in
theorem kr_v (k : IntKind) {n : Int} (h : k.has n) : (kr k).1 ≤ n ∧ n ≤ (kr k).2 := h
omit [Rho] in
theorem rW (k : IntKind) {lo hi n : Int} (h1 : lo ≤ n) (h2 : n ≤ hi) : (fits k lo hi).1 ≤ iW k n ∧ iW k n ≤ (fits k lo hi).2 := by
 unfold fits
 rw [bto]
 split
 ·next h =>
  rw [Bool.and_eq_true, decide_eq_true_eq, decide_eq_true_eq] at h
  have : iW k n = n := by rw [fZ]; exact kS ⟨by omega, by omega⟩
  rw [this]; exact ⟨h1, h2⟩
 ·rw [fZ]; exact nI k n
omit [Rho] in
theorem aBL {α β : Type} {c : Bool} {x y : α × β} {p : α → β → Prop} (hx : c = true → p x.1 x.2) (hy : p y.1 y.2) : p (cnd c x y).1 (cnd c x y).2 := by
 cases c
 ·exact hy
 ·exact hx rfl
variable {H : vF}
theorem vH (hH : H.Ok) (t : Tm) : (rng H t).1 ≤ t.d ∧ t.d ≤ (rng H t).2 := by
 induction t with
 |l n => exact ⟨Int.le_refl _, Int.le_refl _⟩
 |v i => exact hH.rv i
 |f i x => exact hH.rf i x
 |c x y => exact ⟨Int.le_refl _, Int.le_refl _⟩
 |sel k x i => exact kr_v k (nI _ _)
 |pk i n x y _ ihx ihy =>
  show (match rng H x, rng H y with
   |(a, b), (c, d) => (cnd (decide (a ≤ c)) a c, cnd (decide (b ≤ d)) d b)).1 ≤ _ ∧ _ ≤ (match rng H x, rng H y with
   |(a, b), (c, d) => (cnd (decide (a ≤ c)) a c, cnd (decide (b ≤ d)) d b)).2
  cases hx : rng H x with | mk a b =>
  cases hy : rng H y with | mk c d =>
  rw [hx] at ihx
  rw [hy] at ihy
  simp only [bto, decide_eq_true_eq, Tm.pk_d] at *
  constructor <;> split <;> split <;> omega
 |len x _ =>
  show 0 ≤ _ ∧ _ ≤ (9223372036854775807 : Int)
  rw [Tm.len_d]
  unfold aBv
  omega
 |o op k x y ihx ihy =>
  have hk : (kr k).1 ≤ (Tm.o op k x y).d ∧ (Tm.o op k x y).d ≤ (kr k).2 := kr_v k (by rw [Tm.o_d]; exact pF op k _ _)
  unfold rng
  cases hx : rng H x with | mk a b =>
  cases hy : rng H y with | mk c d =>
  rw [hx] at ihx
  rw [hy] at ihy
  rw [Tm.o_d] at *
  cases op <;> simp only [] at ihx ihy ⊢ <;> first | exact hk | skip
  case add => exact rW k (by omega) (by omega)
  case sub => exact rW k (by omega) (by omega)
  case mul =>
   refine aBL (p := fun u v => u ≤ _ ∧ _ ≤ v) (fun h => ?_) hk
   rw [Bool.and_eq_true, decide_eq_true_eq, decide_eq_true_eq] at h
   exact rW k (Int.mul_nonneg (by omega) (by omega)) (Int.mul_le_mul ihx.2 ihy.2 (by omega) (by omega))
  case quo =>
   refine aBL (p := fun u v => u ≤ _ ∧ _ ≤ v) (fun h => ?_) hk
   rw [Bool.and_eq_true, decide_eq_true_eq, decide_eq_true_eq] at h
   refine rW k ?_ ?_
   ·exact Int.tdiv_nonneg (by omega) (by omega)
   ·rw [Int.tdiv_eq_ediv_of_nonneg (by omega)]
    have : x.d / y.d ≤ x.d := Int.ediv_le_self _ (by omega)
    omega
  case rem =>
   refine aBL (p := fun u v => u ≤ _ ∧ _ ≤ v) (fun h => ?_) hk
   rw [Bool.and_eq_true, decide_eq_true_eq, decide_eq_true_eq] at h
   rw [show TO.run .rem k x.d y.d = iW k (Int.tmod x.d y.d) from rfl, Int.tmod_eq_emod_of_nonneg (by omega)]
   have h1 := Int.emod_nonneg x.d (show y.d ≠ 0 by omega)
   have h2 := Int.emod_lt_of_pos x.d (show 0 < y.d by omega)
   exact rW k h1 (by omega)
  case conv => exact rW k (by omega) (by omega)
  case mn =>
   refine rW k ?_ ?_
   ·rw [bto]; simp only [decide_eq_true_eq]; unfold mn; split <;> split <;> omega
   ·rw [bto]; simp only [decide_eq_true_eq]; unfold mn; split <;> split <;> omega
  case mx =>
   refine rW k ?_ ?_
   ·rw [bto]; simp only [decide_eq_true_eq]; unfold mx; split <;> split <;> omega
   ·rw [bto]; simp only [decide_eq_true_eq]; unfold mx; split <;> split <;> omega
theorem aBY {pc : Facts} (hp : nQ pc) {t : Tm} {n : Int} (h : aBx pc t = some n) : t.d = n := by
 induction pc with
 |nil => cases h
 |cons p r ih =>
  have hr : nQ r := fun q hq => hp q (List.mem_cons_of_mem _ hq)
  unfold aBx at h
  split at h
  ·cases h
  ·next x m r' heq =>
   cases heq
   rw [bto] at h
   split at h
   ·next hb =>
    cases h
    have h1 := hp _ (List.mem_cons_self ..)
    rw [← Tm.mM hb]
    exact eq_of_beq h1
   ·exact ih hr h
  ·next heq => cases heq; exact ih hr h
theorem nrm_v {pc : Facts} (hp : nQ pc) (t : Tm) : (nrm pc t).d = t.d := by
 induction t with
 |l n => rfl
 |o op k x y ihx ihy =>
  unfold nrm
  split
  ·next n h => exact (aBY hp h).symm
  ·split
   ·next a b h1 h2 =>
    rw [h1] at ihx; rw [h2] at ihy
    rw [Tm.o_d, ← ihx, ← ihy]; rfl
   ·rw [Tm.o_d, Tm.o_d, ihx, ihy]
 |_ =>
  unfold nrm
  split
  ·next n h => exact (aBY hp h).symm
  ·rfl
theorem wQ {pc : Facts} (hp : nQ pc) {b : BE} {r : Bool} (h : known pc b = some r) : b.d = r := by
 induction pc with
 |nil => cases h
 |cons p l ih =>
  obtain ⟨c, q⟩ := p
  unfold known at h
  rw [bto] at h
  split at h
  ·next hb => cases h; rw [← BE.mM hb]; exact hp _ (List.mem_cons_self ..)
  ·exact ih (fun q hq => hp q (List.mem_cons_of_mem _ hq)) h
theorem dec0_v (hH : H.Ok) {b : BE} {r : Bool} (h : dec0 H b = some r) : b.d = r := by
 unfold dec0 at h
 split at h
 ·cases h; rfl
 ·cases h; rfl
 ·next x y =>
  have hx := vH hH x
  have hy := vH hH y
  rw [bto] at h
  split at h
  ·next hb => cases h; rw [Tm.mM hb]; simp [BE.d]
  ·cases h5 : rng H x with | mk a b =>
   cases h6 : rng H y with | mk c d =>
   rw [h5] at hx
   rw [h6] at hy
   rw [h5, h6] at h
   simp only [bto, Bool.or_eq_true, Bool.and_eq_true, decide_eq_true_eq] at h hx hy
   split at h
   ·cases h
    simp only [BE.d, beq_eq_false_iff_ne]
    omega
   ·split at h
    ·cases h
     simp only [BE.d, beq_iff_eq]
     omega
    ·cases h
 ·next x y =>
  have hx := vH hH x
  have hy := vH hH y
  rw [bto] at h
  split at h
  ·next hb => cases h; rw [Tm.mM hb]; simp [BE.d]
  ·cases h5 : rng H x with | mk a b =>
   cases h6 : rng H y with | mk c d =>
   rw [h5] at hx
   rw [h6] at hy
   rw [h5, h6] at h
   simp only [bto, decide_eq_true_eq] at h hx hy
   split at h
   ·cases h; simp only [BE.d, decide_eq_true_eq]; omega
   ·split at h
    ·cases h; simp only [BE.d, decide_eq_false_iff_not]; omega
    ·cases h
 ·next x y =>
  have hx := vH hH x
  have hy := vH hH y
  rw [bto] at h
  split at h
  ·next hb => cases h; rw [Tm.mM hb]; simp [BE.d]
  ·cases h5 : rng H x with | mk a b =>
   cases h6 : rng H y with | mk c d =>
   rw [h5] at hx
   rw [h6] at hy
   rw [h5, h6] at h
   simp only [bto, decide_eq_true_eq] at h hx hy
   split at h
   ·cases h; simp only [BE.d, decide_eq_true_eq]; omega
   ·split at h
    ·cases h; simp only [BE.d, decide_eq_false_iff_not]; omega
    ·cases h
 ·cases h
theorem nrmB_v {pc : Facts} (hp : nQ pc) (b : BE) : (nrmB pc b).d = b.d := by cases b <;> simp [nrmB, BE.d, nrm_v hp]
theorem decB_v (hH : H.Ok) {pc : Facts} (hp : nQ pc) {b : BE} : ∀ {r : Bool}, decB H pc b = some r → b.d = r := by
 have gen : ∀ (b : BE) (r : Bool), (match dec0 H b with
   |some r => some r
   |none => match known pc b with
    |some r => some r
    |none => match dec0 H (nrmB pc b) with
     |some r => some r
     |none => H.d pc b) = some r → b.d = r := by
  intro b r h
  split at h
  ·next q hq => cases h; exact dec0_v hH hq
  ·split at h
   ·next q hq => cases h; exact wQ hp hq
   ·split at h
    ·next q hq => cases h; rw [← nrmB_v hp]; exact dec0_v hH hq
    ·exact hH.d pc b r hp h
 induction b with
 |no b ih =>
  intro r h
  unfold decB at h
  split at h
  ·next q hq => cases h; show (!b.d) = _; rw [ih hq]
  ·cases h
 |_ => intro r h; exact gen _ _ h
structure kC (h h' : Hp) : Prop where
 heap : h'.heap = h.heap
 us : h'.us = h.us
 next : h'.next = h.next
 ro : h'.ro = h.ro
 pc : nQ h'.pc
theorem kC.refl {h : Hp} (hp : nQ h.pc) : kC h h := ⟨rfl, rfl, rfl, rfl, hp⟩
theorem kC.trans {a b c : Hp} (h : kC a b) (k : kC b c) : kC a c := ⟨k.heap.trans h.heap, k.us.trans h.us, k.next.trans h.next, k.ro.trans h.ro, k.pc⟩
theorem addF_v {h : Hp} (hp : nQ h.pc) {b : BE} {r : Bool} (hb : b.d = r) {K : Hp → Bool} (hk : addF h b r K = true) : ∃ h', kC h h' ∧ K h' = true := by
 obtain ⟨hp0, us, nx, pc, ro⟩ := h
 refine ⟨⟨hp0, us, nx, (b, r) :: pc, ro⟩, ⟨rfl, rfl, rfl, rfl, fun p hq => ?_⟩, hk⟩
 rcases List.mem_cons.1 hq with rfl | hq
 ·exact hb
 ·exact hp p hq
theorem brk0_v (hH : H.Ok) {b : BE} {h : Hp} (hp : nQ h.pc) {t e : Hp → Bool} (hk : brk0 H b h t e = true) : ∃ h', kC h h' ∧ ((b.d = true ∧ t h' = true) ∨ (b.d = false ∧ e h' = true)) := by
 unfold brk0 at hk
 split at hk
 ·next r hr =>
  have hd := decB_v hH hp hr
  refine ⟨h, .refl hp, ?_⟩
  rcases bt hk with ⟨h1, h2⟩ | ⟨h1, h2⟩
  ·exact .inl ⟨by rw [hd, h1], h2⟩
  ·exact .inr ⟨by rw [hd, h1], h2⟩
 ·obtain ⟨h1, h2⟩ := kZ hk
  cases hb : b.d
  ·obtain ⟨h', e1, e2⟩ := addF_v hp hb h2
   exact ⟨h', e1, .inr ⟨rfl, e2⟩⟩
  ·obtain ⟨h', e1, e2⟩ := addF_v hp hb h1
   exact ⟨h', e1, .inl ⟨rfl, e2⟩⟩
theorem qE (hH : H.Ok) {b : BE} {h : Hp} (hp : nQ h.pc) {t e : Hp → Bool} (hk : brk H b h t e = true) : ∃ h', kC h h' ∧ ((b.d = true ∧ t h' = true) ∨ (b.d = false ∧ e h' = true)) := by
 unfold brk at hk
 split at hk
 ·exact ⟨h, .refl hp, .inl ⟨rfl, hk⟩⟩
 ·exact ⟨h, .refl hp, .inr ⟨rfl, hk⟩⟩
 ·next b =>
  obtain ⟨h', e1, e2⟩ := brk0_v hH hp hk
  refine ⟨h', e1, ?_⟩
  show ((!b.d) = true ∧ _) ∨ ((!b.d) = false ∧ _)
  rcases e2 with ⟨x, y⟩ | ⟨x, y⟩
  ·exact .inr ⟨by rw [x]; rfl, y⟩
  ·exact .inl ⟨by rw [x]; rfl, y⟩
 ·exact brk0_v hH hp hk
theorem concL_v (hH : H.Ok) {t : Tm} {lo : Int} {h : Hp} (hp : nQ h.pc) {K : Int → Hp → Bool} : ∀ {n : Nat}, concL H t lo n h K = true → lo ≤ t.d → t.d < lo + n → ∃ h', kC h h' ∧ K t.d h' = true := by
 intro n
 induction n with
 |zero => intro _ h1 h2; exact absurd h2 (by simp; omega)
 |succ n ih =>
  intro hk h1 h2
  unfold concL at hk
  obtain ⟨k1, k2⟩ := kZ hk
  rw [sV] at k1
  by_cases c : t.d = lo + n
  ·obtain ⟨h', e1, e2⟩ := qE hH hp k1
   rcases e2 with ⟨x, y⟩ | ⟨x, y⟩
   ·exact ⟨h', e1, by rw [c]; exact y⟩
   ·have : (t.d == lo + n) = false := x
    rw [c] at this; simp at this
  ·exact ih k2 h1 (by push_cast at h2; omega)
theorem pX (hH : H.Ok) {t : Tm} {h : Hp} (hp : nQ h.pc) {K : Int → Hp → Bool} (hk : aBk H t h K = true) : ∃ h', kC h h' ∧ K t.d h' = true := by
 unfold aBk at hk
 split at hk
 ·exact ⟨h, .refl hp, hk⟩
 ·split at hk
  ·next n hn =>
   rw [sV] at hk
   have := nrm_v hp t
   rw [hn] at this
   exact ⟨h, .refl hp, by rw [← this]; exact hk⟩
  ·have hr := vH hH t
   cases h5 : rng H t with | mk a b =>
   rw [h5] at hr hk
   simp only at hk hr
   obtain ⟨_, h2⟩ := btf hk
   exact concL_v hH hp h2 hr.1 (by omega)
theorem wI (hH : H.Ok) {t : Tm} {K : Tm → Bool} (hk : sK H t K = true) : ∃ t', t'.d = t.d ∧ K t' = true := by
 unfold sK at hk
 split at hk
 ·next t' h => exact ⟨t', hH.s _ _ h, hk⟩
 ·exact ⟨t, rfl, hk⟩
theorem back_v (hH : H.Ok) {op : TO} {k : IntKind} {x y t : Tm} (hb : back H op k x y = some t) : t.d = op.run k x.d y.d := by
 unfold back at hb
 split at hb
 ·split at hb
  ·rename_i k' a b
   obtain ⟨h1, h2⟩ := gF hb
   rw [Bool.and_eq_true] at h1
   obtain rfl := jG h1.1
   obtain rfl := Tm.mM h1.2
   have ha := vH hH a
   have hbb := vH hH b
   cases h5 : rng H a with | mk p q =>
   cases h6 : rng H b with | mk r s =>
   rw [h5] at ha
   rw [h6] at hbb
   rw [h5, h6] at h2
   simp only at h2 ha hbb
   obtain ⟨h3, h4⟩ := gF h2
   have h4 := Option.some.inj h4
   rw [← h4]
   simp only [Bool.and_eq_true, decide_eq_true_eq] at h3
   show b.d = iW k (iW k (a.d + b.d) - a.d)
   rw [fZ, fZ, kS (n := a.d + b.d) ⟨by omega, by omega⟩, show a.d + b.d - a.d = b.d by omega, kS ⟨by omega, by omega⟩]
  ·cases hb
 ·cases hb
theorem mkO_v (hH : H.Ok) {op : TO} {k : IntKind} {x y : Tm} {h : Hp} (hp : nQ h.pc) {K : Tm → Hp → Bool} (hk : mkO H op k x y h K = true) : ∃ t h', kC h h' ∧ t.d = op.run k x.d y.d ∧ K t h' = true := by
 have gen : cnd (H.cz (.o op k x y)) (aBk H (.o op k x y) h fun n h => K (.l n) h) (sK H (.o op k x y) fun t => K t h) = true → ∃ t h', kC h h' ∧ t.d = op.run k x.d y.d ∧ K t h' = true := by
  intro hk
  rcases bt hk with ⟨_, h1⟩ | ⟨_, h1⟩
  ·obtain ⟨h', e1, e2⟩ := pX hH hp h1
   exact ⟨_, h', e1, rfl, e2⟩
  ·obtain ⟨t, e1, e2⟩ := wI hH h1
   exact ⟨t, h, .refl hp, e1, e2⟩
 unfold mkO at hk
 split at hk
 ·split at hk
  ·rw [sV] at hk; exact ⟨_, h, .refl hp, rfl, hk⟩
  ·exact gen hk
 ·split at hk
  ·next t hb => exact ⟨t, h, .refl hp, back_v hH hb, hk⟩
  ·exact gen hk
theorem mkConv_v (hH : H.Ok) {k : IntKind} {x : Tm} {K : Tm → Bool} (hk : aCj H k x K = true) : ∃ t, t.d = k.wrap x.d ∧ K t = true := by
 unfold aCj at hk
 split at hk
 ·rw [sV] at hk; exact ⟨.l (iW k _), fZ _ _, hk⟩
 ·have hr := vH hH x
  cases h5 : rng H x with | mk a b =>
  rw [h5] at hr hk
  simp only at hk hr
  rcases bt hk with ⟨h1, h2⟩ | ⟨_, h2⟩
  ·rw [Bool.and_eq_true, decide_eq_true_eq, decide_eq_true_eq] at h1
   exact ⟨x, (kS ⟨by omega, by omega⟩).symm, h2⟩
  ·obtain ⟨t, e1, e2⟩ := wI hH h2
   exact ⟨t, by rw [e1, Tm.o_d]; exact fZ _ _, e2⟩
theorem oD (x y : Tm) (e : BE) (he : e = .lt x y ∨ e = .le x y ∨ e = .eq x y) : (aAW x y e).d = e.d := by
 unfold aAW
 split
 ·rcases he with rfl | rfl | rfl
  ·exact BE.tZ _
  ·exact BE.tZ _
  ·simp [BE.tZ, BE.d, Tm.l_d, aAL]
 ·rfl
end
end Xe
end
end Go.Proofs.YtolpdiifmacdbaaGreat
