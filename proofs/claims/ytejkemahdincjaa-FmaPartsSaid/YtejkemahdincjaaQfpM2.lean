import Derived.Test.YtejkemahdincjaaQfpWMore
import Derived.Test.YtejkemahdincjaaQfpWTab
/- A reckoner of Go code over numbers, structs, arrays and local variables: it steps through code as the machine does, in plain Lean, so that Lean's kernel can reckon it. -/
set_option linter.unusedVariables false
set_option linter.unusedSimpArgs false
namespace Go.Proofs.Ytejkemahdincjaa.Ek
open Go.RowKit Go.Proofs.YtejkemahdincjaaW.PrintWords Go.Proofs.YtejkemahdincjaaW.PrintLast Go.Proofs.YtejkemahdincjaaW.PrintMore

abbrev cnd {α : Type _} (b : Bool) (t e : α) : α := match b with
 |true => t
 |false => e
inductive IE where
 |l (n : Int)
 |x (n : Int)
def IE.d : IE → Int
 |.l n => n
 |.x n => n
inductive BE where
 |tt | ff
 |q (b : Bool)
 |lt (x y : Int)
 |le (x y : Int)
 |eq (x y : Int)
 |no (b : BE)
def BE.d : BE → Bool
 |.tt => true
 |.ff => false
 |.q b => b
 |.lt x y => decide (x < y)
 |.le x y => decide (x ≤ y)
 |.eq x y => x == y
 |.no b => !b.d
def BE.ite {α : Type _} : BE → α → α → α
 |.tt, t, _ => t
 |.ff, _, e => e
 |.q b, t, e => if b = true then t else e
 |.lt x y, t, e => if x < y then t else e
 |.le x y, t, e => if x ≤ y then t else e
 |.eq x y, t, e => if x = y then t else e
 |.no b, t, e => b.ite e t
def BE.neg : BE → BE
 |.tt => .ff
 |.ff => .tt
 |.no b => b
 |b => .no b
def BE.lit (b : Bool) : BE := cnd (b) (.tt) <| .ff

inductive C where
 |i (k : IntKind) (x : IE)
 |b (x : BE)
 |p (g o : Nat)
 |pd (g o : Nat) (i : Int) (n : Nat)
 |sl (g o n c : Nat)
inductive S where
 |c (c : C)
 |a (k : IntKind) (xs : List Int) (n : Nat)
def S.len : S → Nat
 |.c _ => 1
 |.a _ _ n => n
inductive PV where
 |one (c : C)
 |agg (ss : List S)
inductive SV where
 |pv (v : PV)
 |tup (vs : List PV)
 |und

def look {α : Type _} : List (Nat × α) → Nat → Option α
 |[], _ => none
 |(k, v) :: r, t => cnd (Nat.beq k t) (some v) <| look r t
def upd {α : Type _} : List (Nat × α) → Nat → α → List (Nat × α)
 |[], _, _ => []
 |(k, v) :: r, t, u => cnd (Nat.beq k t) ((k, u) :: r) <| (k, v) :: upd r t u

structure St where
 env : List (Nat × SV)
 heap : List (Nat × Nat × List S)
 next : Nat
abbrev St.put (s : St) (d : Option Nat) (v : SV) : St := match d with
 |some d => ⟨(d, v) :: s.env, s.heap, s.next⟩
 |none => s

def ofCell : Value → Option S
 |.int k n => some (.c (.i k (.l n)))
 |.bool b => some (.c (.b (.lit b)))
 |_ => none
def ofCells : List Value → Option (List S)
 |[] => some []
 |v :: r => match ofCell v, ofCells r with
  |some c, some cs => some (c :: cs)
  |_, _ => none
def ofV : Value → Option SV
 |.int k n => some (.pv (.one (.i k (.l n))))
 |.bool b => some (.pv (.one (.b (.lit b))))
 |.agg cs => match ofCells cs.toList with
  |some ss => some (.pv (.agg ss))
  |none => none
 |_ => none
def ev (env : List (Nat × SV)) : Operand → Option SV
 |.tmp t => look env t
 |.const v => ofV v
 |_ => none
def evs (env : List (Nat × SV)) : List Operand → Option (List PV)
 |[] => some []
 |x :: r => match ev env x, evs env r with
  |some (.pv v), some vs => some (v :: vs)
  |_, _ => none

def splitS : List S → Nat → Option (List S × List S)
 |[], m => cnd (Nat.beq m 0) (some ([], [])) <| none
 |s :: r, m => cnd (Nat.beq m 0) (some ([], s :: r)) <|     cnd (Nat.ble s.len m) ((match splitS r (m - s.len) with
   |some (a, b) => some (s :: a, b)
   |none => none)) <| none
def lenS : List S → Nat
 |[] => 0
 |s :: r => s.len + lenS r
def sub (ss : List S) (o n : Nat) : Option (List S) := match splitS ss o with
 |some (_, r) => match splitS r n with
  |some (a, _) => some a
  |none => none
 |none => none
def cellAt : List S → Nat → Option C
 |[], _ => none
 |.c c :: r, o => cnd (Nat.beq o 0) (some c) <| cellAt r (o - 1)
 |.a k xs n :: r, o => cnd (Nat.blt o n) (some (.i k (.x (rd xs (Int.ofNat o))))) <| cellAt r (o - n)
def setAt : List S → Nat → C → Option (List S)
 |[], _, _ => none
 |.c c :: r, o, u => cnd (Nat.beq o 0) (some (.c u :: r)) <| (match setAt r (o - 1) u with
  |some r' => some (.c c :: r')
  |none => none)
 |.a k xs n :: r, o, u => cnd (Nat.blt o n) ((match u with
   |.i k' v => cnd (decide (k' = k)) (some (.a k (xs.set o v.d) n :: r)) <| none
   |_ => none)) <| (match setAt r (o - n) u with
   |some r' => some (.a k xs n :: r')
   |none => none)
def runAt : List S → Nat → Option (IntKind × List Int × Nat)
 |[], _ => none
 |.c _ :: r, o => cnd (Nat.beq o 0) (none) <| runAt r (o - 1)
 |.a k xs n :: r, o => cnd (Nat.beq o 0) (some (k, xs, n)) <| cnd (Nat.ble n o) (runAt r (o - n)) <| none
def setRun : List S → Nat → List Int → List S
 |[], _, _ => []
 |.c c :: r, o, ys => .c c :: (cnd (Nat.beq o 0) (r) <| setRun r (o - 1) ys)
 |.a k xs n :: r, o, ys => cnd (Nat.beq o 0) (.a k ys n :: r) <| .a k xs n :: setRun r (o - n) ys
def setSub (ss : List S) (o : Nat) (new : List S) : Option (List S) := match splitS ss o with
 |some (a, r) => match splitS r (lenS new) with
  |some (_, b) => some (a ++ (new ++ b))
  |none => none
 |none => none

def wrapF (k : IntKind) (n : Int) : Int := match k with
 |.i64 => wrap64 n
 |.i32 => wrap32 n
 |.u32 => n % 4294967296
 |.u8 => n % 256
 |k => k.wrap n
def IE.mk2 (a b : IE) (n : Int) : IE := match a, b with
 |.l _, .l _ => .l n
 |_, _ => .x n
def IE.cmp (a b : IE) (e : BE) : BE := match a, b with
 |.l _, .l _ => .lit e.d
 |_, _ => e
def IE.nz (a : IE) : BE := match a with
 |.l n => .lit (n == 0)
 |.x n => .eq n 0
def IE.ge0 (a : IE) : BE := match a with
 |.l n => .lit (decide (0 ≤ n))
 |.x n => .le 0 n
def binI {R : Type} (op : BinOp) (k : IntKind) (k' : IntKind) (a b : IE) (K : C → Option R) : Option R := match op with
 |.shl => b.ge0.ite (K (.i k (IE.mk2 a b (shl k a.d b.d)))) none
 |.shr => b.ge0.ite (K (.i k (IE.mk2 a b (shr k a.d b.d)))) none
 |op => cnd (decide (k = k')) ((match op with
  |.add => K (.i k (IE.mk2 a b (wrapF k (a.d + b.d))))
  |.sub => K (.i k (IE.mk2 a b (wrapF k (a.d - b.d))))
  |.mul => K (.i k (IE.mk2 a b (wrapF k (a.d * b.d))))
  |.quo => b.nz.ite none (K (.i k (IE.mk2 a b (wrapF k (Int.tdiv a.d b.d)))))
  |.rem => b.nz.ite none (K (.i k (IE.mk2 a b (Int.tmod a.d b.d))))
  |.and => K (.i k (IE.mk2 a b (Go.bits .and k a.d b.d)))
  |.or => K (.i k (IE.mk2 a b (Go.bits .or k a.d b.d)))
  |.xor => K (.i k (IE.mk2 a b (Go.bits .xor k a.d b.d)))
  |.andNot => K (.i k (IE.mk2 a b (Go.bits .andNot k a.d b.d)))
  |.eql => K (.b (IE.cmp a b (.eq a.d b.d)))
  |.neq => K (.b (IE.cmp a b (.eq a.d b.d)).neg)
  |.lss => K (.b (IE.cmp a b (.lt a.d b.d)))
  |.leq => K (.b (IE.cmp a b (.le a.d b.d)))
  |.gtr => K (.b (IE.cmp a b (.lt b.d a.d)))
  |.geq => K (.b (IE.cmp a b (.le b.d a.d)))
  |_ => none)) <| none
def eqB (a b : BE) : BE := match a, b with
 |.tt, b => b
 |.ff, b => b.neg
 |a, .tt => a
 |a, .ff => a.neg
 |a, b => .q (a.d == b.d)
def intsS (k : IntKind) : List S → Option (List Int)
 |[] => some []
 |.c (.i k' x) :: r => match intsS k r with
  |some xs => cnd (decide (k' = k)) (some (x.d :: xs)) <| none
  |none => none
 |.a k' xs _ :: r => match intsS k r with
  |some ys => cnd (decide (k' = k)) (some (xs ++ ys)) <| none
  |none => none
 |_ => none

section
variable (P : Program)
def lay : Nat → Nat → Option (List S)
 |0, _ => none
 |d + 1, t => match P.underlying t with
  |some (.int k) => some [.c (.i k (.l 0))]
  |some .bool => some [.c (.b .ff)]
  |some (.struct fs) => fs.toList.foldr (fun f r => match lay d f.type, r with
   |some a, some b => some (a ++ b)
   |_, _ => none) (some [])
  |some (.array n e) => match P.underlying e with
   |some (.int k) => some [.a k (List.replicate n 0) n]
   |_ => none
  |_ => none
def isLit : S → List Value → Option (List Value)
 |.c (.i k (.l n)), .int k' n' :: r => cnd (decide (k = k') && (n == n')) (some r) <| none
 |.c (.b .ff), .bool false :: r => some r
 |.a k xs n, vs => go k xs n vs
 |_, _ => none
where go (k : IntKind) : List Int → Nat → List Value → Option (List Value)
 |[], 0, vs => some vs
 |x :: xs, n + 1, .int k' y :: vs => cnd (decide (k = k') && (x == y)) (go k xs n vs) <| none
 |_, _, _ => none
def areLit : List S → List Value → Bool
 |[], [] => true
 |s :: r, vs => match isLit s vs with
  |some q => areLit r q
  |none => false
 |_, _ => false
def zeroS (t : Nat) : Option (List S) := match P.info? t with
 |some i => match i.zero with
  |some v => match lay P 8 t with
   |some ss => cnd (areLit ss v.cells.toList) (some ss) <| none
   |none => none
  |none => none
 |none => none
def isAggT (t : Nat) : Option Bool := match P.underlying t with
 |some (.struct _) => some true
 |some (.array _ _) => some true
 |some _ => some false
 |none => none
def sizeT (t : Nat) : Option Nat := match P.info? t with
 |some i => some i.size
 |none => none
def partS (t : Nat) (ss : List S) (o : Nat) : Option PV := match isAggT P t, sizeT P t with
 |some true, some n => match sub ss o n with
  |some r => some (.agg r)
  |none => none
 |some false, some _ => match cellAt ss o with
  |some c => some (.one c)
  |none => none
 |_, _ => none
def eqF : List Field → Nat → List S → List S → Option Bool
 |[], _, a, b => match a, b with
  |[], [] => some true
  |_, _ => none
 |f :: fs, i, a, b => match a, b with
  |.c (.i k x) :: r, .c (.i k' y) :: q => match P.underlying f.type with
   |some (.int _) => match eqF fs (i + 1) r q with
    |some t => cnd ((f.name != "_") && Nat.beq f.offset i && decide (k = k')) (some ((x.d == y.d) && t)) <| none
    |none => none
   |_ => none
  |.c (.b x) :: r, .c (.b y) :: q => match P.underlying f.type with
   |some .bool => match eqF fs (i + 1) r q with
    |some t => cnd ((f.name != "_") && Nat.beq f.offset i) (some ((x.d == y.d) && t)) <| none
    |none => none
   |_ => none
  |_, _ => none
def eqT (t : Nat) (a b : List S) : Option Bool := match P.underlying t with
 |some (.struct fs) => cnd (!P.stoodInHeld t && !P.eqGuardType P.depth t) (eqF P fs.toList 0 a b) <| none
 |some (.array n e) => match P.underlying e, sizeT P e with
  |some (.int k), some 1 => cnd (!P.eqGuardType P.depth t) ((match intsS k a, intsS k b with
   |some xs, some ys => cnd (Nat.beq (lenS a) n && Nat.beq (lenS b) n) (some (xs == ys)) <| none
   |_, _ => none)) <| none
  |_, _ => none
 |_ => none
def fillS (env : List (Nat × SV)) (places : List (Nat × Nat)) : List S → List (Nat × Operand) → Option (List S)
 |ss, [] => some ss
 |ss, (j, x) :: r => match places[j]?, ev env x with
  |some (o, 1), some (.pv (.one c)) => match setAt ss o c with
   |some ss' => fillS env places ss' r
   |none => none
  |some (o, n), some (.pv (.agg new)) => cnd (Nat.beq n (lenS new)) ((match setSub ss o new with
   |some ss' => fillS env places ss' r
   |none => none)) <| none
  |_, _ => none
def evVal {R : Type} (op : Op) (env : List (Nat × SV)) (K : SV → Option R) : Option R := match op with
 |.move x => match ev env x with
  |some v => K v
  |none => none
 |.assign x => match ev env x with
  |some v => K v
  |none => none
 |.pick c a b => match ev env c with
  |some (.pv (.one (.b e))) => e.ite (match ev env a with
    |some v => K v
    |none => none) (match ev env b with
    |some v => K v
    |none => none)
  |_ => none
 |.binOp op t x y _ => match ev env x, ev env y with
  |some (.pv (.one (.i k a))), some (.pv (.one (.i k' b))) => binI op k k' a b (fun c => K (.pv (.one c)))
  |some (.pv (.one (.b a))), some (.pv (.one (.b b))) => match P.underlying t with
   |some .bool => match op with
    |.eql => K (.pv (.one (.b (eqB a b))))
    |.neq => K (.pv (.one (.b (eqB a b).neg)))
    |_ => none
   |_ => none
  |some (.pv (.agg a)), some (.pv (.agg b)) => match eqT P t a b with
   |some e => match op with
    |.eql => K (.pv (.one (.b (.q e))))
    |.neq => K (.pv (.one (.b (.no (.q e)))))
    |_ => none
   |none => none
  |_, _ => none
 |.unOp op _ x => match op, ev env x with
  |.neg, some (.pv (.one (.i k a))) => K (.pv (.one (.i k (IE.mk2 a a (wrapF k (-a.d))))))
  |.xor, some (.pv (.one (.i k a))) => K (.pv (.one (.i k (IE.mk2 a a (Go.bits .xor k (if k.signed then -1 else k.max) a.d)))))
  |.not, some (.pv (.one (.b a))) => K (.pv (.one (.b a.neg)))
  |_, _ => none
 |.convert s t x => match P.underlying s, P.underlying t, ev env x with
  |some _, some (.int k), some (.pv (.one (.i _ a))) => K (.pv (.one (.i k (IE.mk2 a a (wrapF k a.d)))))
  |_, _, _ => none
 |.fieldAddr t x f => match P.underlying t, ev env x with
  |some (.struct fs), some (.pv (.one (.p g o))) => match fs[f]? with
   |some fd => match sizeT P fd.type with
    |some (_ + 1) => K (.pv (.one (.p g (o + fd.offset))))
    |_ => none
   |none => none
  |_, _ => none
 |.field t x f => match P.underlying t, ev env x with
  |some (.struct fs), some (.pv (.agg ss)) => match fs[f]? with
   |some fd => match partS P fd.type ss fd.offset with
    |some v => K (.pv v)
    |none => none
   |none => none
  |_, _ => none
 |.indexAddr t x i => match P.underlying t, ev env x, ev env i with
  |some (.array n e), some (.pv (.one (.p g o))), some (.pv (.one (.i _ (.l j)))) => match sizeT P e with
   |some z => cnd (decide (0 ≤ j) && decide (j < (n : Int))) (K (.pv (.one (.p g (o + j.toNat * z))))) <| none
   |none => none
  |some (.array n e), some (.pv (.one (.p g o))), some (.pv (.one (.i _ (.x j)))) => match sizeT P e with
   |some 1 => if 0 ≤ j then (if j < (n : Int) then K (.pv (.one (.pd g o j n))) else none) else none
   |_ => none
  |some (.slice e), some (.pv (.one (.sl g o n _))), some (.pv (.one (.i _ j))) => match sizeT P e with
   |some 1 => if 0 ≤ j.d then (if j.d < (n : Int) then K (.pv (.one (.pd g o j.d n))) else none) else none
   |_ => none
  |_, _, _ => none
 |.index t x i => match P.underlying t, ev env x, ev env i with
  |some (.array n e), some (.pv (.agg ss)), some (.pv (.one (.i _ j))) => match isAggT P e, ss with
   |some false, [.a k xs m] => cnd (Nat.beq m n) ((match sizeT P e with
     |some 1 => if 0 ≤ j.d then (if j.d < (n : Int) then K (.pv (.one (.i k (.x (rd xs j.d))))) else none) else none
     |_ => none)) <| none
   |_, _ => none
  |_, _, _ => none
 |.extract x i => match ev env x with
  |some (.tup vs) => match vs[i]? with
   |some v => K (.pv v)
   |none => none
  |_ => none
 |.nilCheck x => match ev env x with
  |some (.pv (.one (.p g o))) => K (.pv (.one (.p g o)))
  |_ => none
 |.build t ps => match P.underlying t, zeroS P t with
  |some (.struct fs), some ss => match fs.toList.mapM (fun f => (P.info? f.type).map fun i => (f.offset, i.size)) with
   |some places => match fillS env places ss ps.toList with
    |some ss => K (.pv (.agg ss))
    |none => none
   |none => none
  |some (.array n e), some ss => match P.info? e with
   |some ie => match fillS env ((List.range n).map fun i => (i * ie.size, ie.size)) ss ps.toList with
    |some ss => K (.pv (.agg ss))
    |none => none
   |none => none
  |_, _ => none
 |.call { callee := .builtin .len, args, argTypes } => match argTypes[0]?, args[0]? with
  |some t, some x => match P.underlying t, ev env x with
   |some (.slice _), some (.pv (.one (.sl _ _ n _))) => K (.pv (.one (.i .i64 (.x (n : Int)))))
   |_, _ => none
  |_, _ => none
 |.call { callee := .builtin .min, args, .. } => match evs env args.toList with
  |some [.one (.i k a), .one (.i k' b)] => cnd (decide (k = k')) (K (.pv (.one (.i k (IE.mk2 a b (mn a.d b.d)))))) <| none
  |_ => none
 |.call { callee := .builtin .max, args, .. } => match evs env args.toList with
  |some [.one (.i k a), .one (.i k' b)] => cnd (decide (k = k')) (K (.pv (.one (.i k (IE.mk2 a b (mx a.d b.d)))))) <| none
  |_ => none
 |_ => none

structure Fc where
 run : (R : Type) → Nat → List (Nat × Nat × List S) → List PV → (SV → Option R) → Option R
abbrev Cls := List (Nat × Fc)

def PV.segs : PV → List S
 |.one c => [.c c]
 |.agg ss => ss
def loadS (t : Nat) (heap : List (Nat × Nat × List S)) : C → Option PV
 |.p g o => match look heap g with
  |some (_, ss) => partS P t ss o
  |none => none
 |.pd g o i n => match isAggT P t, look heap g with
  |some false, some (_, ss) => match runAt ss o with
   |some (k, xs, m) => cnd (Nat.beq m n) (some (.one (.i k (.x (rd xs i))))) <| none
   |none => none
  |_, _ => none
 |_ => none
def storeS (t : Nat) (heap : List (Nat × Nat × List S)) (v : PV) : C → Option (List (Nat × Nat × List S))
 |.p g o => match look heap g, sizeT P t, v with
  |some (e, ss), some 1, .one c => match setAt ss o c with
   |some ss' => some (upd heap g (e, ss'))
   |none => none
  |some (e, ss), some n, .agg new => cnd (Nat.beq n (lenS new)) ((match setSub ss o new with
   |some ss' => some (upd heap g (e, ss'))
   |none => none)) <| none
  |_, _, _ => none
 |.pd g o i n => match look heap g, sizeT P t, v with
  |some (e, ss), some 1, .one (.i k x) => match runAt ss o with
   |some (k', xs, m) => cnd (Nat.beq m n && decide (k = k')) (some (upd heap g (e, setRun ss o (xs.set i.toNat x.d)))) <| none
   |none => none
  |_, _, _ => none
 |_ => none
def ints (k : IntKind) : List PV → Option (List Int)
 |[] => some []
 |.one (.i k' x) :: r => match ints k r with
  |some xs => cnd (decide (k' = k)) (some (x.d :: xs)) <| none
  |none => none
 |_ => none

variable (nt : Nat) (cl : Cls)
def okD (nt : Nat) : Option Nat → Bool
 |some d => Nat.blt d nt
 |none => true
def evOp {R : Type} (n : Nat) (o : Oper) (s : St) (K : St → Option R) : Option R := cnd (okD nt o.dst) ((match o.op with
 |.alloc t => match zeroS P t with
  |some ss => K ⟨match o.dst with
   |some d => (d, .pv (.one (.p s.next 0))) :: s.env
   |none => s.env, (s.next, t, ss) :: s.heap, s.next + 1⟩
  |none => none
 |.box t x => match ev s.env x with
  |some (.pv v) => K ⟨match o.dst with
   |some d => (d, .pv (.one (.p s.next 0))) :: s.env
   |none => s.env, (s.next, t, v.segs) :: s.heap, s.next + 1⟩
  |_ => none
 |.load t x => match ev s.env x with
  |some (.pv (.one c)) => match loadS P t s.heap c with
   |some v => K (s.put o.dst (.pv v))
   |none => none
  |_ => none
 |.store t x y => match ev s.env x, ev s.env y with
  |some (.pv (.one c)), some (.pv v) => match storeS P t s.heap v c with
   |some h => K ((⟨s.env, h, s.next⟩ : St).put o.dst .und)
   |none => none
  |_, _ => none
 |.buildSlice t len ps => match P.underlying t, evs s.env (ps.toList.map (·.2)) with
  |some (.slice e), some vs => match P.underlying e, zeroS P e with
   |some (.int k), some [.c (.i k' (.l 0))] => match ints k vs with
    |some xs => cnd (decide (k = k') && (ps.toList.map (·.1) == List.range len) && Nat.ble len 1000 && Nat.blt 0 len && (match sizeT P e with
      |some 1 => true
      |_ => false)) (K ⟨match o.dst with
      |some d => (d, .pv (.one (.sl s.next 0 len len))) :: s.env
      |none => s.env, (s.next, e, [.a k xs len]) :: s.heap, s.next + 1⟩) <| none
    |none => none
   |_, _ => none
  |_, _ => none
 |.call { callee := .value (.func f), args, .. } => match look cl f, evs s.env args.toList with
  |some c, some vs => c.run R n s.heap vs (fun v => K (s.put o.dst v))
  |_, _ => none
 |op => evVal P op s.env (fun v => K (s.put o.dst v)))) <| none
def guarded {R : Type} (ops : Array Oper) (o : Oper) (s : St) (yes : St → Option R) (no : St → Option R) : Option R := match o.guard with
 |none => yes s
 |some (j, want) => match (ops[j]?).bind (·.dst) with
  |none => none
  |some t => match look s.env t with
   |some .und => no s
   |some (.pv (.one (.b e))) => e.ite (cnd (want) (yes ⟨(t, .pv (.one (.b .tt))) :: s.env, s.heap, s.next⟩) <| no ⟨(t, .pv (.one (.b .tt))) :: s.env, s.heap, s.next⟩)
     (cnd (want) (no ⟨(t, .pv (.one (.b .ff))) :: s.env, s.heap, s.next⟩) <| yes ⟨(t, .pv (.one (.b .ff))) :: s.env, s.heap, s.next⟩)
   |_ => none
def skipOp {R : Type} (o : Oper) (s : St) (K : St → Option R) : Option R := cnd (okD nt o.dst) (K (s.put o.dst .und)) <| none
def evSeq {R : Type} (n : Nat) (ops : Array Oper) : List Oper → St → (St → Option R) → Option R
 |[], s, K => K s
 |o :: r, s, K => guarded ops o s (fun s => evOp P nt cl n o s (fun s => evSeq n ops r s K)) (fun s => skipOp nt o s (fun s => evSeq n ops r s K))

def isPure : Op → Bool
 |.move _ | .assign _ | .pick .. | .binOp .. | .unOp .. | .convert .. | .fieldAddr .. | .field .. | .indexAddr .. | .index .. | .extract .. | .nilCheck _ | .build .. => true
 |.call { callee := .builtin .len, .. } => true
 |.call { callee := .builtin .min, .. } => true
 |.call { callee := .builtin .max, .. } => true
 |_ => false
def isLoad : Op → Bool
 |.load .. => true
 |_ => false
def isStore : Op → Bool
 |.store .. => true
 |_ => false
def pureAt (ops : Array Oper) (i : Nat) : Bool := match ops[i]? with
 |some o => isPure o.op
 |none => false
def loadAt (ops : Array Oper) (i : Nat) : Bool := match ops[i]? with
 |some o => isLoad o.op
 |none => false
def storesOf (ops : Array Oper) : List Nat := (List.range ops.size).filter fun i => match ops[i]? with
 |some o => isStore o.op
 |none => false
def masks (T : List (List Nat × List Nat)) : List Nat := T.foldl (fun acc r => acc ++ [upM acc acc.length r.1]) []
def evAny {R : Type} (n : Nat) (ops : Array Oper) (T : Bool × List (List Nat × List Nat)) (B : List Nat) (ds : List Nat) (heap0 : List (Nat × Nat × List S)) : Nat → List Bool → St → (St → Option R) → Option R
 |0, l, s, K => match readyT T.2 l with
  |[] => K s
  |_ => none
 |f + 1, l, s, K => match readyT T.2 l with
  |[] => K s
  |rs => match rs.find? (fun i => pureAt ops i && anyT T l (l.set i true) i) with
   |some i => match ops[i]? with
    |some o => guarded ops o s (fun s => cnd (okD nt o.dst) (evVal P o.op s.env (fun v => evAny n ops T B ds heap0 f (l.set i true) (s.put o.dst v) K)) <| none) (fun s => skipOp nt o s (fun s => evAny n ops T B ds heap0 f (l.set i true) s K))
    |none => none
   |none => match rs.find? (fun i => loadAt ops i && takeW T B ds l (l.set i true) i && ds.all (fun d => !(l.getD d true))) with
    |some i => match ops[i]? with
     |some o => guarded ops o s (fun s => cnd (okD nt o.dst) ((match o.op with
       |.load t x => match ev s.env x with
        |some (.pv (.one c)) => match loadS P t heap0 c with
         |some v => evAny n ops T B ds heap0 f (l.set i true) (s.put o.dst (.pv v)) K
         |none => none
        |_ => none
       |_ => none)) <| none) (fun s => skipOp nt o s (fun s => evAny n ops T B ds heap0 f (l.set i true) s K))
     |none => none
    |none => match rs with
     |[i] => match ops[i]? with
      |some o => guarded ops o s (fun s => evOp P nt cl n o s (fun s => evAny n ops T B ds heap0 f (l.set i true) s K)) (fun s => skipOp nt o s (fun s => evAny n ops T B ds heap0 f (l.set i true) s K))
      |none => none
     |_ => none
def evReg {R : Type} (n : Nat) (ops : Array Oper) (draw : Bool) (s : St) (K : St → Option R) : Option R := match draw with
 |false => evSeq P nt cl n ops ops.toList s K
 |true => cnd (P.follows .mixedOrders && waitsOk (rtab .any ops).2 (masks (rtab .any ops).2)) (evAny P nt cl n ops (rtab .any ops) (masks (rtab .any ops).2) (storesOf ops) s.heap ops.size (List.replicate ops.size false) s K) <| none

def bit (t : Nat) : Nat := 2 ^ t
def onB (m t : Nat) : Nat := Nat.lor m (bit t)
def offB (m t : Nat) : Nat := Nat.xor m (Nat.land m (bit t))
def opdsB : List Operand → Nat → Nat
 |[], m => m
 |.tmp t :: r, m => opdsB r (onB m t)
 |_ :: r, m => opdsB r m
def lvOps (ops : Array Oper) : List Oper → Nat → Nat
 |[], m => m
 |o :: r, m =>
  let m := lvOps ops r m
  let m := match o.dst with
   |some d => offB m d
   |none => m
  let m := opdsB o.op.operands.toList m
  match o.guard with
  |some (j, _) => match (ops[j]?).bind (·.dst) with
   |some t => onB m t
   |none => m
  |none => m
def lvC (rm : Nat) : Code → Nat → List (Nat × Nat) → Nat
 |.skip, m, _ => m
 |.region _ ops _, m, _ => lvOps ops ops.toList m
 |.seq a b, m, ex => lvC rm a (lvC rm b m ex) ex
 |.cond c a b, m, ex => opdsB [c] (Nat.lor (lvC rm a m ex) (lvC rm b m ex))
 |.block id c, m, ex => lvC rm c m ((id, m) :: ex)
 |.loop c, _, ex => lvC rm c 0 ex
 |.exit id, _, ex => (look ex id).getD 0
 |.ret, _, _ => rm
 |_, _, _ => 0
def BE.gen (b : BE) : BE := .q b.d
def C.gen : C → C
 |.i k x => .i k (.x x.d)
 |.b x => .b x.gen
 |u => u
def S.gen : S → S
 |.c u => .c u.gen
 |s => s
def PV.gen : PV → PV
 |.one c => .one c.gen
 |.agg ss => .agg (ss.map S.gen)
def SV.gen : SV → SV
 |.pv v => .pv v.gen
 |.tup vs => .tup (vs.map PV.gen)
 |.und => .und
def cleanE (env : List (Nat × SV)) (m : Nat) : Nat → List (Nat × SV)
 |0 => []
 |t + 1 => cnd (Nat.beq (Nat.land (Nat.shiftRight m t) 1) 1) ((match look env t with
   |some v => (t, v.gen) :: cleanE env m t
   |none => cleanE env m t)) <| cleanE env m t
def idsC : C → Nat
 |.p g _ => bit g
 |.pd g _ _ _ => bit g
 |.sl g _ _ _ => bit g
 |_ => 0
def idsS : List S → Nat
 |[] => 0
 |.c c :: r => Nat.lor (idsC c) (idsS r)
 |_ :: r => idsS r
def idsE : List (Nat × SV) → Nat
 |[] => 0
 |(_, .pv v) :: r => Nat.lor (idsS v.segs) (idsE r)
 |_ :: r => idsE r
def idsH (m : Nat) : List (Nat × Nat × List S) → Nat
 |[] => m
 |(g, _, ss) :: r => cnd (Nat.beq (Nat.land (Nat.shiftRight m g) 1) 1) (Nat.lor (idsS ss) (idsH m r)) <| idsH m r
def cleanH (m : Nat) : List (Nat × Nat × List S) → List (Nat × Nat × List S)
 |[] => []
 |(g, t, ss) :: r => cnd (Nat.beq (Nat.land (Nat.shiftRight m g) 1) 1) ((g, t, ss.map S.gen) :: cleanH m r) <| cleanH m r
def nmax (a b : Nat) : Nat := cnd (Nat.ble a b) (b) <| a
def C.top : C → Nat
 |.p g _ => g + 1
 |.pd g _ _ _ => g + 1
 |.sl g _ _ _ => g + 1
 |_ => 0
def tops : List S → Nat
 |[] => 0
 |.c u :: r => nmax u.top (tops r)
 |_ :: r => tops r
def topsV : List PV → Nat
 |[] => 0
 |v :: r => nmax (tops v.segs) (topsV r)
def SV.top : SV → Nat
 |.pv v => tops v.segs
 |.tup vs => topsV vs
 |.und => 0
def topE : List (Nat × SV) → Nat
 |[] => 0
 |(_, v) :: r => nmax v.top (topE r)
def topH : List (Nat × Nat × List S) → Nat
 |[] => 0
 |(g, _, ss) :: r => nmax (g + 1) (nmax (tops ss) (topH r))
def clean (m : Nat) (s : St) : St :=
 let e := cleanE s.env m nt
 let h := cleanH (idsH (idsH (idsE e) s.heap) s.heap) s.heap
 ⟨e, h, nmax (topE e) (topH h)⟩

inductive Out where
 |nor | ret
 |ex (id : Nat)
def loopN {R : Type} (f : Nat → St → (Out → St → Option R) → Option R) (m : Nat) : Nat → St → (Out → St → Option R) → Option R
 |0, _, _ => none
 |n + 1, s, K => f n s (fun o s' => match o with
  |.nor => loopN f m n (clean nt m s') K
  |o => K o s')
def evJ {R : Type} (f : St → Option R) (s : St) : Option R := f s
abbrev kseq {R : Type} (g : St → (Out → St → Option R) → Option R) (K : Out → St → Option R) : Out → St → Option R
 |.nor, s => g s K
 |o, s => K o s
abbrev kblk {R : Type} (id : Nat) (K : Out → St → Option R) : Out → St → Option R
 |.ex j, s => cnd (Nat.beq j id) (K .nor s) <| K (.ex j) s
 |o, s => K o s
def headC : Code → Option Nat
 |.region id _ _ => some id
 |.seq a _ => headC a
 |.block _ c => headC c
 |.loop c => headC c
 |.cond _ a _ => headC a
 |_ => none
variable (rm : Nat) (cuts : List Nat)
def cutAt (cuts : List Nat) (b : Code) : Bool := match headC b with
 |some i => cuts.any (Nat.beq i)
 |none => false
def evC {R : Type} : Code → Nat → List (Nat × Nat) → Nat → St → (Out → St → Option R) → Option R
 |.skip, _, _, _, s, K => K .nor s
 |.region _ ops d, _, _, n, s, K => evReg P nt cl n ops d s (K .nor)
 |.seq a b, lv, ex, n, s, K => evC a (lvC rm b lv ex) ex n s (kseq (fun s K => cnd (cutAt cuts b) (evJ (fun s => evC b lv ex n s K) (clean nt (lvC rm b lv ex) s)) <| evC b lv ex n s K) K)
 |.cond c a b, lv, ex, n, s, K => match ev s.env c with
  |some (.pv (.one (.b e))) => e.ite (evC a lv ex n s K) (evC b lv ex n s K)
  |_ => none
 |.block id c, lv, ex, n, s, K => evC c lv ((id, lv) :: ex) n s (kblk id K)
 |.loop c, _, ex, n, s, K => loopN nt (fun n s K => evC c (lvC rm c 0 ex) ex n s K) (lvC rm c 0 ex) n (clean nt (lvC rm c 0 ex) s) K
 |.exit id, _, _, _, s, K => K (.ex id) s
 |.ret, _, _, _, s, K => K .ret s
 |_, _, _, _, _, _ => none
end

section
variable (P : Program) (nt : Nat) (cl : Cls) (rm : Nat) (cuts : List Nat)
def evAt {R : Type} : List Nat → Code → Nat → List (Nat × Nat) → List Nat → Nat → St → (Out → St → Option R) → Option R
 |[], c, lv, ex, _, n, s, K => evC P nt cl rm cuts c lv ex n s K
 |0 :: p, .seq a b, lv, ex, m :: fs, n, s, K => evAt p a (lvC rm b lv ex) ex (m :: fs) n s (kseq (fun s K => cnd (cutAt cuts b) (evJ (fun s => evC P nt cl rm cuts b lv ex m s K) (clean nt (lvC rm b lv ex) s)) <| evC P nt cl rm cuts b lv ex m s K) K)
 |_ :: p, .seq _ b, lv, ex, fs, n, s, K => evAt p b lv ex fs n s K
 |0 :: p, .cond _ a _, lv, ex, fs, n, s, K => evAt p a lv ex fs n s K
 |_ :: p, .cond _ _ b, lv, ex, fs, n, s, K => evAt p b lv ex fs n s K
 |_ :: p, .block id c, lv, ex, fs, n, s, K => evAt p c lv ((id, lv) :: ex) fs n s (kblk id K)
 |_ :: p, .loop c, _, ex, _ :: m :: fs, n, s, K => evAt p c (lvC rm c 0 ex) ex (m :: fs) n s (fun o s' => match o with
  |.nor => loopN nt (fun n s K => evC P nt cl rm cuts c (lvC rm c 0 ex) ex n s K) (lvC rm c 0 ex) m (clean nt (lvC rm c 0 ex) s') K
  |o => K o s')
 |_, _, _, _, _, _, _, _ => none
end

def resPV (P : Program) (s : St) : ResultVar → Option PV
 |.tmp t => match look s.env t with
  |some (.pv v) => some v
  |_ => none
 |.cell a t => match look s.env a with
  |some (.pv (.one c)) => loadS P t s.heap c
  |_ => none
def resPVs (P : Program) (s : St) : List ResultVar → Option (List PV)
 |[] => some []
 |r :: rs => match resPV P s r, resPVs P s rs with
  |some v, some vs => some (v :: vs)
  |_, _ => none
def resSV (P : Program) (fn : Func) (s : St) : Option SV := match resPVs P s fn.results.toList with
 |some [v] => some (.pv v)
 |some vs => some (.tup vs)
 |none => none
def resB (fn : Func) : Nat := fn.results.toList.foldl (fun m r => match r with
 |.tmp t => onB m t
 |.cell a _ => onB m a) 0
def argE : List PV → Nat → List (Nat × SV)
 |[], _ => []
 |v :: r, i => (i, .pv v) :: argE r (i + 1)
def kfin {R : Type} (P : Program) (fn : Func) (K : SV → Option R) : Out → St → Option R
 |.nor, s => (match resSV P fn s with
  |some v => K v
  |none => none)
 |.ret, s => (match resSV P fn s with
  |some v => K v
  |none => none)
 |_, _ => none
def evF {R : Type} (P : Program) (cl : Cls) (fn : Func) (cuts : List Nat) (n : Nat) (args : List PV) (K : SV → Option R) : Option R := match fn.body with
 |some c => cnd (Nat.beq fn.params.size args.length && Nat.ble args.length fn.ntmps) (evC P fn.ntmps cl (resB fn) cuts c (resB fn) [] n ⟨argE args 0, [], 0⟩ (kfin P fn K)) <| none
 |none => none
def evIn {R : Type} (P : Program) (cl : Cls) (fn : Func) (cuts : List Nat) (p fs : List Nat) (n : Nat) (s : St) (K : SV → Option R) : Option R := match fn.body with
 |some c => evAt P fn.ntmps cl (resB fn) cuts p c (resB fn) [] fs n s (kfin P fn K)
 |none => none
def evInJ {R : Type} (P : Program) (cl : Cls) (fn : Func) (cuts : List Nat) (p fs : List Nat) (n : Nat) (s : St) (K : SV → Option R) : Option R := match fn.body with
 |some c => evJ (fun s => evAt P fn.ntmps cl (resB fn) cuts p c (resB fn) [] fs n s (kfin P fn K)) s
 |none => none
/- The reckoner's values are the machine's; what yields a value yields it whatever the memory. -/

theorem BE.ite_d {α : Type _} (b : BE) (t e : α) : b.ite t e = if b.d = true then t else e := by
 have dec : ∀ (c : Prop) [Decidable c], (if c then t else e) = if decide c = true then t else e := fun c _ => by by_cases h : c <;> simp [h]
 induction b generalizing t e with
 |tt => rfl
 |ff => rfl
 |q b => rfl
 |lt x y => exact dec (x < y)
 |le x y => exact dec (x ≤ y)
 |eq x y =>
  show (if x = y then t else e) = if (x == y) = true then t else e
  by_cases h : x = y <;> simp [h]
 |no b ih =>
  show b.ite e t = if (!b.d) = true then t else e
  rw [ih e t (fun c _ => by by_cases h : c <;> simp [h])]
  by_cases h : b.d = true <;> simp [h]
theorem BE.neg_d (b : BE) : b.neg.d = !b.d := by cases b <;> simp [BE.neg, BE.d]
theorem BE.lit_d (b : Bool) : (BE.lit b).d = b := by cases b <;> rfl
theorem IE.mk2_d (a b : IE) (n : Int) : (IE.mk2 a b n).d = n := by cases a <;> cases b <;> rfl
theorem IE.cmp_d (a b : IE) (e : BE) : (IE.cmp a b e).d = e.d := by cases a <;> cases b <;> simp [IE.cmp, BE.lit_d]
theorem IE.nz_d (a : IE) : a.nz.d = (a.d == 0) := by cases a <;> simp [IE.nz, IE.d, BE.lit_d, BE.d]
theorem IE.ge0_d (a : IE) : a.ge0.d = decide (0 ≤ a.d) := by
 cases a
 ·exact BE.lit_d _
 ·rfl
theorem wrapF_eq (k : IntKind) (n : Int) : wrapF k n = k.wrap n := by
 cases k <;> first | rfl | exact (i64_w n).symm | exact (i32_w n).symm | exact (IntKind.wrap_u32 n).symm | exact (IntKind.wrap_u8 n).symm
theorem eqB_d (a b : BE) : (eqB a b).d = (a.d == b.d) := by
 have h : ∀ x : Bool, (true == x) = x ∧ (false == x) = !x ∧ (x == true) = x ∧ (x == false) = !x := by decide
 unfold eqB
 split
 ·exact (h _).1.symm
 ·rw [BE.neg_d]; exact (h _).2.1.symm
 ·exact (h _).2.2.1.symm
 ·rw [BE.neg_d]; exact (h _).2.2.2.symm
 ·rfl

def C.v (m : Nat → Nat) : C → Value
 |.i k x => .int k x.d
 |.b x => .bool x.d
 |.p g o => .pointer (some ⟨m g, o, none⟩)
 |.pd g o j _ => .pointer (some ⟨m g, o + j.toNat, none⟩)
 |.sl g o n c => .slice (some ⟨m g, o, none⟩) n c
def S.v (m : Nat → Nat) : S → List Value
 |.c u => [u.v m]
 |.a k xs _ => xs.map (Value.int k)
def vals (m : Nat → Nat) : List S → List Value
 |[] => []
 |s :: r => s.v m ++ vals m r
def PV.v (m : Nat → Nat) : PV → Value
 |.one c => c.v m
 |.agg ss => .agg (vals m ss).toArray
def SV.v (m : Nat → Nat) : SV → Value
 |.pv u => u.v m
 |.tup vs => .tuple (vs.map (PV.v m)).toArray
 |.und => undef
def C.ok (N : Nat) : C → Prop
 |.p g _ => g < N
 |.pd g _ j n => g < N ∧ 0 ≤ j ∧ j < n
 |.sl g _ _ _ => g < N
 |_ => True
def S.ok (N : Nat) : S → Prop
 |.c u => u.ok N
 |.a _ xs n => xs.length = n
def oks (N : Nat) : List S → Prop
 |[] => True
 |s :: r => s.ok N ∧ oks N r
def PV.ok (N : Nat) : PV → Prop
 |.one c => c.ok N
 |.agg ss => oks N ss
def SV.ok (N : Nat) : SV → Prop
 |.pv u => u.ok N
 |.tup vs => ∀ v ∈ vs, v.ok N
 |.und => True

theorem C.one (m : Nat → Nat) (c : C) : (c.v m).oneCell' = true := by cases c <;> rfl
theorem C.cells (m : Nat → Nat) (c : C) : (c.v m).cells = #[c.v m] := by cases c <;> rfl
theorem vals_append (m : Nat → Nat) (a b : List S) : vals m (a ++ b) = vals m a ++ vals m b := by
 induction a with
 |nil => rfl
 |cons s r ih => simp [vals, ih]
theorem oks_append {N : Nat} {a b : List S} : oks N (a ++ b) ↔ oks N a ∧ oks N b := by
 induction a with
 |nil => simp [oks]
 |cons s r ih => simp [oks, ih, and_assoc]
theorem S.length (m : Nat → Nat) {N : Nat} (s : S) (h : s.ok N) : (s.v m).length = s.len := by
 cases s with
 |c u => rfl
 |a k xs n =>
  show (xs.map (Value.int k)).length = n
  rw [List.length_map]; exact h
theorem vals_length (m : Nat → Nat) {N : Nat} (ss : List S) (h : oks N ss) : (vals m ss).length = lenS ss := by
 induction ss with
 |nil => rfl
 |cons s r ih => simp [vals, lenS, S.length m s h.1, ih h.2]
theorem vals_one (m : Nat → Nat) (ss : List S) : ∀ v ∈ vals m ss, v.oneCell' = true := by
 induction ss with
 |nil => simp [vals]
 |cons s r ih =>
  intro v hv
  rcases List.mem_append.1 hv with h | h
  ·cases s with
   |c u =>
    obtain rfl : v = u.v m := by simpa [S.v] using h
    exact C.one m u
   |a k xs n =>
    obtain ⟨x, _, rfl⟩ : ∃ x ∈ xs, Value.int k x = v := by simpa [S.v] using h
    rfl
  ·exact ih v h

theorem bcond {α : Type _} {b : Bool} {x y z : α} (h : (cnd (b) (x) <| y) = z) : (b = true ∧ x = z) ∨ (b = false ∧ y = z) := by
 cases b
 ·exact .inr ⟨rfl, h⟩
 ·exact .inl ⟨rfl, h⟩
theorem bsome {α : Type _} {b : Bool} {x : Option α} {r : α} (h : (cnd (b) (x) <| none) = some r) : b = true ∧ x = some r := by
 cases b
 ·cases h
 ·exact ⟨rfl, h⟩

theorem ofCells_v {vs : List Value} {ss : List S} (m : Nat → Nat) (N : Nat) (h : ofCells vs = some ss) : vals m ss = vs ∧ oks N ss := by
 induction vs generalizing ss with
 |nil => cases h; exact ⟨rfl, trivial⟩
 |cons v r ih =>
  unfold ofCells at h
  split at h
  ·next c cs h1 h2 =>
   cases h
   obtain ⟨e, o⟩ := ih h2
   have : c.v m = [v] ∧ c.ok N := by
    unfold ofCell at h1
    split at h1
    ·cases h1; exact ⟨rfl, trivial⟩
    ·next b => cases h1; exact ⟨by cases b <;> rfl, trivial⟩
    ·cases h1
   exact ⟨by simp [vals, this.1, e], this.2, o⟩
  ·cases h
theorem ofV_v {c : Value} {v : SV} (m : Nat → Nat) (N : Nat) (h : ofV c = some v) : v.v m = c ∧ v.ok N := by
 unfold ofV at h
 split at h
 ·cases h; exact ⟨rfl, trivial⟩
 ·next b => cases h; exact ⟨by cases b <;> rfl, trivial⟩
 ·next cs =>
  split at h
  ·next ss h1 =>
   cases h
   obtain ⟨e, o⟩ := ofCells_v m N h1
   refine ⟨?_, o⟩
   show Value.agg (vals m ss).toArray = _
   rw [e]
  ·cases h
 ·cases h

def Knows (m : Nat → Nat) (N : Nat) (env : List (Nat × SV)) (a : Act) : Prop := ∀ t v, look env t = some v → v.ok N ∧ a.tmps.getD t undef = v.v m
theorem ev_v {m : Nat → Nat} {N : Nat} {env : List (Nat × SV)} {a : Act} (hk : Knows m N env a) {x : Operand} {v : SV} (h : ev env x = some v) : v.ok N ∧ a.eval x = v.v m := by
 cases x with
 |tmp t => exact hk t v h
 |const c => obtain ⟨e, o⟩ := ofV_v m N h; exact ⟨o, e.symm⟩
 |global g => cases h
 |func f => cases h
theorem evs_v {m : Nat → Nat} {N : Nat} {env : List (Nat × SV)} {a : Act} (hk : Knows m N env a) {xs : List Operand} {vs : List PV} (h : evs env xs = some vs) : (∀ v ∈ vs, v.ok N) ∧ xs.map a.eval = vs.map (PV.v m) := by
 induction xs generalizing vs with
 |nil => cases h; exact ⟨by simp, rfl⟩
 |cons x r ih =>
  unfold evs at h
  split at h
  ·next v ws h1 h2 =>
   cases h
   obtain ⟨o, e⟩ := ev_v hk h1
   obtain ⟨o', e'⟩ := ih h2
   refine ⟨fun u hu => ?_, by simp [e, e', SV.v]⟩
   rcases List.mem_cons.1 hu with rfl | hu
   ·exact o
   ·exact o' u hu
  ·cases h

theorem binI_v {R : Type} (P : Program) (t : TypeId) {op : BinOp} {k k' : IntKind} {a b : IE} {K : C → Option R} {r : R} (m : Nat → Nat) (N : Nat) (h : binI op k k' a b K = some r) :
  ∃ c, K c = some r ∧ c.ok N ∧ ∀ w, (binOp op t (.int k a.d) (.int k' b.d)).run P w = .ok (c.v m) w := by
 have ite0 : ∀ {z : Option R}, b.ge0.ite z none = some r → 0 ≤ b.d ∧ z = some r := by
  intro z h
  rw [BE.ite_d, IE.ge0_d] at h
  by_cases c : 0 ≤ b.d
  ·exact ⟨c, by simpa [c] using h⟩
  ·simp [c] at h
 have itz : ∀ {z : Option R}, b.nz.ite none z = some r → b.d ≠ 0 ∧ z = some r := by
  intro z h
  rw [BE.ite_d, IE.nz_d] at h
  by_cases c : b.d = 0
  ·simp [c] at h
  ·exact ⟨c, by simpa [c] using h⟩
 cases op <;> unfold binI at h <;> simp only [] at h
 case shl =>
  obtain ⟨h0, h1⟩ := ite0 h
  exact ⟨_, h1, trivial, fun w => by simp [binOp, Op.shift, Int.not_lt.mpr h0, C.v, IE.mk2_d, shl]⟩
 case shr =>
  obtain ⟨h0, h1⟩ := ite0 h
  have hp : ∀ n : Nat, (0 : Int) ≤ 2 ^ n := fun n => Int.pow_nonneg (by decide)
  exact ⟨_, h1, trivial, fun w => by simp [binOp, Op.shift, Int.not_lt.mpr h0, C.v, IE.mk2_d, shr, Int.fdiv_eq_ediv_of_nonneg _ (hp _)]⟩
 all_goals (have hb := bsome h; clear h; obtain ⟨hk, h⟩ := hb; have he := of_decide_eq_true hk; clear hk; subst he)
 case quo =>
  obtain ⟨h0, h1⟩ := itz h
  exact ⟨_, h1, trivial, fun w => by simp [binOp, Op.intDiv, h0, C.v, IE.mk2_d, wrapF_eq]⟩
 case rem =>
  obtain ⟨h0, h1⟩ := itz h
  exact ⟨_, h1, trivial, fun w => by simp [binOp, Op.intDiv, h0, C.v, IE.mk2_d]⟩
 all_goals exact ⟨_, h, trivial, fun w => by simp [binOp, Op.intArith, Op.intBits, Op.intCmp, Go.bits, C.v, IE.mk2_d, IE.cmp_d, BE.neg_d, BE.d, wrapF_eq, bne, GT.gt, GE.ge]⟩
/- Cells of the reckoner and of the machine. -/

theorem splitS_v {ss : List S} : ∀ {n : Nat} {a b : List S}, splitS ss n = some (a, b) → ss = a ++ b ∧ lenS a = n := by
 induction ss with
 |nil =>
  intro n a b h
  obtain ⟨h0, h1⟩ := bsome h
  cases h1
  exact ⟨rfl, (Nat.eq_of_beq_eq_true h0).symm⟩
 |cons s r ih =>
  intro n a b h
  unfold splitS at h
  rcases bcond h with ⟨h0, h1⟩ | ⟨_, h1⟩
  ·cases h1
   exact ⟨rfl, (Nat.eq_of_beq_eq_true h0).symm⟩
  ·obtain ⟨h2, h3⟩ := bsome h1
   have h2 := Nat.le_of_ble_eq_true h2
   split at h3
   ·next a' b' h4 =>
    cases h3
    obtain ⟨e1, e2⟩ := ih h4
    exact ⟨by rw [e1]; rfl, by show s.len + lenS a' = n; omega⟩
   ·cases h3
theorem sub_v (m : Nat → Nat) {N : Nat} {ss a : List S} {o n : Nat} (ho : oks N ss) (h : sub ss o n = some a) : oks N a ∧ lenS a = n ∧ vals m a = ((vals m ss).drop o).take n ∧ o + n ≤ (vals m ss).length := by
 unfold sub at h
 split at h
 ·next p r h1 =>
  split at h
  ·next a' q h2 =>
   cases h
   obtain ⟨e1, l1⟩ := splitS_v h1
   obtain ⟨e2, l2⟩ := splitS_v h2
   subst e2
   subst e1
   rw [oks_append, oks_append] at ho
   obtain ⟨o1, o2, o3⟩ := ho
   have v1 := vals_length m p o1
   have v2 := vals_length m a o2
   refine ⟨o2, l2, ?_, ?_⟩
   ·rw [vals_append, vals_append, List.drop_append_of_le_length (by omega), List.drop_eq_nil_of_le (by omega), List.nil_append, List.take_append_of_le_length (by omega), List.take_of_length_le (by omega)]
   ·rw [vals_append, vals_append]; simp only [List.length_append]; omega
  ·cases h
 ·cases h
theorem cellAt_v (m : Nat → Nat) {N : Nat} {ss : List S} : ∀ {o : Nat} {c : C}, oks N ss → cellAt ss o = some c → c.ok N ∧ (vals m ss)[o]? = some (c.v m) := by
 induction ss with
 |nil => intro o c _ h; cases h
 |cons s r ih =>
  intro o c ho h
  cases s with
  |c u =>
   unfold cellAt at h
   rcases bcond h with ⟨h0, h1⟩ | ⟨h0, h1⟩
   ·cases h1
    obtain rfl := Nat.eq_of_beq_eq_true h0
    exact ⟨ho.1, rfl⟩
   ·obtain ⟨p, rfl⟩ : ∃ p, o = p + 1 := ⟨o - 1, by have := Nat.ne_of_beq_eq_false h0; omega⟩
    obtain ⟨a, b⟩ := ih ho.2 h1
    exact ⟨a, by simpa [vals, S.v] using b⟩
  |a k xs n =>
   have hl : xs.length = n := ho.1
   unfold cellAt at h
   rcases bcond h with ⟨h0, h1⟩ | ⟨h0, h1⟩
   ·cases h1
    have h0 : o < n := Nat.le_of_ble_eq_true h0
    refine ⟨trivial, ?_⟩
    show (xs.map (Value.int k) ++ vals m r)[o]? = some (.int k (rd xs (Int.ofNat o)))
    rw [List.getElem?_append_left (by rw [List.length_map]; omega), List.getElem?_map, List.getElem?_eq_getElem (by omega)]
    simp [rd, show o < xs.length by omega]
   ·have h0 : ¬ o < n := fun hh => by
     have : Nat.blt o n = true := Nat.ble_eq.mpr hh
     rw [this] at h0; cases h0
    obtain ⟨a, b⟩ := ih ho.2 h1
    refine ⟨a, ?_⟩
    show (xs.map (Value.int k) ++ vals m r)[o]? = some (c.v m)
    rw [List.getElem?_append_right (by rw [List.length_map]; omega), List.length_map, hl]
    exact b
theorem setAt_v (m : Nat → Nat) {N : Nat} {ss : List S} : ∀ {o : Nat} {c : C} {ss' : List S}, oks N ss → c.ok N → setAt ss o c = some ss' → oks N ss' ∧ vals m ss' = (vals m ss).set o (c.v m) ∧ o < (vals m ss).length ∧ lenS ss' = lenS ss := by
 induction ss with
 |nil => intro o c ss' _ _ h; cases h
 |cons s r ih =>
  intro o c ss' ho hc h
  cases s with
  |c u =>
   unfold setAt at h
   rcases bcond h with ⟨h0, h1⟩ | ⟨h0, h1⟩
   ·cases h1
    obtain rfl := Nat.eq_of_beq_eq_true h0
    exact ⟨⟨hc, ho.2⟩, rfl, by simp [vals, S.v], rfl⟩
   ·obtain ⟨p, rfl⟩ : ∃ p, o = p + 1 := ⟨o - 1, by have := Nat.ne_of_beq_eq_false h0; omega⟩
    split at h1
    ·next r' h2 =>
     cases h1
     obtain ⟨a, b, l, e⟩ := ih ho.2 hc h2
     exact ⟨⟨ho.1, a⟩, by simp only [Nat.add_sub_cancel] at b; simp [vals, S.v, b], by simp only [Nat.add_sub_cancel] at l; simp [vals, S.v]; omega, by simp [lenS, e]⟩
    ·cases h1
  |a k xs n =>
   have hl : xs.length = n := ho.1
   unfold setAt at h
   rcases bcond h with ⟨h0, h1⟩ | ⟨h0, h1⟩
   ·have h0 : o < n := Nat.le_of_ble_eq_true h0
    split at h1
    ·next k' v =>
     obtain ⟨h2, h3⟩ := bsome h1
     cases h3
     obtain rfl := of_decide_eq_true h2
     refine ⟨⟨by show (xs.set o v.d).length = n; rw [List.length_set]; exact hl, ho.2⟩, ?_, ?_, rfl⟩
     ·show (xs.set o v.d).map (Value.int k') ++ vals m r = (xs.map (Value.int k') ++ vals m r).set o (.int k' v.d)
      rw [List.set_append_left _ _ (by rw [List.length_map]; omega), List.map_set]
     ·show o < (xs.map (Value.int k') ++ vals m r).length
      rw [List.length_append, List.length_map]; omega
    ·cases h1
   ·have h0 : ¬ o < n := fun hh => by
     have : Nat.blt o n = true := Nat.ble_eq.mpr hh
     rw [this] at h0; cases h0
    split at h1
    ·next r' h2 =>
     cases h1
     obtain ⟨a, b, l, e⟩ := ih ho.2 hc h2
     refine ⟨⟨ho.1, a⟩, ?_, ?_, by simp [lenS, e]⟩
     ·show xs.map (Value.int k) ++ vals m r' = (xs.map (Value.int k) ++ vals m r).set o (c.v m)
      rw [List.set_append_right _ _ (by rw [List.length_map]; omega), List.length_map, hl, b]
     ·show o < (xs.map (Value.int k) ++ vals m r).length
      rw [List.length_append, List.length_map]; omega
    ·cases h1
theorem runAt_v (m : Nat → Nat) {N : Nat} {ss : List S} : ∀ {o n : Nat} {k : IntKind} {xs : List Int}, oks N ss → runAt ss o = some (k, xs, n) → xs.length = n ∧ ∃ a b, vals m ss = a ++ (xs.map (Value.int k) ++ b) ∧ a.length = o := by
 induction ss with
 |nil => intro o n k xs _ h; cases h
 |cons s r ih =>
  intro o n k xs ho h
  cases s with
  |c u =>
   unfold runAt at h
   rcases bcond h with ⟨h0, h1⟩ | ⟨h0, h1⟩
   ·cases h1
   ·obtain ⟨p, rfl⟩ : ∃ p, o = p + 1 := ⟨o - 1, by have := Nat.ne_of_beq_eq_false h0; omega⟩
    obtain ⟨l, a, b, e, la⟩ := ih ho.2 h1
    exact ⟨l, u.v m :: a, b, by simp [vals, S.v, e], by simpa using la⟩
  |a k' xs' n' =>
   have hl : xs'.length = n' := ho.1
   unfold runAt at h
   rcases bcond h with ⟨h0, h1⟩ | ⟨h0, h1⟩
   ·cases h1
    obtain rfl := Nat.eq_of_beq_eq_true h0
    exact ⟨hl, [], vals m r, rfl, rfl⟩
   ·obtain ⟨h2, h3⟩ := bsome h1
    have h2 := Nat.le_of_ble_eq_true h2
    obtain ⟨l, a, b, e, la⟩ := ih ho.2 h3
    exact ⟨l, xs'.map (Value.int k') ++ a, b, by simp [vals, S.v, e], by simp [la]; omega⟩
theorem setRun_v (m : Nat → Nat) {N : Nat} {ss : List S} : ∀ {o n i : Nat} {k : IntKind} {xs : List Int} {y : Int}, oks N ss → runAt ss o = some (k, xs, n) → i < n →
  oks N (setRun ss o (xs.set i y)) ∧ vals m (setRun ss o (xs.set i y)) = (vals m ss).set (o + i) (.int k y) ∧ o + i < (vals m ss).length ∧ lenS (setRun ss o (xs.set i y)) = lenS ss := by
 induction ss with
 |nil => intro o n i k xs y _ h; cases h
 |cons s r ih =>
  intro o n i k xs y ho h hi
  cases s with
  |c u =>
   unfold runAt at h
   rcases bcond h with ⟨h0, h1⟩ | ⟨h0, h1⟩
   ·cases h1
   ·obtain ⟨p, rfl⟩ : ∃ p, o = p + 1 := ⟨o - 1, by have := Nat.ne_of_beq_eq_false h0; omega⟩
    obtain ⟨a, b, l, e⟩ := ih (y := y) ho.2 h1 hi
    have hs : setRun (.c u :: r) (p + 1) (xs.set i y) = .c u :: setRun r p (xs.set i y) := rfl
    simp only [Nat.add_sub_cancel] at a b l e
    rw [hs]
    refine ⟨⟨ho.1, a⟩, ?_, ?_, by simp [lenS, e]⟩
    ·show u.v m :: vals m (setRun r p (xs.set i y)) = (u.v m :: vals m r).set (p + 1 + i) (.int k y)
     rw [b, show p + 1 + i = (p + i) + 1 by omega, List.set_cons_succ]
    ·show p + 1 + i < (u.v m :: vals m r).length
     rw [List.length_cons]; omega
  |a k' xs' n' =>
   have hl : xs'.length = n' := ho.1
   unfold runAt at h
   rcases bcond h with ⟨h0, h1⟩ | ⟨h0, h1⟩
   ·cases h1
    obtain rfl := Nat.eq_of_beq_eq_true h0
    have hs : setRun (.a k xs n :: r) 0 (xs.set i y) = .a k (xs.set i y) n :: r := rfl
    rw [hs]
    refine ⟨⟨by show (xs.set i y).length = n; rw [List.length_set]; exact hl, ho.2⟩, ?_, ?_, rfl⟩
    ·show (xs.set i y).map (Value.int k) ++ vals m r = (xs.map (Value.int k) ++ vals m r).set (0 + i) (.int k y)
     rw [Nat.zero_add, List.set_append_left _ _ (by rw [List.length_map]; omega), List.map_set]
    ·show 0 + i < (xs.map (Value.int k) ++ vals m r).length
     rw [List.length_append, List.length_map]; omega
   ·obtain ⟨h2, h3⟩ := bsome h1
    have h2 := Nat.le_of_ble_eq_true h2
    obtain ⟨a, b, l, e⟩ := ih (y := y) ho.2 h3 hi
    have hs : setRun (.a k' xs' n' :: r) o (xs.set i y) = .a k' xs' n' :: setRun r (o - n') (xs.set i y) := by simp [setRun, h0]
    rw [hs]
    refine ⟨⟨ho.1, a⟩, ?_, ?_, by simp [lenS, e]⟩
    ·show xs'.map (Value.int k') ++ vals m (setRun r (o - n') (xs.set i y)) = (xs'.map (Value.int k') ++ vals m r).set (o + i) (.int k y)
     rw [List.set_append_right _ _ (by rw [List.length_map]; omega), List.length_map, b, hl, show o + i - n' = o - n' + i by omega]
    ·show o + i < (xs'.map (Value.int k') ++ vals m r).length
     rw [List.length_append, List.length_map]; omega
theorem lenS_append (a b : List S) : lenS (a ++ b) = lenS a + lenS b := by
 induction a with
 |nil => simp [lenS]
 |cons s r ih => simp [lenS, ih, Nat.add_assoc]
theorem setSub_v (m : Nat → Nat) {N : Nat} {ss new ss' : List S} {o : Nat} (ho : oks N ss) (hn : oks N new) (h : setSub ss o new = some ss') :
  oks N ss' ∧ vals m ss' = (vals m ss).take o ++ (vals m new ++ (vals m ss).drop (o + lenS new)) ∧ o + lenS new ≤ (vals m ss).length ∧ lenS ss' = lenS ss := by
 unfold setSub at h
 split at h
 ·next a r h1 =>
  split at h
  ·next q b h2 =>
   cases h
   obtain ⟨e1, l1⟩ := splitS_v h1
   obtain ⟨e2, l2⟩ := splitS_v h2
   subst e2
   subst e1
   rw [oks_append, oks_append] at ho
   obtain ⟨o1, o2, o3⟩ := ho
   have v1 := vals_length m a o1
   have v2 := vals_length m q o2
   refine ⟨by rw [oks_append, oks_append]; exact ⟨o1, hn, o3⟩, ?_, ?_, by simp only [lenS_append]; omega⟩
   ·have t1 : (vals m a ++ (vals m q ++ vals m b)).take o = vals m a := List.take_left' (by omega)
    have t2 : (vals m a ++ (vals m q ++ vals m b)).drop (o + lenS new) = vals m b := by
     rw [← List.append_assoc]; exact List.drop_left' (by rw [List.length_append]; omega)
    rw [vals_append, vals_append, vals_append, vals_append, t1, t2]
   ·rw [vals_append, vals_append]; simp only [List.length_append]; omega
  ·cases h
 ·cases h
theorem isLit_go {k : IntKind} : ∀ {xs : List Int} {n : Nat} {vs q : List Value}, isLit.go k xs n vs = some q → vs = xs.map (Value.int k) ++ q ∧ xs.length = n := by
 intro xs
 induction xs with
 |nil =>
  intro n vs q h
  cases n with
  |zero => cases h; exact ⟨rfl, rfl⟩
  |succ n => cases h
 |cons x xs ih =>
  intro n vs q h
  cases n with
  |zero => cases h
  |succ n =>
   cases vs with
   |nil => cases h
   |cons v vs =>
    cases v with
    |int k' y =>
     unfold isLit.go at h
     obtain ⟨h0, h1⟩ := bsome h
     rw [Bool.and_eq_true] at h0
     obtain rfl := of_decide_eq_true h0.1
     obtain rfl := eq_of_beq h0.2
     obtain ⟨e, l⟩ := ih h1
     exact ⟨by rw [e]; rfl, by simp [l]⟩
    |_ => cases h
theorem isLit_v (m : Nat → Nat) (N : Nat) {s : S} {vs q : List Value} (h : isLit s vs = some q) : vs = s.v m ++ q ∧ s.ok N := by
 unfold isLit at h
 split at h
 ·obtain ⟨h0, h1⟩ := bsome h
  cases h1
  rw [Bool.and_eq_true] at h0
  obtain rfl := of_decide_eq_true h0.1
  obtain rfl := eq_of_beq h0.2
  exact ⟨rfl, trivial⟩
 ·cases h; exact ⟨rfl, trivial⟩
 ·exact isLit_go h
 ·cases h
theorem areLit_v (m : Nat → Nat) (N : Nat) {ss : List S} : ∀ {vs : List Value}, areLit ss vs = true → vals m ss = vs ∧ oks N ss := by
 induction ss with
 |nil =>
  intro vs h
  cases vs with
  |nil => exact ⟨rfl, trivial⟩
  |cons v vs => cases h
 |cons s r ih =>
  intro vs h
  unfold areLit at h
  split at h
  ·next q h1 =>
   obtain ⟨e, o⟩ := isLit_v m N h1
   obtain ⟨e', o'⟩ := ih h
   exact ⟨by rw [e, ← e']; rfl, o, o'⟩
  ·cases h

section
variable {P : Program}
theorem zeroS_v (m : Nat → Nat) (N : Nat) {t : Nat} {ss : List S} (h : zeroS P t = some ss) : oks N ss ∧ ∃ v, v.cells.toList = vals m ss ∧ ∀ w, (zeroValue t).run P w = .ok v w := by
 unfold zeroS at h
 split at h
 ·next i h1 =>
  split at h
  ·next v h2 =>
   split at h
   ·next ss' _ =>
    obtain ⟨h3, h4⟩ := bsome h
    cases h4
    obtain ⟨e, o⟩ := areLit_v m N h3
    exact ⟨o, v, e.symm, fun w => by simp [zeroValue, typeInfo, h1, h2]⟩
   ·cases h
  ·cases h
 ·cases h
theorem sizeT_v {t n : Nat} (h : sizeT P t = some n) (w : World) : (sizeOf t).run P w = .ok n w := by
 unfold sizeT at h
 split at h
 ·next i h1 => cases h; simp [sizeOf, typeInfo, h1]
 ·cases h
theorem sizeT_info {t n : Nat} (h : sizeT P t = some n) : (P.info? t).map (·.size) = some n := by
 unfold sizeT at h
 split at h
 ·next i h1 => cases h; rw [h1]; rfl
 ·cases h
theorem isAggT_v {t : Nat} {b : Bool} (h : isAggT P t = some b) (w : World) : (isAgg t).run P w = .ok b w := by
 unfold isAggT at h
 cases hu : P.underlying t with
 |none => rw [hu] at h; cases h
 |some d =>
  rw [hu] at h
  cases d <;> cases h <;> simp [isAgg, underlying, hu]
theorem partS_v (m : Nat → Nat) {N : Nat} {t o : Nat} {ss : List S} {v : PV} (ho : oks N ss) (h : partS P t ss o = some v) : v.ok N ∧ ∀ w, (part t (vals m ss).toArray o).run P w = .ok (v.v m) w := by
 unfold partS at h
 split at h
 ·next n h1 h2 =>
  split at h
  ·next r h3 =>
   cases h
   obtain ⟨a, b, c, d⟩ := sub_v m ho h3
   refine ⟨a, fun w => ?_⟩
   have h1 := isAggT_v h1
   have h2 := sizeT_v h2
   simp [part, h1, h2, PV.v]
   exact c.symm
  ·cases h
 ·next n h1 h2 =>
  split at h
  ·next c h3 =>
   cases h
   obtain ⟨a, b⟩ := cellAt_v m ho h3
   have h1 := isAggT_v h1
   exact ⟨a, fun w => by simp [part, h1, b, PV.v]⟩
  ·cases h
 ·cases h
end
end Go.Proofs.Ytejkemahdincjaa.Ek
