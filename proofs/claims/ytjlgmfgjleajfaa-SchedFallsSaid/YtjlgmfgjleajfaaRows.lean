/-
  No cell of these rows narrows 'for every input' (looked for: loops, veiled, ifaces, maps, wideKeys, modest, calm, conditions, laid).
  DERIVED. THE GIVEN ROWS OF THIS SEAT. 3 by the template 'for every input the law returns true; each argument reads behind the call as it read before'; 0 by the template 'total and deterministic' (their statements: YtjlgmfgjleajfaaTotals.lean).
  GIVEN WITH THE SEED: the statements are not yours to turn. If you find one false, say at which input.
  Laid BY PROGRAM, IN A SANDBOX (cutbox-rows.mjs): the forced cells as the released guide's own fill.sh prints them over the translation 7261fb80a4448be2… (all of the seat's roots in one cut). By AI agents, Wed Nov 11 2026. No macro, syntax, notation, axiom, sorry.
-/
import Derived.Test.YtjlgmfgjleajfaaChecked
import GoSem.Claim
import GoSem.ClaimJoined
import GoSem.ClaimMapViews
import Derived.JoinedTies
import Derived.KernelRfl
namespace Go.Proofs.Ytjlgmfgjleajfaa
/- THE CELL 'sum', in the pinned program and in every row, IS THE sha256 OF THE DUMP (.gsa) THAT YtjlgmfgjleajfaaProg.lean LOADS. Nothing in Lean hashes anything: it is a label: what it is worth is what the hold of that sum in a sandbox is worth. -/
noncomputable def Try.pinned : Pinned := { name := "ytjlgmfgjleajfaa", sum := "7261fb80a4448be2b5aa628376d563154e2c27ae1f4c167cea237f6b3a1edf05", checked := Try.checked }
namespace Rows
def none {H : Type} : Left H := { results := [], args := [] }

/-- 'anneallaw20.SchedWarms': WHATEVER THE INPUT: true; the input reads as it did. -/
def schedWarmsSpec : ChangeSpec := { name := "schedWarms", fn := fun _ => fun
  | [d1, d2, d3] => { results := [.lit (.bool true)], args := [d1, d2, d3] }
  | _ => none }
def schedWarmsRow : OpenClaim := { program := "ytjlgmfgjleajfaa", sum := "7261fb80a4448be2b5aa628376d563154e2c27ae1f4c167cea237f6b3a1edf05", func := "anneal/anneallaw20.SchedWarms", spec := "schedWarms", apart := false }
def SchedWarmsSaid : Prop := schedWarmsRow.holds Try.pinned (OpenSpec.ofChange schedWarmsSpec)

/-- ITS FALSE NEIGHBOUR: 'it returns false'. Refute it at one input. -/
def schedWarmsWrong : ChangeSpec := { name := "schedWarms", fn := fun _ => fun
  | [d1, d2, d3] => { results := [.lit (.bool false)], args := [d1, d2, d3] }
  | _ => none }
def SchedWarmsWrongFalsely : Prop := schedWarmsRow.holds Try.pinned (OpenSpec.ofChange schedWarmsWrong)

/-- 'anneallaw20.SchedEnds': WHATEVER THE INPUT: true; the input reads as it did. -/
def schedEndsSpec : ChangeSpec := { name := "schedEnds", fn := fun _ => fun
  | [d1, d2, d3] => { results := [.lit (.bool true)], args := [d1, d2, d3] }
  | _ => none }
def schedEndsRow : OpenClaim := { program := "ytjlgmfgjleajfaa", sum := "7261fb80a4448be2b5aa628376d563154e2c27ae1f4c167cea237f6b3a1edf05", func := "anneal/anneallaw20.SchedEnds", spec := "schedEnds", apart := false }
def SchedEndsSaid : Prop := schedEndsRow.holds Try.pinned (OpenSpec.ofChange schedEndsSpec)

/-- ITS FALSE NEIGHBOUR: 'it returns false'. Refute it at one input. -/
def schedEndsWrong : ChangeSpec := { name := "schedEnds", fn := fun _ => fun
  | [d1, d2, d3] => { results := [.lit (.bool false)], args := [d1, d2, d3] }
  | _ => none }
def SchedEndsWrongFalsely : Prop := schedEndsRow.holds Try.pinned (OpenSpec.ofChange schedEndsWrong)

/-- 'anneallaw20.SchedFalls': WHATEVER THE INPUT: true; the input reads as it did. -/
def schedFallsSpec : ChangeSpec := { name := "schedFalls", fn := fun _ => fun
  | [d1, d2] => { results := [.lit (.bool true)], args := [d1, d2] }
  | _ => none }
def schedFallsRow : OpenClaim := { program := "ytjlgmfgjleajfaa", sum := "7261fb80a4448be2b5aa628376d563154e2c27ae1f4c167cea237f6b3a1edf05", func := "anneal/anneallaw20.SchedFalls", spec := "schedFalls", apart := false }
def SchedFallsSaid : Prop := schedFallsRow.holds Try.pinned (OpenSpec.ofChange schedFallsSpec)

/-- ITS FALSE NEIGHBOUR: 'it returns false'. Refute it at one input. -/
def schedFallsWrong : ChangeSpec := { name := "schedFalls", fn := fun _ => fun
  | [d1, d2] => { results := [.lit (.bool false)], args := [d1, d2] }
  | _ => none }
def SchedFallsWrongFalsely : Prop := schedFallsRow.holds Try.pinned (OpenSpec.ofChange schedFallsWrong)

/- THE SECOND FORM. 'bulk': how many values and letters a reading holds, each counted each time it is reached (what is shared counts as often as it is met; a slice's spare places count too). A statement '..UptoSaid' is the law's where the arguments, and the package variables that the reading takes, are together of bulk at most 1048576: NARROWER than '..Said'. Prove '..Said' where nothing that the law and all that it calls make is longer than what came in: it says more and counts as full. Else prove '..UptoSaid'. A law counts once. -/
mutual
def uptoBulk {H : Type} : DataW H → Nat
  | .lit (.string bytes) => bytes.length + 1
  | .lit _ => 1
  | .nil => 1
  | .ptr d => uptoBulk d + 1
  | .slice elems spare => uptoBulkAll elems + uptoBulkAll spare + 1
  | .agg parts => uptoBulkAll parts + 1
  | .iface _ d => uptoBulk d + 1
  | .map entries => uptoBulkEntries entries + 1
  | .held _ => 1
def uptoBulkAll {H : Type} : List (DataW H) → Nat
  | [] => 0
  | d :: r => uptoBulk d + uptoBulkAll r
def uptoBulkEntries {H : Type} : List (Lit × DataW H) → Nat
  | [] => 0
  | x :: r => uptoBulkEntry x + uptoBulkEntries r
def uptoBulkEntry {H : Type} : Lit × DataW H → Nat
  | (.string bytes, d) => bytes.length + uptoBulk d + 1
  | (_, d) => uptoBulk d + 1
 end
def uptoSmall : (H : Type) → List (DataW H) → Bool := fun _ ds => decide (uptoBulkAll ds ≤ 1048576)
def OpenSpec.upto (s : _root_.Go.ChangeSpec) : _root_.Go.OpenSpec := { _root_.Go.OpenSpec.ofChange s with cond := some uptoSmall }

/-- 'anneallaw20.SchedWarms', WHERE WHAT IT READS IS OF BULK AT MOST 1048576: true; the input reads as it did. -/
def schedWarmsUptoRow : OpenClaim := { program := "ytjlgmfgjleajfaa", sum := "7261fb80a4448be2b5aa628376d563154e2c27ae1f4c167cea237f6b3a1edf05", func := "anneal/anneallaw20.SchedWarms", spec := "schedWarms", apart := false, narrowed := true }
def SchedWarmsUptoSaid : Prop := schedWarmsUptoRow.holds Try.pinned (OpenSpec.upto schedWarmsSpec)

/-- 'anneallaw20.SchedEnds', WHERE WHAT IT READS IS OF BULK AT MOST 1048576: true; the input reads as it did. -/
def schedEndsUptoRow : OpenClaim := { program := "ytjlgmfgjleajfaa", sum := "7261fb80a4448be2b5aa628376d563154e2c27ae1f4c167cea237f6b3a1edf05", func := "anneal/anneallaw20.SchedEnds", spec := "schedEnds", apart := false, narrowed := true }
def SchedEndsUptoSaid : Prop := schedEndsUptoRow.holds Try.pinned (OpenSpec.upto schedEndsSpec)

/-- 'anneallaw20.SchedFalls', WHERE WHAT IT READS IS OF BULK AT MOST 1048576: true; the input reads as it did. -/
def schedFallsUptoRow : OpenClaim := { program := "ytjlgmfgjleajfaa", sum := "7261fb80a4448be2b5aa628376d563154e2c27ae1f4c167cea237f6b3a1edf05", func := "anneal/anneallaw20.SchedFalls", spec := "schedFalls", apart := false, narrowed := true }
def SchedFallsUptoSaid : Prop := schedFallsUptoRow.holds Try.pinned (OpenSpec.upto schedFallsSpec)

end Rows
end Go.Proofs.Ytjlgmfgjleajfaa
