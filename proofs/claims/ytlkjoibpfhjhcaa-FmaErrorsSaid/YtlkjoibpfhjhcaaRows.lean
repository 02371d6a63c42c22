/-
  No cell of these rows narrows 'for every input' (looked for: loops, veiled, ifaces, maps, wideKeys, modest, calm, conditions, laid).
  DERIVED. THE GIVEN ROWS OF THIS SEAT. 6 by the template 'for every input the law returns true; each argument reads behind the call as it read before'; 0 by the template 'total and deterministic' (their statements: YtlkjoibpfhjhcaaTotals.lean).
  GIVEN WITH THE SEED: the statements are not yours to turn. If you find one false, say at which input.
  Laid BY PROGRAM, IN A SANDBOX (cutbox-rows.mjs): the forced cells as the released guide's own fill.sh prints them over the translation b22512eb70481a57… (all of the seat's roots in one cut). By AI agents, Wed Nov 11 2026. No macro, syntax, notation, axiom, sorry.
-/
import Derived.Test.YtlkjoibpfhjhcaaChecked
import GoSem.Claim
import GoSem.ClaimJoined
import GoSem.ClaimMapViews
import Derived.JoinedTies
import Derived.KernelRfl
namespace Go.Proofs.Ytlkjoibpfhjhcaa
/- THE CELL 'sum', in the pinned program and in every row, IS THE sha256 OF THE DUMP (.gsa) THAT YtlkjoibpfhjhcaaProg.lean LOADS. Nothing in Lean hashes anything: it is a label: what it is worth is what the hold of that sum in a sandbox is worth. -/
noncomputable def Try.pinned : Pinned := { name := "ytlkjoibpfhjhcaa", sum := "b22512eb70481a57fec6ee4bfe2b46b5704746492a8c366001f071bb18e9bf3c", checked := Try.checked }
namespace Rows
def none {H : Type} : Left H := { results := [], args := [] }

/-- 'anneallaw4.SumTurns': WHATEVER THE INPUT: true; the input reads as it did. -/
def sumTurnsSpec : ChangeSpec := { name := "sumTurns", fn := fun _ => fun
  | [d1, d2, d3, d4] => { results := [.lit (.bool true)], args := [d1, d2, d3, d4] }
  | _ => none }
def sumTurnsRow : OpenClaim := { program := "ytlkjoibpfhjhcaa", sum := "b22512eb70481a57fec6ee4bfe2b46b5704746492a8c366001f071bb18e9bf3c", func := "anneal/anneallaw4.SumTurns", spec := "sumTurns", apart := false }
def SumTurnsSaid : Prop := sumTurnsRow.holds Try.pinned (OpenSpec.ofChange sumTurnsSpec)

/-- ITS FALSE NEIGHBOUR: 'it returns false'. Refute it at one input. -/
def sumTurnsWrong : ChangeSpec := { name := "sumTurns", fn := fun _ => fun
  | [d1, d2, d3, d4] => { results := [.lit (.bool false)], args := [d1, d2, d3, d4] }
  | _ => none }
def SumTurnsWrongFalsely : Prop := sumTurnsRow.holds Try.pinned (OpenSpec.ofChange sumTurnsWrong)

/-- 'anneallaw4.SumExact': WHATEVER THE INPUT: true; the input reads as it did. -/
def sumExactSpec : ChangeSpec := { name := "sumExact", fn := fun _ => fun
  | [d1, d2, d3] => { results := [.lit (.bool true)], args := [d1, d2, d3] }
  | _ => none }
def sumExactRow : OpenClaim := { program := "ytlkjoibpfhjhcaa", sum := "b22512eb70481a57fec6ee4bfe2b46b5704746492a8c366001f071bb18e9bf3c", func := "anneal/anneallaw4.SumExact", spec := "sumExact", apart := false }
def SumExactSaid : Prop := sumExactRow.holds Try.pinned (OpenSpec.ofChange sumExactSpec)

/-- ITS FALSE NEIGHBOUR: 'it returns false'. Refute it at one input. -/
def sumExactWrong : ChangeSpec := { name := "sumExact", fn := fun _ => fun
  | [d1, d2, d3] => { results := [.lit (.bool false)], args := [d1, d2, d3] }
  | _ => none }
def SumExactWrongFalsely : Prop := sumExactRow.holds Try.pinned (OpenSpec.ofChange sumExactWrong)

/-- 'anneallaw4.SumNoughts': WHATEVER THE INPUT: true; the input reads as it did. -/
def sumNoughtsSpec : ChangeSpec := { name := "sumNoughts", fn := fun _ => fun
  | [d1, d2, d3, d4, d5] => { results := [.lit (.bool true)], args := [d1, d2, d3, d4, d5] }
  | _ => none }
def sumNoughtsRow : OpenClaim := { program := "ytlkjoibpfhjhcaa", sum := "b22512eb70481a57fec6ee4bfe2b46b5704746492a8c366001f071bb18e9bf3c", func := "anneal/anneallaw4.SumNoughts", spec := "sumNoughts", apart := false }
def SumNoughtsSaid : Prop := sumNoughtsRow.holds Try.pinned (OpenSpec.ofChange sumNoughtsSpec)

/-- ITS FALSE NEIGHBOUR: 'it returns false'. Refute it at one input. -/
def sumNoughtsWrong : ChangeSpec := { name := "sumNoughts", fn := fun _ => fun
  | [d1, d2, d3, d4, d5] => { results := [.lit (.bool false)], args := [d1, d2, d3, d4, d5] }
  | _ => none }
def SumNoughtsWrongFalsely : Prop := sumNoughtsRow.holds Try.pinned (OpenSpec.ofChange sumNoughtsWrong)

/-- 'anneallaw5.ProdTells': WHATEVER THE INPUT: true; the input reads as it did. -/
def prodTellsSpec : ChangeSpec := { name := "prodTells", fn := fun _ => fun
  | [d1, d2, d3, d4, d5, d6] => { results := [.lit (.bool true)], args := [d1, d2, d3, d4, d5, d6] }
  | _ => none }
def prodTellsRow : OpenClaim := { program := "ytlkjoibpfhjhcaa", sum := "b22512eb70481a57fec6ee4bfe2b46b5704746492a8c366001f071bb18e9bf3c", func := "anneal/anneallaw5.ProdTells", spec := "prodTells", apart := false }
def ProdTellsSaid : Prop := prodTellsRow.holds Try.pinned (OpenSpec.ofChange prodTellsSpec)

/-- ITS FALSE NEIGHBOUR: 'it returns false'. Refute it at one input. -/
def prodTellsWrong : ChangeSpec := { name := "prodTells", fn := fun _ => fun
  | [d1, d2, d3, d4, d5, d6] => { results := [.lit (.bool false)], args := [d1, d2, d3, d4, d5, d6] }
  | _ => none }
def ProdTellsWrongFalsely : Prop := prodTellsRow.holds Try.pinned (OpenSpec.ofChange prodTellsWrong)

/-- 'anneallaw5.ProdOnes': WHATEVER THE INPUT: true; the input reads as it did. -/
def prodOnesSpec : ChangeSpec := { name := "prodOnes", fn := fun _ => fun
  | [d1, d2, d3, d4] => { results := [.lit (.bool true)], args := [d1, d2, d3, d4] }
  | _ => none }
def prodOnesRow : OpenClaim := { program := "ytlkjoibpfhjhcaa", sum := "b22512eb70481a57fec6ee4bfe2b46b5704746492a8c366001f071bb18e9bf3c", func := "anneal/anneallaw5.ProdOnes", spec := "prodOnes", apart := false }
def ProdOnesSaid : Prop := prodOnesRow.holds Try.pinned (OpenSpec.ofChange prodOnesSpec)

/-- ITS FALSE NEIGHBOUR: 'it returns false'. Refute it at one input. -/
def prodOnesWrong : ChangeSpec := { name := "prodOnes", fn := fun _ => fun
  | [d1, d2, d3, d4] => { results := [.lit (.bool false)], args := [d1, d2, d3, d4] }
  | _ => none }
def ProdOnesWrongFalsely : Prop := prodOnesRow.holds Try.pinned (OpenSpec.ofChange prodOnesWrong)

/-- 'anneallaw5.FmaErrors': WHATEVER THE INPUT: true; the input reads as it did. -/
def fmaErrorsSpec : ChangeSpec := { name := "fmaErrors", fn := fun _ => fun
  | [d1, d2] => { results := [.lit (.bool true)], args := [d1, d2] }
  | _ => none }
def fmaErrorsRow : OpenClaim := { program := "ytlkjoibpfhjhcaa", sum := "b22512eb70481a57fec6ee4bfe2b46b5704746492a8c366001f071bb18e9bf3c", func := "anneal/anneallaw5.FmaErrors", spec := "fmaErrors", apart := false }
def FmaErrorsSaid : Prop := fmaErrorsRow.holds Try.pinned (OpenSpec.ofChange fmaErrorsSpec)

/-- ITS FALSE NEIGHBOUR: 'it returns false'. Refute it at one input. -/
def fmaErrorsWrong : ChangeSpec := { name := "fmaErrors", fn := fun _ => fun
  | [d1, d2] => { results := [.lit (.bool false)], args := [d1, d2] }
  | _ => none }
def FmaErrorsWrongFalsely : Prop := fmaErrorsRow.holds Try.pinned (OpenSpec.ofChange fmaErrorsWrong)

/- THE SECOND FORM. 'bulk': how many values and letters a reading holds, each counted each time it is reached (what is shared counts as often as it is met; a slice's spare places count too). A statement '..UptoSaid' is the law's where the arguments, and the package variables that the reading takes, are together of bulk at most 1048576: NARROWER than '..Said'. Prove '..Said' where nothing that the law and all that it calls make is longer than what came in: it says more and counts as full. Else prove '..UptoSaid'. A law counts once. -/
mutual
def uptoBulk {H : Type} : DataW H → Nat
  | .lit (.string bytes) => bytes.length + 1
  | .lit _ => 1
  | .nil => 1
  | .ptr d => uptoBulk d + 1
  | .slice elems spare => uptoBulkAll elems + uptoBulkAll spare + 1
  | .agg parts => uptoBulkAll parts + 1
  | .iface _ d => uptoBulk d + 1
  | .map entries => uptoBulkEntries entries + 1
  | .held _ => 1
def uptoBulkAll {H : Type} : List (DataW H) → Nat
  | [] => 0
  | d :: r => uptoBulk d + uptoBulkAll r
def uptoBulkEntries {H : Type} : List (Lit × DataW H) → Nat
  | [] => 0
  | x :: r => uptoBulkEntry x + uptoBulkEntries r
def uptoBulkEntry {H : Type} : Lit × DataW H → Nat
  | (.string bytes, d) => bytes.length + uptoBulk d + 1
  | (_, d) => uptoBulk d + 1
 end
def uptoSmall : (H : Type) → List (DataW H) → Bool := fun _ ds => decide (uptoBulkAll ds ≤ 1048576)
def OpenSpec.upto (s : _root_.Go.ChangeSpec) : _root_.Go.OpenSpec := { _root_.Go.OpenSpec.ofChange s with cond := some uptoSmall }

/-- 'anneallaw4.SumTurns', WHERE WHAT IT READS IS OF BULK AT MOST 1048576: true; the input reads as it did. -/
def sumTurnsUptoRow : OpenClaim := { program := "ytlkjoibpfhjhcaa", sum := "b22512eb70481a57fec6ee4bfe2b46b5704746492a8c366001f071bb18e9bf3c", func := "anneal/anneallaw4.SumTurns", spec := "sumTurns", apart := false, narrowed := true }
def SumTurnsUptoSaid : Prop := sumTurnsUptoRow.holds Try.pinned (OpenSpec.upto sumTurnsSpec)

/-- 'anneallaw4.SumExact', WHERE WHAT IT READS IS OF BULK AT MOST 1048576: true; the input reads as it did. -/
def sumExactUptoRow : OpenClaim := { program := "ytlkjoibpfhjhcaa", sum := "b22512eb70481a57fec6ee4bfe2b46b5704746492a8c366001f071bb18e9bf3c", func := "anneal/anneallaw4.SumExact", spec := "sumExact", apart := false, narrowed := true }
def SumExactUptoSaid : Prop := sumExactUptoRow.holds Try.pinned (OpenSpec.upto sumExactSpec)

/-- 'anneallaw4.SumNoughts', WHERE WHAT IT READS IS OF BULK AT MOST 1048576: true; the input reads as it did. -/
def sumNoughtsUptoRow : OpenClaim := { program := "ytlkjoibpfhjhcaa", sum := "b22512eb70481a57fec6ee4bfe2b46b5704746492a8c366001f071bb18e9bf3c", func := "anneal/anneallaw4.SumNoughts", spec := "sumNoughts", apart := false, narrowed := true }
def SumNoughtsUptoSaid : Prop := sumNoughtsUptoRow.holds Try.pinned (OpenSpec.upto sumNoughtsSpec)

/-- 'anneallaw5.ProdTells', WHERE WHAT IT READS IS OF BULK AT MOST 1048576: true; the input reads as it did. -/
def prodTellsUptoRow : OpenClaim := { program := "ytlkjoibpfhjhcaa", sum := "b22512eb70481a57fec6ee4bfe2b46b5704746492a8c366001f071bb18e9bf3c", func := "anneal/anneallaw5.ProdTells", spec := "prodTells", apart := false, narrowed := true }
def ProdTellsUptoSaid : Prop := prodTellsUptoRow.holds Try.pinned (OpenSpec.upto prodTellsSpec)

/-- 'anneallaw5.ProdOnes', WHERE WHAT IT READS IS OF BULK AT MOST 1048576: true; the input reads as it did. -/
def prodOnesUptoRow : OpenClaim := { program := "ytlkjoibpfhjhcaa", sum := "b22512eb70481a57fec6ee4bfe2b46b5704746492a8c366001f071bb18e9bf3c", func := "anneal/anneallaw5.ProdOnes", spec := "prodOnes", apart := false, narrowed := true }
def ProdOnesUptoSaid : Prop := prodOnesUptoRow.holds Try.pinned (OpenSpec.upto prodOnesSpec)

/-- 'anneallaw5.FmaErrors', WHERE WHAT IT READS IS OF BULK AT MOST 1048576: true; the input reads as it did. -/
def fmaErrorsUptoRow : OpenClaim := { program := "ytlkjoibpfhjhcaa", sum := "b22512eb70481a57fec6ee4bfe2b46b5704746492a8c366001f071bb18e9bf3c", func := "anneal/anneallaw5.FmaErrors", spec := "fmaErrors", apart := false, narrowed := true }
def FmaErrorsUptoSaid : Prop := fmaErrorsUptoRow.holds Try.pinned (OpenSpec.upto fmaErrorsSpec)

end Rows
end Go.Proofs.Ytlkjoibpfhjhcaa
