/-
  No cell of these rows narrows 'for every input' (looked for: loops, veiled, ifaces, maps, wideKeys, modest, calm, conditions, laid).
  DERIVED. THE GIVEN ROWS OF THIS SEAT. 3 by the template 'for every input the law returns true; each argument reads behind the call as it read before'; 0 by the template 'total and deterministic' (their statements: YtejkemahdincjaaTotals.lean).
  GIVEN WITH THE SEED: the statements are not yours to turn. If you find one false, say at which input.
  Laid BY PROGRAM, IN A SANDBOX (cutbox-rows.mjs): the forced cells as the released guide's own fill.sh prints them over the translation 104aeb3f9b700fed… (all of the seat's roots in one cut). By AI agents, Wed Nov 11 2026. No macro, syntax, notation, axiom, sorry.
-/
import Derived.Test.YtejkemahdincjaaChecked
import GoSem.Claim
import GoSem.ClaimJoined
import GoSem.ClaimMapViews
import Derived.JoinedTies
import Derived.KernelRfl
namespace Go.Proofs.Ytejkemahdincjaa
/- THE CELL 'sum', in the pinned program and in every row, IS THE sha256 OF THE DUMP (.gsa) THAT YtejkemahdincjaaProg.lean LOADS. Nothing in Lean hashes anything: it is a label: what it is worth is what the hold of that sum in a sandbox is worth. -/
noncomputable def Try.pinned : Pinned := { name := "ytejkemahdincjaa", sum := "104aeb3f9b700fed03bee7bd00f307e49c2ac7158504af5fb05575193df3daa0", checked := Try.checked }
namespace Rows
def none {H : Type} : Left H := { results := [], args := [] }

/-- 'anneallaw4.SumTells': WHATEVER THE INPUT: true; the input reads as it did. -/
def sumTellsSpec : ChangeSpec := { name := "sumTells", fn := fun _ => fun
  | [d1, d2, d3, d4, d5, d6] => { results := [.lit (.bool true)], args := [d1, d2, d3, d4, d5, d6] }
  | _ => none }
def sumTellsRow : OpenClaim := { program := "ytejkemahdincjaa", sum := "104aeb3f9b700fed03bee7bd00f307e49c2ac7158504af5fb05575193df3daa0", func := "anneal/anneallaw4.SumTells", spec := "sumTells", apart := false }
def SumTellsSaid : Prop := sumTellsRow.holds Try.pinned (OpenSpec.ofChange sumTellsSpec)

/-- ITS FALSE NEIGHBOUR: 'it returns false'. Refute it at one input. -/
def sumTellsWrong : ChangeSpec := { name := "sumTells", fn := fun _ => fun
  | [d1, d2, d3, d4, d5, d6] => { results := [.lit (.bool false)], args := [d1, d2, d3, d4, d5, d6] }
  | _ => none }
def SumTellsWrongFalsely : Prop := sumTellsRow.holds Try.pinned (OpenSpec.ofChange sumTellsWrong)

/-- 'anneallaw5.FmaTells': WHATEVER THE INPUT: true; the input reads as it did. -/
def fmaTellsSpec : ChangeSpec := { name := "fmaTells", fn := fun _ => fun
  | [d1, d2, d3, d4, d5, d6, d7] => { results := [.lit (.bool true)], args := [d1, d2, d3, d4, d5, d6, d7] }
  | _ => none }
def fmaTellsRow : OpenClaim := { program := "ytejkemahdincjaa", sum := "104aeb3f9b700fed03bee7bd00f307e49c2ac7158504af5fb05575193df3daa0", func := "anneal/anneallaw5.FmaTells", spec := "fmaTells", apart := false }
def FmaTellsSaid : Prop := fmaTellsRow.holds Try.pinned (OpenSpec.ofChange fmaTellsSpec)

/-- ITS FALSE NEIGHBOUR: 'it returns false'. Refute it at one input. -/
def fmaTellsWrong : ChangeSpec := { name := "fmaTells", fn := fun _ => fun
  | [d1, d2, d3, d4, d5, d6, d7] => { results := [.lit (.bool false)], args := [d1, d2, d3, d4, d5, d6, d7] }
  | _ => none }
def FmaTellsWrongFalsely : Prop := fmaTellsRow.holds Try.pinned (OpenSpec.ofChange fmaTellsWrong)

/-- 'anneallaw5.FmaParts': WHATEVER THE INPUT: true; the input reads as it did. -/
def fmaPartsSpec : ChangeSpec := { name := "fmaParts", fn := fun _ => fun
  | [d1, d2, d3, d4] => { results := [.lit (.bool true)], args := [d1, d2, d3, d4] }
  | _ => none }
def fmaPartsRow : OpenClaim := { program := "ytejkemahdincjaa", sum := "104aeb3f9b700fed03bee7bd00f307e49c2ac7158504af5fb05575193df3daa0", func := "anneal/anneallaw5.FmaParts", spec := "fmaParts", apart := false }
def FmaPartsSaid : Prop := fmaPartsRow.holds Try.pinned (OpenSpec.ofChange fmaPartsSpec)

/-- ITS FALSE NEIGHBOUR: 'it returns false'. Refute it at one input. -/
def fmaPartsWrong : ChangeSpec := { name := "fmaParts", fn := fun _ => fun
  | [d1, d2, d3, d4] => { results := [.lit (.bool false)], args := [d1, d2, d3, d4] }
  | _ => none }
def FmaPartsWrongFalsely : Prop := fmaPartsRow.holds Try.pinned (OpenSpec.ofChange fmaPartsWrong)

/- THE SECOND FORM. 'bulk': how many values and letters a reading holds, each counted each time it is reached (what is shared counts as often as it is met; a slice's spare places count too). A statement '..UptoSaid' is the law's where the arguments, and the package variables that the reading takes, are together of bulk at most 1048576: NARROWER than '..Said'. Prove '..Said' where nothing that the law and all that it calls make is longer than what came in: it says more and counts as full. Else prove '..UptoSaid'. A law counts once. -/
mutual
def uptoBulk {H : Type} : DataW H → Nat
  | .lit (.string bytes) => bytes.length + 1
  | .lit _ => 1
  | .nil => 1
  | .ptr d => uptoBulk d + 1
  | .slice elems spare => uptoBulkAll elems + uptoBulkAll spare + 1
  | .agg parts => uptoBulkAll parts + 1
  | .iface _ d => uptoBulk d + 1
  | .map entries => uptoBulkEntries entries + 1
  | .held _ => 1
def uptoBulkAll {H : Type} : List (DataW H) → Nat
  | [] => 0
  | d :: r => uptoBulk d + uptoBulkAll r
def uptoBulkEntries {H : Type} : List (Lit × DataW H) → Nat
  | [] => 0
  | x :: r => uptoBulkEntry x + uptoBulkEntries r
def uptoBulkEntry {H : Type} : Lit × DataW H → Nat
  | (.string bytes, d) => bytes.length + uptoBulk d + 1
  | (_, d) => uptoBulk d + 1
 end
def uptoSmall : (H : Type) → List (DataW H) → Bool := fun _ ds => decide (uptoBulkAll ds ≤ 1048576)
def OpenSpec.upto (s : _root_.Go.ChangeSpec) : _root_.Go.OpenSpec := { _root_.Go.OpenSpec.ofChange s with cond := some uptoSmall }

/-- 'anneallaw4.SumTells', WHERE WHAT IT READS IS OF BULK AT MOST 1048576: true; the input reads as it did. -/
def sumTellsUptoRow : OpenClaim := { program := "ytejkemahdincjaa", sum := "104aeb3f9b700fed03bee7bd00f307e49c2ac7158504af5fb05575193df3daa0", func := "anneal/anneallaw4.SumTells", spec := "sumTells", apart := false, narrowed := true }
def SumTellsUptoSaid : Prop := sumTellsUptoRow.holds Try.pinned (OpenSpec.upto sumTellsSpec)

/-- 'anneallaw5.FmaTells', WHERE WHAT IT READS IS OF BULK AT MOST 1048576: true; the input reads as it did. -/
def fmaTellsUptoRow : OpenClaim := { program := "ytejkemahdincjaa", sum := "104aeb3f9b700fed03bee7bd00f307e49c2ac7158504af5fb05575193df3daa0", func := "anneal/anneallaw5.FmaTells", spec := "fmaTells", apart := false, narrowed := true }
def FmaTellsUptoSaid : Prop := fmaTellsUptoRow.holds Try.pinned (OpenSpec.upto fmaTellsSpec)

/-- 'anneallaw5.FmaParts', WHERE WHAT IT READS IS OF BULK AT MOST 1048576: true; the input reads as it did. -/
def fmaPartsUptoRow : OpenClaim := { program := "ytejkemahdincjaa", sum := "104aeb3f9b700fed03bee7bd00f307e49c2ac7158504af5fb05575193df3daa0", func := "anneal/anneallaw5.FmaParts", spec := "fmaParts", apart := false, narrowed := true }
def FmaPartsUptoSaid : Prop := fmaPartsUptoRow.holds Try.pinned (OpenSpec.upto fmaPartsSpec)

end Rows
end Go.Proofs.Ytejkemahdincjaa
