/-
  No cell of these rows narrows 'for every input' (looked for: loops, veiled, ifaces, maps, wideKeys, modest, calm, conditions, laid).
  DERIVED. THE GIVEN ROWS OF THIS SEAT. 12 by the template 'for every input the law returns true; each argument reads behind the call as it read before'; 0 by the template 'total and deterministic' (their statements: YtngkpekmgahjiaaTotals.lean).
  GIVEN WITH THE SEED: the statements are not yours to turn. If you find one false, say at which input.
  Laid BY PROGRAM, IN A SANDBOX (cutbox-rows.mjs): the forced cells as the released guide's own fill.sh prints them over the translation 1d5bda691bb0caa1… (all of the seat's roots in one cut). By AI agents, Wed Nov 11 2026. No macro, syntax, notation, axiom, sorry.
-/
import Derived.Test.YtngkpekmgahjiaaChecked
import GoSem.Claim
import GoSem.ClaimJoined
import GoSem.ClaimMapViews
import Derived.JoinedTies
import Derived.KernelRfl
namespace Go.Proofs.Ytngkpekmgahjiaa
/- THE CELL 'sum', in the pinned program and in every row, IS THE sha256 OF THE DUMP (.gsa) THAT YtngkpekmgahjiaaProg.lean LOADS. Nothing in Lean hashes anything: it is a label: what it is worth is what the hold of that sum in a sandbox is worth. -/
noncomputable def Try.pinned : Pinned := { name := "ytngkpekmgahjiaa", sum := "1d5bda691bb0caa17f477974d0960e8d35e6652628b965e79d7a4c8337aed0fa", checked := Try.checked }
namespace Rows
def none {H : Type} : Left H := { results := [], args := [] }

/-- 'anneallaw10.PhiloxTurned': WHATEVER THE INPUT: true; the input reads as it did. -/
def philoxTurnedSpec : ChangeSpec := { name := "philoxTurned", fn := fun _ => fun
  | [d1, d2, d3] => { results := [.lit (.bool true)], args := [d1, d2, d3] }
  | _ => none }
def philoxTurnedRow : OpenClaim := { program := "ytngkpekmgahjiaa", sum := "1d5bda691bb0caa17f477974d0960e8d35e6652628b965e79d7a4c8337aed0fa", func := "anneal/anneallaw10.PhiloxTurned", spec := "philoxTurned", apart := false }
def PhiloxTurnedSaid : Prop := philoxTurnedRow.holds Try.pinned (OpenSpec.ofChange philoxTurnedSpec)

/-- ITS FALSE NEIGHBOUR: 'it returns false'. Refute it at one input. -/
def philoxTurnedWrong : ChangeSpec := { name := "philoxTurned", fn := fun _ => fun
  | [d1, d2, d3] => { results := [.lit (.bool false)], args := [d1, d2, d3] }
  | _ => none }
def PhiloxTurnedWrongFalsely : Prop := philoxTurnedRow.holds Try.pinned (OpenSpec.ofChange philoxTurnedWrong)

/-- 'anneallaw10.PhiloxTells': WHATEVER THE INPUT: true; the input reads as it did. -/
def philoxTellsSpec : ChangeSpec := { name := "philoxTells", fn := fun _ => fun
  | [d1, d2, d3, d4, d5, d6, d7] => { results := [.lit (.bool true)], args := [d1, d2, d3, d4, d5, d6, d7] }
  | _ => none }
def philoxTellsRow : OpenClaim := { program := "ytngkpekmgahjiaa", sum := "1d5bda691bb0caa17f477974d0960e8d35e6652628b965e79d7a4c8337aed0fa", func := "anneal/anneallaw10.PhiloxTells", spec := "philoxTells", apart := false }
def PhiloxTellsSaid : Prop := philoxTellsRow.holds Try.pinned (OpenSpec.ofChange philoxTellsSpec)

/-- ITS FALSE NEIGHBOUR: 'it returns false'. Refute it at one input. -/
def philoxTellsWrong : ChangeSpec := { name := "philoxTells", fn := fun _ => fun
  | [d1, d2, d3, d4, d5, d6, d7] => { results := [.lit (.bool false)], args := [d1, d2, d3, d4, d5, d6, d7] }
  | _ => none }
def PhiloxTellsWrongFalsely : Prop := philoxTellsRow.holds Try.pinned (OpenSpec.ofChange philoxTellsWrong)

/-- 'anneallaw10.PhiloxBounds': WHATEVER THE INPUT: true; the input reads as it did. -/
def philoxBoundsSpec : ChangeSpec := { name := "philoxBounds", fn := fun _ => fun
  | [d1, d2, d3, d4, d5] => { results := [.lit (.bool true)], args := [d1, d2, d3, d4, d5] }
  | _ => none }
def philoxBoundsRow : OpenClaim := { program := "ytngkpekmgahjiaa", sum := "1d5bda691bb0caa17f477974d0960e8d35e6652628b965e79d7a4c8337aed0fa", func := "anneal/anneallaw10.PhiloxBounds", spec := "philoxBounds", apart := false }
def PhiloxBoundsSaid : Prop := philoxBoundsRow.holds Try.pinned (OpenSpec.ofChange philoxBoundsSpec)

/-- ITS FALSE NEIGHBOUR: 'it returns false'. Refute it at one input. -/
def philoxBoundsWrong : ChangeSpec := { name := "philoxBounds", fn := fun _ => fun
  | [d1, d2, d3, d4, d5] => { results := [.lit (.bool false)], args := [d1, d2, d3, d4, d5] }
  | _ => none }
def PhiloxBoundsWrongFalsely : Prop := philoxBoundsRow.holds Try.pinned (OpenSpec.ofChange philoxBoundsWrong)

/-- 'anneallaw10.PhiloxWords': WHATEVER THE INPUT: true; the input reads as it did. -/
def philoxWordsSpec : ChangeSpec := { name := "philoxWords", fn := fun _ => fun
  | [d1, d2, d3] => { results := [.lit (.bool true)], args := [d1, d2, d3] }
  | _ => none }
def philoxWordsRow : OpenClaim := { program := "ytngkpekmgahjiaa", sum := "1d5bda691bb0caa17f477974d0960e8d35e6652628b965e79d7a4c8337aed0fa", func := "anneal/anneallaw10.PhiloxWords", spec := "philoxWords", apart := false }
def PhiloxWordsSaid : Prop := philoxWordsRow.holds Try.pinned (OpenSpec.ofChange philoxWordsSpec)

/-- ITS FALSE NEIGHBOUR: 'it returns false'. Refute it at one input. -/
def philoxWordsWrong : ChangeSpec := { name := "philoxWords", fn := fun _ => fun
  | [d1, d2, d3] => { results := [.lit (.bool false)], args := [d1, d2, d3] }
  | _ => none }
def PhiloxWordsWrongFalsely : Prop := philoxWordsRow.holds Try.pinned (OpenSpec.ofChange philoxWordsWrong)

/-- 'anneallaw8.WholeScales': WHATEVER THE INPUT: true; the input reads as it did. -/
def wholeScalesSpec : ChangeSpec := { name := "wholeScales", fn := fun _ => fun
  | [d1, d2, d3, d4] => { results := [.lit (.bool true)], args := [d1, d2, d3, d4] }
  | _ => none }
def wholeScalesRow : OpenClaim := { program := "ytngkpekmgahjiaa", sum := "1d5bda691bb0caa17f477974d0960e8d35e6652628b965e79d7a4c8337aed0fa", func := "anneal/anneallaw8.WholeScales", spec := "wholeScales", apart := false }
def WholeScalesSaid : Prop := wholeScalesRow.holds Try.pinned (OpenSpec.ofChange wholeScalesSpec)

/-- ITS FALSE NEIGHBOUR: 'it returns false'. Refute it at one input. -/
def wholeScalesWrong : ChangeSpec := { name := "wholeScales", fn := fun _ => fun
  | [d1, d2, d3, d4] => { results := [.lit (.bool false)], args := [d1, d2, d3, d4] }
  | _ => none }
def WholeScalesWrongFalsely : Prop := wholeScalesRow.holds Try.pinned (OpenSpec.ofChange wholeScalesWrong)

/-- 'anneallaw8.WholeSides': WHATEVER THE INPUT: true; the input reads as it did. -/
def wholeSidesSpec : ChangeSpec := { name := "wholeSides", fn := fun _ => fun
  | [d1, d2] => { results := [.lit (.bool true)], args := [d1, d2] }
  | _ => none }
def wholeSidesRow : OpenClaim := { program := "ytngkpekmgahjiaa", sum := "1d5bda691bb0caa17f477974d0960e8d35e6652628b965e79d7a4c8337aed0fa", func := "anneal/anneallaw8.WholeSides", spec := "wholeSides", apart := false }
def WholeSidesSaid : Prop := wholeSidesRow.holds Try.pinned (OpenSpec.ofChange wholeSidesSpec)

/-- ITS FALSE NEIGHBOUR: 'it returns false'. Refute it at one input. -/
def wholeSidesWrong : ChangeSpec := { name := "wholeSides", fn := fun _ => fun
  | [d1, d2] => { results := [.lit (.bool false)], args := [d1, d2] }
  | _ => none }
def WholeSidesWrongFalsely : Prop := wholeSidesRow.holds Try.pinned (OpenSpec.ofChange wholeSidesWrong)

/-- 'anneallaw6.QuotTells': WHATEVER THE INPUT: true; the input reads as it did. -/
def quotTellsSpec : ChangeSpec := { name := "quotTells", fn := fun _ => fun
  | [d1, d2, d3, d4, d5, d6] => { results := [.lit (.bool true)], args := [d1, d2, d3, d4, d5, d6] }
  | _ => none }
def quotTellsRow : OpenClaim := { program := "ytngkpekmgahjiaa", sum := "1d5bda691bb0caa17f477974d0960e8d35e6652628b965e79d7a4c8337aed0fa", func := "anneal/anneallaw6.QuotTells", spec := "quotTells", apart := false }
def QuotTellsSaid : Prop := quotTellsRow.holds Try.pinned (OpenSpec.ofChange quotTellsSpec)

/-- ITS FALSE NEIGHBOUR: 'it returns false'. Refute it at one input. -/
def quotTellsWrong : ChangeSpec := { name := "quotTells", fn := fun _ => fun
  | [d1, d2, d3, d4, d5, d6] => { results := [.lit (.bool false)], args := [d1, d2, d3, d4, d5, d6] }
  | _ => none }
def QuotTellsWrongFalsely : Prop := quotTellsRow.holds Try.pinned (OpenSpec.ofChange quotTellsWrong)

/-- 'anneallaw6.QuotBack': WHATEVER THE INPUT: true; the input reads as it did. -/
def quotBackSpec : ChangeSpec := { name := "quotBack", fn := fun _ => fun
  | [d1, d2, d3, d4] => { results := [.lit (.bool true)], args := [d1, d2, d3, d4] }
  | _ => none }
def quotBackRow : OpenClaim := { program := "ytngkpekmgahjiaa", sum := "1d5bda691bb0caa17f477974d0960e8d35e6652628b965e79d7a4c8337aed0fa", func := "anneal/anneallaw6.QuotBack", spec := "quotBack", apart := false }
def QuotBackSaid : Prop := quotBackRow.holds Try.pinned (OpenSpec.ofChange quotBackSpec)

/-- ITS FALSE NEIGHBOUR: 'it returns false'. Refute it at one input. -/
def quotBackWrong : ChangeSpec := { name := "quotBack", fn := fun _ => fun
  | [d1, d2, d3, d4] => { results := [.lit (.bool false)], args := [d1, d2, d3, d4] }
  | _ => none }
def QuotBackWrongFalsely : Prop := quotBackRow.holds Try.pinned (OpenSpec.ofChange quotBackWrong)

/-- 'anneallaw6.QuotOnes': WHATEVER THE INPUT: true; the input reads as it did. -/
def quotOnesSpec : ChangeSpec := { name := "quotOnes", fn := fun _ => fun
  | [d1, d2, d3, d4] => { results := [.lit (.bool true)], args := [d1, d2, d3, d4] }
  | _ => none }
def quotOnesRow : OpenClaim := { program := "ytngkpekmgahjiaa", sum := "1d5bda691bb0caa17f477974d0960e8d35e6652628b965e79d7a4c8337aed0fa", func := "anneal/anneallaw6.QuotOnes", spec := "quotOnes", apart := false }
def QuotOnesSaid : Prop := quotOnesRow.holds Try.pinned (OpenSpec.ofChange quotOnesSpec)

/-- ITS FALSE NEIGHBOUR: 'it returns false'. Refute it at one input. -/
def quotOnesWrong : ChangeSpec := { name := "quotOnes", fn := fun _ => fun
  | [d1, d2, d3, d4] => { results := [.lit (.bool false)], args := [d1, d2, d3, d4] }
  | _ => none }
def QuotOnesWrongFalsely : Prop := quotOnesRow.holds Try.pinned (OpenSpec.ofChange quotOnesWrong)

/-- 'anneallaw6.QuotSides': WHATEVER THE INPUT: true; the input reads as it did. -/
def quotSidesSpec : ChangeSpec := { name := "quotSides", fn := fun _ => fun
  | [d1, d2] => { results := [.lit (.bool true)], args := [d1, d2] }
  | _ => none }
def quotSidesRow : OpenClaim := { program := "ytngkpekmgahjiaa", sum := "1d5bda691bb0caa17f477974d0960e8d35e6652628b965e79d7a4c8337aed0fa", func := "anneal/anneallaw6.QuotSides", spec := "quotSides", apart := false }
def QuotSidesSaid : Prop := quotSidesRow.holds Try.pinned (OpenSpec.ofChange quotSidesSpec)

/-- ITS FALSE NEIGHBOUR: 'it returns false'. Refute it at one input. -/
def quotSidesWrong : ChangeSpec := { name := "quotSides", fn := fun _ => fun
  | [d1, d2] => { results := [.lit (.bool false)], args := [d1, d2] }
  | _ => none }
def QuotSidesWrongFalsely : Prop := quotSidesRow.holds Try.pinned (OpenSpec.ofChange quotSidesWrong)

/-- 'anneallaw8.WholeTells': WHATEVER THE INPUT: true; the input reads as it did. -/
def wholeTellsSpec : ChangeSpec := { name := "wholeTells", fn := fun _ => fun
  | [d1, d2, d3, d4, d5, d6, d7] => { results := [.lit (.bool true)], args := [d1, d2, d3, d4, d5, d6, d7] }
  | _ => none }
def wholeTellsRow : OpenClaim := { program := "ytngkpekmgahjiaa", sum := "1d5bda691bb0caa17f477974d0960e8d35e6652628b965e79d7a4c8337aed0fa", func := "anneal/anneallaw8.WholeTells", spec := "wholeTells", apart := false }
def WholeTellsSaid : Prop := wholeTellsRow.holds Try.pinned (OpenSpec.ofChange wholeTellsSpec)

/-- ITS FALSE NEIGHBOUR: 'it returns false'. Refute it at one input. -/
def wholeTellsWrong : ChangeSpec := { name := "wholeTells", fn := fun _ => fun
  | [d1, d2, d3, d4, d5, d6, d7] => { results := [.lit (.bool false)], args := [d1, d2, d3, d4, d5, d6, d7] }
  | _ => none }
def WholeTellsWrongFalsely : Prop := wholeTellsRow.holds Try.pinned (OpenSpec.ofChange wholeTellsWrong)

/-- 'anneallaw8.WholeBack': WHATEVER THE INPUT: true; the input reads as it did. -/
def wholeBackSpec : ChangeSpec := { name := "wholeBack", fn := fun _ => fun
  | [d1, d2, d3, d4] => { results := [.lit (.bool true)], args := [d1, d2, d3, d4] }
  | _ => none }
def wholeBackRow : OpenClaim := { program := "ytngkpekmgahjiaa", sum := "1d5bda691bb0caa17f477974d0960e8d35e6652628b965e79d7a4c8337aed0fa", func := "anneal/anneallaw8.WholeBack", spec := "wholeBack", apart := false }
def WholeBackSaid : Prop := wholeBackRow.holds Try.pinned (OpenSpec.ofChange wholeBackSpec)

/-- ITS FALSE NEIGHBOUR: 'it returns false'. Refute it at one input. -/
def wholeBackWrong : ChangeSpec := { name := "wholeBack", fn := fun _ => fun
  | [d1, d2, d3, d4] => { results := [.lit (.bool false)], args := [d1, d2, d3, d4] }
  | _ => none }
def WholeBackWrongFalsely : Prop := wholeBackRow.holds Try.pinned (OpenSpec.ofChange wholeBackWrong)

/- THE SECOND FORM. 'bulk': how many values and letters a reading holds, each counted each time it is reached (what is shared counts as often as it is met; a slice's spare places count too). A statement '..UptoSaid' is the law's where the arguments, and the package variables that the reading takes, are together of bulk at most 1048576: NARROWER than '..Said'. Prove '..Said' where nothing that the law and all that it calls make is longer than what came in: it says more and counts as full. Else prove '..UptoSaid'. A law counts once. -/
mutual
def uptoBulk {H : Type} : DataW H → Nat
  | .lit (.string bytes) => bytes.length + 1
  | .lit _ => 1
  | .nil => 1
  | .ptr d => uptoBulk d + 1
  | .slice elems spare => uptoBulkAll elems + uptoBulkAll spare + 1
  | .agg parts => uptoBulkAll parts + 1
  | .iface _ d => uptoBulk d + 1
  | .map entries => uptoBulkEntries entries + 1
  | .held _ => 1
def uptoBulkAll {H : Type} : List (DataW H) → Nat
  | [] => 0
  | d :: r => uptoBulk d + uptoBulkAll r
def uptoBulkEntries {H : Type} : List (Lit × DataW H) → Nat
  | [] => 0
  | x :: r => uptoBulkEntry x + uptoBulkEntries r
def uptoBulkEntry {H : Type} : Lit × DataW H → Nat
  | (.string bytes, d) => bytes.length + uptoBulk d + 1
  | (_, d) => uptoBulk d + 1
 end
def uptoSmall : (H : Type) → List (DataW H) → Bool := fun _ ds => decide (uptoBulkAll ds ≤ 1048576)
def OpenSpec.upto (s : _root_.Go.ChangeSpec) : _root_.Go.OpenSpec := { _root_.Go.OpenSpec.ofChange s with cond := some uptoSmall }

/-- 'anneallaw10.PhiloxTurned', WHERE WHAT IT READS IS OF BULK AT MOST 1048576: true; the input reads as it did. -/
def philoxTurnedUptoRow : OpenClaim := { program := "ytngkpekmgahjiaa", sum := "1d5bda691bb0caa17f477974d0960e8d35e6652628b965e79d7a4c8337aed0fa", func := "anneal/anneallaw10.PhiloxTurned", spec := "philoxTurned", apart := false, narrowed := true }
def PhiloxTurnedUptoSaid : Prop := philoxTurnedUptoRow.holds Try.pinned (OpenSpec.upto philoxTurnedSpec)

/-- 'anneallaw10.PhiloxTells', WHERE WHAT IT READS IS OF BULK AT MOST 1048576: true; the input reads as it did. -/
def philoxTellsUptoRow : OpenClaim := { program := "ytngkpekmgahjiaa", sum := "1d5bda691bb0caa17f477974d0960e8d35e6652628b965e79d7a4c8337aed0fa", func := "anneal/anneallaw10.PhiloxTells", spec := "philoxTells", apart := false, narrowed := true }
def PhiloxTellsUptoSaid : Prop := philoxTellsUptoRow.holds Try.pinned (OpenSpec.upto philoxTellsSpec)

/-- 'anneallaw10.PhiloxBounds', WHERE WHAT IT READS IS OF BULK AT MOST 1048576: true; the input reads as it did. -/
def philoxBoundsUptoRow : OpenClaim := { program := "ytngkpekmgahjiaa", sum := "1d5bda691bb0caa17f477974d0960e8d35e6652628b965e79d7a4c8337aed0fa", func := "anneal/anneallaw10.PhiloxBounds", spec := "philoxBounds", apart := false, narrowed := true }
def PhiloxBoundsUptoSaid : Prop := philoxBoundsUptoRow.holds Try.pinned (OpenSpec.upto philoxBoundsSpec)

/-- 'anneallaw10.PhiloxWords', WHERE WHAT IT READS IS OF BULK AT MOST 1048576: true; the input reads as it did. -/
def philoxWordsUptoRow : OpenClaim := { program := "ytngkpekmgahjiaa", sum := "1d5bda691bb0caa17f477974d0960e8d35e6652628b965e79d7a4c8337aed0fa", func := "anneal/anneallaw10.PhiloxWords", spec := "philoxWords", apart := false, narrowed := true }
def PhiloxWordsUptoSaid : Prop := philoxWordsUptoRow.holds Try.pinned (OpenSpec.upto philoxWordsSpec)

/-- 'anneallaw8.WholeScales', WHERE WHAT IT READS IS OF BULK AT MOST 1048576: true; the input reads as it did. -/
def wholeScalesUptoRow : OpenClaim := { program := "ytngkpekmgahjiaa", sum := "1d5bda691bb0caa17f477974d0960e8d35e6652628b965e79d7a4c8337aed0fa", func := "anneal/anneallaw8.WholeScales", spec := "wholeScales", apart := false, narrowed := true }
def WholeScalesUptoSaid : Prop := wholeScalesUptoRow.holds Try.pinned (OpenSpec.upto wholeScalesSpec)

/-- 'anneallaw8.WholeSides', WHERE WHAT IT READS IS OF BULK AT MOST 1048576: true; the input reads as it did. -/
def wholeSidesUptoRow : OpenClaim := { program := "ytngkpekmgahjiaa", sum := "1d5bda691bb0caa17f477974d0960e8d35e6652628b965e79d7a4c8337aed0fa", func := "anneal/anneallaw8.WholeSides", spec := "wholeSides", apart := false, narrowed := true }
def WholeSidesUptoSaid : Prop := wholeSidesUptoRow.holds Try.pinned (OpenSpec.upto wholeSidesSpec)

/-- 'anneallaw6.QuotTells', WHERE WHAT IT READS IS OF BULK AT MOST 1048576: true; the input reads as it did. -/
def quotTellsUptoRow : OpenClaim := { program := "ytngkpekmgahjiaa", sum := "1d5bda691bb0caa17f477974d0960e8d35e6652628b965e79d7a4c8337aed0fa", func := "anneal/anneallaw6.QuotTells", spec := "quotTells", apart := false, narrowed := true }
def QuotTellsUptoSaid : Prop := quotTellsUptoRow.holds Try.pinned (OpenSpec.upto quotTellsSpec)

/-- 'anneallaw6.QuotBack', WHERE WHAT IT READS IS OF BULK AT MOST 1048576: true; the input reads as it did. -/
def quotBackUptoRow : OpenClaim := { program := "ytngkpekmgahjiaa", sum := "1d5bda691bb0caa17f477974d0960e8d35e6652628b965e79d7a4c8337aed0fa", func := "anneal/anneallaw6.QuotBack", spec := "quotBack", apart := false, narrowed := true }
def QuotBackUptoSaid : Prop := quotBackUptoRow.holds Try.pinned (OpenSpec.upto quotBackSpec)

/-- 'anneallaw6.QuotOnes', WHERE WHAT IT READS IS OF BULK AT MOST 1048576: true; the input reads as it did. -/
def quotOnesUptoRow : OpenClaim := { program := "ytngkpekmgahjiaa", sum := "1d5bda691bb0caa17f477974d0960e8d35e6652628b965e79d7a4c8337aed0fa", func := "anneal/anneallaw6.QuotOnes", spec := "quotOnes", apart := false, narrowed := true }
def QuotOnesUptoSaid : Prop := quotOnesUptoRow.holds Try.pinned (OpenSpec.upto quotOnesSpec)

/-- 'anneallaw6.QuotSides', WHERE WHAT IT READS IS OF BULK AT MOST 1048576: true; the input reads as it did. -/
def quotSidesUptoRow : OpenClaim := { program := "ytngkpekmgahjiaa", sum := "1d5bda691bb0caa17f477974d0960e8d35e6652628b965e79d7a4c8337aed0fa", func := "anneal/anneallaw6.QuotSides", spec := "quotSides", apart := false, narrowed := true }
def QuotSidesUptoSaid : Prop := quotSidesUptoRow.holds Try.pinned (OpenSpec.upto quotSidesSpec)

/-- 'anneallaw8.WholeTells', WHERE WHAT IT READS IS OF BULK AT MOST 1048576: true; the input reads as it did. -/
def wholeTellsUptoRow : OpenClaim := { program := "ytngkpekmgahjiaa", sum := "1d5bda691bb0caa17f477974d0960e8d35e6652628b965e79d7a4c8337aed0fa", func := "anneal/anneallaw8.WholeTells", spec := "wholeTells", apart := false, narrowed := true }
def WholeTellsUptoSaid : Prop := wholeTellsUptoRow.holds Try.pinned (OpenSpec.upto wholeTellsSpec)

/-- 'anneallaw8.WholeBack', WHERE WHAT IT READS IS OF BULK AT MOST 1048576: true; the input reads as it did. -/
def wholeBackUptoRow : OpenClaim := { program := "ytngkpekmgahjiaa", sum := "1d5bda691bb0caa17f477974d0960e8d35e6652628b965e79d7a4c8337aed0fa", func := "anneal/anneallaw8.WholeBack", spec := "wholeBack", apart := false, narrowed := true }
def WholeBackUptoSaid : Prop := wholeBackUptoRow.holds Try.pinned (OpenSpec.upto wholeBackSpec)

end Rows
end Go.Proofs.Ytngkpekmgahjiaa
