/-
  No cell of these rows narrows 'for every input' (looked for: loops, veiled, ifaces, maps, wideKeys, modest, calm, conditions, laid).
  DERIVED. THE GIVEN ROWS OF THIS SEAT. 12 by the template 'for every input the law returns true; each argument reads behind the call as it read before'; 0 by the template 'total and deterministic' (their statements: YtjmihdhclbjaeaaTotals.lean).
  GIVEN WITH THE SEED: the statements are not yours to turn. If you find one false, say at which input.
  Laid BY PROGRAM, IN A SANDBOX (cutbox-rows.mjs): the forced cells as the released guide's own fill.sh prints them over the translation 812137604d6aaf3c… (all of the seat's roots in one cut). By AI agents, Wed Nov 11 2026. No macro, syntax, notation, axiom, sorry.
-/
import Derived.Test.YtjmihdhclbjaeaaChecked
import GoSem.Claim
import GoSem.ClaimJoined
import GoSem.ClaimMapViews
import Derived.JoinedTies
import Derived.KernelRfl
namespace Go.Proofs.Ytjmihdhclbjaeaa
/- THE CELL 'sum', in the pinned program and in every row, IS THE sha256 OF THE DUMP (.gsa) THAT YtjmihdhclbjaeaaProg.lean LOADS. Nothing in Lean hashes anything: it is a label: what it is worth is what the hold of that sum in a sandbox is worth. -/
noncomputable def Try.pinned : Pinned := { name := "ytjmihdhclbjaeaa", sum := "812137604d6aaf3c38353b9fd9a5e54f982177f2320692e675fd6fa57da8b247", checked := Try.checked }
namespace Rows
def none {H : Type} : Left H := { results := [], args := [] }

/-- 'anneallaw26.BatchTells': WHATEVER THE INPUT: true; the input reads as it did. -/
def batchTellsSpec : ChangeSpec := { name := "batchTells", fn := fun _ => fun
  | [d1, d2, d3, d4, d5, d6, d7] => { results := [.lit (.bool true)], args := [d1, d2, d3, d4, d5, d6, d7] }
  | _ => none }
def batchTellsRow : OpenClaim := { program := "ytjmihdhclbjaeaa", sum := "812137604d6aaf3c38353b9fd9a5e54f982177f2320692e675fd6fa57da8b247", func := "anneal/anneallaw26.BatchTells", spec := "batchTells", apart := false }
def BatchTellsSaid : Prop := batchTellsRow.holds Try.pinned (OpenSpec.ofChange batchTellsSpec)

/-- ITS FALSE NEIGHBOUR: 'it returns false'. Refute it at one input. -/
def batchTellsWrong : ChangeSpec := { name := "batchTells", fn := fun _ => fun
  | [d1, d2, d3, d4, d5, d6, d7] => { results := [.lit (.bool false)], args := [d1, d2, d3, d4, d5, d6, d7] }
  | _ => none }
def BatchTellsWrongFalsely : Prop := batchTellsRow.holds Try.pinned (OpenSpec.ofChange batchTellsWrong)

/-- 'anneallaw26.BatchOnce': WHATEVER THE INPUT: true; the input reads as it did. -/
def batchOnceSpec : ChangeSpec := { name := "batchOnce", fn := fun _ => fun
  | [d1, d2, d3, d4] => { results := [.lit (.bool true)], args := [d1, d2, d3, d4] }
  | _ => none }
def batchOnceRow : OpenClaim := { program := "ytjmihdhclbjaeaa", sum := "812137604d6aaf3c38353b9fd9a5e54f982177f2320692e675fd6fa57da8b247", func := "anneal/anneallaw26.BatchOnce", spec := "batchOnce", apart := false }
def BatchOnceSaid : Prop := batchOnceRow.holds Try.pinned (OpenSpec.ofChange batchOnceSpec)

/-- ITS FALSE NEIGHBOUR: 'it returns false'. Refute it at one input. -/
def batchOnceWrong : ChangeSpec := { name := "batchOnce", fn := fun _ => fun
  | [d1, d2, d3, d4] => { results := [.lit (.bool false)], args := [d1, d2, d3, d4] }
  | _ => none }
def BatchOnceWrongFalsely : Prop := batchOnceRow.holds Try.pinned (OpenSpec.ofChange batchOnceWrong)

/-- 'anneallaw26.BatchEpochs': WHATEVER THE INPUT: true; the input reads as it did. -/
def batchEpochsSpec : ChangeSpec := { name := "batchEpochs", fn := fun _ => fun
  | [d1, d2, d3] => { results := [.lit (.bool true)], args := [d1, d2, d3] }
  | _ => none }
def batchEpochsRow : OpenClaim := { program := "ytjmihdhclbjaeaa", sum := "812137604d6aaf3c38353b9fd9a5e54f982177f2320692e675fd6fa57da8b247", func := "anneal/anneallaw26.BatchEpochs", spec := "batchEpochs", apart := false }
def BatchEpochsSaid : Prop := batchEpochsRow.holds Try.pinned (OpenSpec.ofChange batchEpochsSpec)

/-- ITS FALSE NEIGHBOUR: 'it returns false'. Refute it at one input. -/
def batchEpochsWrong : ChangeSpec := { name := "batchEpochs", fn := fun _ => fun
  | [d1, d2, d3] => { results := [.lit (.bool false)], args := [d1, d2, d3] }
  | _ => none }
def BatchEpochsWrongFalsely : Prop := batchEpochsRow.holds Try.pinned (OpenSpec.ofChange batchEpochsWrong)

/-- 'anneallaw1.BitsReckon': WHATEVER THE INPUT: true; the input reads as it did. -/
def bitsReckonSpec : ChangeSpec := { name := "bitsReckon", fn := fun _ => fun
  | [d1, d2, d3, d4, d5] => { results := [.lit (.bool true)], args := [d1, d2, d3, d4, d5] }
  | _ => none }
def bitsReckonRow : OpenClaim := { program := "ytjmihdhclbjaeaa", sum := "812137604d6aaf3c38353b9fd9a5e54f982177f2320692e675fd6fa57da8b247", func := "anneal/anneallaw1.BitsReckon", spec := "bitsReckon", apart := false }
def BitsReckonSaid : Prop := bitsReckonRow.holds Try.pinned (OpenSpec.ofChange bitsReckonSpec)

/-- ITS FALSE NEIGHBOUR: 'it returns false'. Refute it at one input. -/
def bitsReckonWrong : ChangeSpec := { name := "bitsReckon", fn := fun _ => fun
  | [d1, d2, d3, d4, d5] => { results := [.lit (.bool false)], args := [d1, d2, d3, d4, d5] }
  | _ => none }
def BitsReckonWrongFalsely : Prop := bitsReckonRow.holds Try.pinned (OpenSpec.ofChange bitsReckonWrong)

/-- 'anneallaw1.BitsRoot': WHATEVER THE INPUT: true; the input reads as it did. -/
def bitsRootSpec : ChangeSpec := { name := "bitsRoot", fn := fun _ => fun
  | [d1, d2] => { results := [.lit (.bool true)], args := [d1, d2] }
  | _ => none }
def bitsRootRow : OpenClaim := { program := "ytjmihdhclbjaeaa", sum := "812137604d6aaf3c38353b9fd9a5e54f982177f2320692e675fd6fa57da8b247", func := "anneal/anneallaw1.BitsRoot", spec := "bitsRoot", apart := false }
def BitsRootSaid : Prop := bitsRootRow.holds Try.pinned (OpenSpec.ofChange bitsRootSpec)

/-- ITS FALSE NEIGHBOUR: 'it returns false'. Refute it at one input. -/
def bitsRootWrong : ChangeSpec := { name := "bitsRoot", fn := fun _ => fun
  | [d1, d2] => { results := [.lit (.bool false)], args := [d1, d2] }
  | _ => none }
def BitsRootWrongFalsely : Prop := bitsRootRow.holds Try.pinned (OpenSpec.ofChange bitsRootWrong)

/-- 'anneallaw1.BitsTurn': WHATEVER THE INPUT: true; the input reads as it did. -/
def bitsTurnSpec : ChangeSpec := { name := "bitsTurn", fn := fun _ => fun
  | [d1, d2, d3] => { results := [.lit (.bool true)], args := [d1, d2, d3] }
  | _ => none }
def bitsTurnRow : OpenClaim := { program := "ytjmihdhclbjaeaa", sum := "812137604d6aaf3c38353b9fd9a5e54f982177f2320692e675fd6fa57da8b247", func := "anneal/anneallaw1.BitsTurn", spec := "bitsTurn", apart := false }
def BitsTurnSaid : Prop := bitsTurnRow.holds Try.pinned (OpenSpec.ofChange bitsTurnSpec)

/-- ITS FALSE NEIGHBOUR: 'it returns false'. Refute it at one input. -/
def bitsTurnWrong : ChangeSpec := { name := "bitsTurn", fn := fun _ => fun
  | [d1, d2, d3] => { results := [.lit (.bool false)], args := [d1, d2, d3] }
  | _ => none }
def BitsTurnWrongFalsely : Prop := bitsTurnRow.holds Try.pinned (OpenSpec.ofChange bitsTurnWrong)

/-- 'anneallaw1.BitsProduct': WHATEVER THE INPUT: true; the input reads as it did. -/
def bitsProductSpec : ChangeSpec := { name := "bitsProduct", fn := fun _ => fun
  | [d1, d2] => { results := [.lit (.bool true)], args := [d1, d2] }
  | _ => none }
def bitsProductRow : OpenClaim := { program := "ytjmihdhclbjaeaa", sum := "812137604d6aaf3c38353b9fd9a5e54f982177f2320692e675fd6fa57da8b247", func := "anneal/anneallaw1.BitsProduct", spec := "bitsProduct", apart := false }
def BitsProductSaid : Prop := bitsProductRow.holds Try.pinned (OpenSpec.ofChange bitsProductSpec)

/-- ITS FALSE NEIGHBOUR: 'it returns false'. Refute it at one input. -/
def bitsProductWrong : ChangeSpec := { name := "bitsProduct", fn := fun _ => fun
  | [d1, d2] => { results := [.lit (.bool false)], args := [d1, d2] }
  | _ => none }
def BitsProductWrongFalsely : Prop := bitsProductRow.holds Try.pinned (OpenSpec.ofChange bitsProductWrong)

/-- 'anneallaw1.BitsTell': WHATEVER THE INPUT: true; the input reads as it did. -/
def bitsTellSpec : ChangeSpec := { name := "bitsTell", fn := fun _ => fun
  | [d1, d2, d3] => { results := [.lit (.bool true)], args := [d1, d2, d3] }
  | _ => none }
def bitsTellRow : OpenClaim := { program := "ytjmihdhclbjaeaa", sum := "812137604d6aaf3c38353b9fd9a5e54f982177f2320692e675fd6fa57da8b247", func := "anneal/anneallaw1.BitsTell", spec := "bitsTell", apart := false }
def BitsTellSaid : Prop := bitsTellRow.holds Try.pinned (OpenSpec.ofChange bitsTellSpec)

/-- ITS FALSE NEIGHBOUR: 'it returns false'. Refute it at one input. -/
def bitsTellWrong : ChangeSpec := { name := "bitsTell", fn := fun _ => fun
  | [d1, d2, d3] => { results := [.lit (.bool false)], args := [d1, d2, d3] }
  | _ => none }
def BitsTellWrongFalsely : Prop := bitsTellRow.holds Try.pinned (OpenSpec.ofChange bitsTellWrong)

/-- 'anneallaw1.BitsBack': WHATEVER THE INPUT: true; the input reads as it did. -/
def bitsBackSpec : ChangeSpec := { name := "bitsBack", fn := fun _ => fun
  | [d1, d2] => { results := [.lit (.bool true)], args := [d1, d2] }
  | _ => none }
def bitsBackRow : OpenClaim := { program := "ytjmihdhclbjaeaa", sum := "812137604d6aaf3c38353b9fd9a5e54f982177f2320692e675fd6fa57da8b247", func := "anneal/anneallaw1.BitsBack", spec := "bitsBack", apart := false }
def BitsBackSaid : Prop := bitsBackRow.holds Try.pinned (OpenSpec.ofChange bitsBackSpec)

/-- ITS FALSE NEIGHBOUR: 'it returns false'. Refute it at one input. -/
def bitsBackWrong : ChangeSpec := { name := "bitsBack", fn := fun _ => fun
  | [d1, d2] => { results := [.lit (.bool false)], args := [d1, d2] }
  | _ => none }
def BitsBackWrongFalsely : Prop := bitsBackRow.holds Try.pinned (OpenSpec.ofChange bitsBackWrong)

/-- 'anneallaw25.DataReads': WHATEVER THE INPUT: true; the input reads as it did. -/
def dataReadsSpec : ChangeSpec := { name := "dataReads", fn := fun _ => fun
  | [d1, d2, d3, d4, d5, d6, d7] => { results := [.lit (.bool true)], args := [d1, d2, d3, d4, d5, d6, d7] }
  | _ => none }
def dataReadsRow : OpenClaim := { program := "ytjmihdhclbjaeaa", sum := "812137604d6aaf3c38353b9fd9a5e54f982177f2320692e675fd6fa57da8b247", func := "anneal/anneallaw25.DataReads", spec := "dataReads", apart := false }
def DataReadsSaid : Prop := dataReadsRow.holds Try.pinned (OpenSpec.ofChange dataReadsSpec)

/-- ITS FALSE NEIGHBOUR: 'it returns false'. Refute it at one input. -/
def dataReadsWrong : ChangeSpec := { name := "dataReads", fn := fun _ => fun
  | [d1, d2, d3, d4, d5, d6, d7] => { results := [.lit (.bool false)], args := [d1, d2, d3, d4, d5, d6, d7] }
  | _ => none }
def DataReadsWrongFalsely : Prop := dataReadsRow.holds Try.pinned (OpenSpec.ofChange dataReadsWrong)

/-- 'anneallaw25.DataBytes': WHATEVER THE INPUT: true; the input reads as it did. -/
def dataBytesSpec : ChangeSpec := { name := "dataBytes", fn := fun _ => fun
  | [d1, d2, d3, d4] => { results := [.lit (.bool true)], args := [d1, d2, d3, d4] }
  | _ => none }
def dataBytesRow : OpenClaim := { program := "ytjmihdhclbjaeaa", sum := "812137604d6aaf3c38353b9fd9a5e54f982177f2320692e675fd6fa57da8b247", func := "anneal/anneallaw25.DataBytes", spec := "dataBytes", apart := false }
def DataBytesSaid : Prop := dataBytesRow.holds Try.pinned (OpenSpec.ofChange dataBytesSpec)

/-- ITS FALSE NEIGHBOUR: 'it returns false'. Refute it at one input. -/
def dataBytesWrong : ChangeSpec := { name := "dataBytes", fn := fun _ => fun
  | [d1, d2, d3, d4] => { results := [.lit (.bool false)], args := [d1, d2, d3, d4] }
  | _ => none }
def DataBytesWrongFalsely : Prop := dataBytesRow.holds Try.pinned (OpenSpec.ofChange dataBytesWrong)

/-- 'anneallaw25.DataTells': WHATEVER THE INPUT: true; the input reads as it did. -/
def dataTellsSpec : ChangeSpec := { name := "dataTells", fn := fun _ => fun
  | [d1, d2, d3, d4, d5, d6, d7, d8, d9] => { results := [.lit (.bool true)], args := [d1, d2, d3, d4, d5, d6, d7, d8, d9] }
  | _ => none }
def dataTellsRow : OpenClaim := { program := "ytjmihdhclbjaeaa", sum := "812137604d6aaf3c38353b9fd9a5e54f982177f2320692e675fd6fa57da8b247", func := "anneal/anneallaw25.DataTells", spec := "dataTells", apart := false }
def DataTellsSaid : Prop := dataTellsRow.holds Try.pinned (OpenSpec.ofChange dataTellsSpec)

/-- ITS FALSE NEIGHBOUR: 'it returns false'. Refute it at one input. -/
def dataTellsWrong : ChangeSpec := { name := "dataTells", fn := fun _ => fun
  | [d1, d2, d3, d4, d5, d6, d7, d8, d9] => { results := [.lit (.bool false)], args := [d1, d2, d3, d4, d5, d6, d7, d8, d9] }
  | _ => none }
def DataTellsWrongFalsely : Prop := dataTellsRow.holds Try.pinned (OpenSpec.ofChange dataTellsWrong)

/- THE SECOND FORM. 'bulk': how many values and letters a reading holds, each counted each time it is reached (what is shared counts as often as it is met; a slice's spare places count too). A statement '..UptoSaid' is the law's where the arguments, and the package variables that the reading takes, are together of bulk at most 1048576: NARROWER than '..Said'. Prove '..Said' where nothing that the law and all that it calls make is longer than what came in: it says more and counts as full. Else prove '..UptoSaid'. A law counts once. -/
mutual
def uptoBulk {H : Type} : DataW H → Nat
  | .lit (.string bytes) => bytes.length + 1
  | .lit _ => 1
  | .nil => 1
  | .ptr d => uptoBulk d + 1
  | .slice elems spare => uptoBulkAll elems + uptoBulkAll spare + 1
  | .agg parts => uptoBulkAll parts + 1
  | .iface _ d => uptoBulk d + 1
  | .map entries => uptoBulkEntries entries + 1
  | .held _ => 1
def uptoBulkAll {H : Type} : List (DataW H) → Nat
  | [] => 0
  | d :: r => uptoBulk d + uptoBulkAll r
def uptoBulkEntries {H : Type} : List (Lit × DataW H) → Nat
  | [] => 0
  | x :: r => uptoBulkEntry x + uptoBulkEntries r
def uptoBulkEntry {H : Type} : Lit × DataW H → Nat
  | (.string bytes, d) => bytes.length + uptoBulk d + 1
  | (_, d) => uptoBulk d + 1
 end
def uptoSmall : (H : Type) → List (DataW H) → Bool := fun _ ds => decide (uptoBulkAll ds ≤ 1048576)
def OpenSpec.upto (s : _root_.Go.ChangeSpec) : _root_.Go.OpenSpec := { _root_.Go.OpenSpec.ofChange s with cond := some uptoSmall }

/-- 'anneallaw26.BatchTells', WHERE WHAT IT READS IS OF BULK AT MOST 1048576: true; the input reads as it did. -/
def batchTellsUptoRow : OpenClaim := { program := "ytjmihdhclbjaeaa", sum := "812137604d6aaf3c38353b9fd9a5e54f982177f2320692e675fd6fa57da8b247", func := "anneal/anneallaw26.BatchTells", spec := "batchTells", apart := false, narrowed := true }
def BatchTellsUptoSaid : Prop := batchTellsUptoRow.holds Try.pinned (OpenSpec.upto batchTellsSpec)

/-- 'anneallaw26.BatchOnce', WHERE WHAT IT READS IS OF BULK AT MOST 1048576: true; the input reads as it did. -/
def batchOnceUptoRow : OpenClaim := { program := "ytjmihdhclbjaeaa", sum := "812137604d6aaf3c38353b9fd9a5e54f982177f2320692e675fd6fa57da8b247", func := "anneal/anneallaw26.BatchOnce", spec := "batchOnce", apart := false, narrowed := true }
def BatchOnceUptoSaid : Prop := batchOnceUptoRow.holds Try.pinned (OpenSpec.upto batchOnceSpec)

/-- 'anneallaw26.BatchEpochs', WHERE WHAT IT READS IS OF BULK AT MOST 1048576: true; the input reads as it did. -/
def batchEpochsUptoRow : OpenClaim := { program := "ytjmihdhclbjaeaa", sum := "812137604d6aaf3c38353b9fd9a5e54f982177f2320692e675fd6fa57da8b247", func := "anneal/anneallaw26.BatchEpochs", spec := "batchEpochs", apart := false, narrowed := true }
def BatchEpochsUptoSaid : Prop := batchEpochsUptoRow.holds Try.pinned (OpenSpec.upto batchEpochsSpec)

/-- 'anneallaw1.BitsReckon', WHERE WHAT IT READS IS OF BULK AT MOST 1048576: true; the input reads as it did. -/
def bitsReckonUptoRow : OpenClaim := { program := "ytjmihdhclbjaeaa", sum := "812137604d6aaf3c38353b9fd9a5e54f982177f2320692e675fd6fa57da8b247", func := "anneal/anneallaw1.BitsReckon", spec := "bitsReckon", apart := false, narrowed := true }
def BitsReckonUptoSaid : Prop := bitsReckonUptoRow.holds Try.pinned (OpenSpec.upto bitsReckonSpec)

/-- 'anneallaw1.BitsRoot', WHERE WHAT IT READS IS OF BULK AT MOST 1048576: true; the input reads as it did. -/
def bitsRootUptoRow : OpenClaim := { program := "ytjmihdhclbjaeaa", sum := "812137604d6aaf3c38353b9fd9a5e54f982177f2320692e675fd6fa57da8b247", func := "anneal/anneallaw1.BitsRoot", spec := "bitsRoot", apart := false, narrowed := true }
def BitsRootUptoSaid : Prop := bitsRootUptoRow.holds Try.pinned (OpenSpec.upto bitsRootSpec)

/-- 'anneallaw1.BitsTurn', WHERE WHAT IT READS IS OF BULK AT MOST 1048576: true; the input reads as it did. -/
def bitsTurnUptoRow : OpenClaim := { program := "ytjmihdhclbjaeaa", sum := "812137604d6aaf3c38353b9fd9a5e54f982177f2320692e675fd6fa57da8b247", func := "anneal/anneallaw1.BitsTurn", spec := "bitsTurn", apart := false, narrowed := true }
def BitsTurnUptoSaid : Prop := bitsTurnUptoRow.holds Try.pinned (OpenSpec.upto bitsTurnSpec)

/-- 'anneallaw1.BitsProduct', WHERE WHAT IT READS IS OF BULK AT MOST 1048576: true; the input reads as it did. -/
def bitsProductUptoRow : OpenClaim := { program := "ytjmihdhclbjaeaa", sum := "812137604d6aaf3c38353b9fd9a5e54f982177f2320692e675fd6fa57da8b247", func := "anneal/anneallaw1.BitsProduct", spec := "bitsProduct", apart := false, narrowed := true }
def BitsProductUptoSaid : Prop := bitsProductUptoRow.holds Try.pinned (OpenSpec.upto bitsProductSpec)

/-- 'anneallaw1.BitsTell', WHERE WHAT IT READS IS OF BULK AT MOST 1048576: true; the input reads as it did. -/
def bitsTellUptoRow : OpenClaim := { program := "ytjmihdhclbjaeaa", sum := "812137604d6aaf3c38353b9fd9a5e54f982177f2320692e675fd6fa57da8b247", func := "anneal/anneallaw1.BitsTell", spec := "bitsTell", apart := false, narrowed := true }
def BitsTellUptoSaid : Prop := bitsTellUptoRow.holds Try.pinned (OpenSpec.upto bitsTellSpec)

/-- 'anneallaw1.BitsBack', WHERE WHAT IT READS IS OF BULK AT MOST 1048576: true; the input reads as it did. -/
def bitsBackUptoRow : OpenClaim := { program := "ytjmihdhclbjaeaa", sum := "812137604d6aaf3c38353b9fd9a5e54f982177f2320692e675fd6fa57da8b247", func := "anneal/anneallaw1.BitsBack", spec := "bitsBack", apart := false, narrowed := true }
def BitsBackUptoSaid : Prop := bitsBackUptoRow.holds Try.pinned (OpenSpec.upto bitsBackSpec)

/-- 'anneallaw25.DataReads', WHERE WHAT IT READS IS OF BULK AT MOST 1048576: true; the input reads as it did. -/
def dataReadsUptoRow : OpenClaim := { program := "ytjmihdhclbjaeaa", sum := "812137604d6aaf3c38353b9fd9a5e54f982177f2320692e675fd6fa57da8b247", func := "anneal/anneallaw25.DataReads", spec := "dataReads", apart := false, narrowed := true }
def DataReadsUptoSaid : Prop := dataReadsUptoRow.holds Try.pinned (OpenSpec.upto dataReadsSpec)

/-- 'anneallaw25.DataBytes', WHERE WHAT IT READS IS OF BULK AT MOST 1048576: true; the input reads as it did. -/
def dataBytesUptoRow : OpenClaim := { program := "ytjmihdhclbjaeaa", sum := "812137604d6aaf3c38353b9fd9a5e54f982177f2320692e675fd6fa57da8b247", func := "anneal/anneallaw25.DataBytes", spec := "dataBytes", apart := false, narrowed := true }
def DataBytesUptoSaid : Prop := dataBytesUptoRow.holds Try.pinned (OpenSpec.upto dataBytesSpec)

/-- 'anneallaw25.DataTells', WHERE WHAT IT READS IS OF BULK AT MOST 1048576: true; the input reads as it did. -/
def dataTellsUptoRow : OpenClaim := { program := "ytjmihdhclbjaeaa", sum := "812137604d6aaf3c38353b9fd9a5e54f982177f2320692e675fd6fa57da8b247", func := "anneal/anneallaw25.DataTells", spec := "dataTells", apart := false, narrowed := true }
def DataTellsUptoSaid : Prop := dataTellsUptoRow.holds Try.pinned (OpenSpec.upto dataTellsSpec)

end Rows
end Go.Proofs.Ytjmihdhclbjaeaa
