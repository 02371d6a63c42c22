/-
  No cell of these rows narrows 'for every input' (looked for: loops, veiled, ifaces, maps, wideKeys, modest, calm, conditions, laid).
  DERIVED. THE GIVEN ROWS OF THIS SEAT. 12 by the template 'for every input the law returns true; each argument reads behind the call as it read before'; 0 by the template 'total and deterministic' (their statements: YtoljndjpnbdjmaaTotals.lean).
  GIVEN WITH THE SEED: the statements are not yours to turn. If you find one false, say at which input.
  Laid BY PROGRAM, IN A SANDBOX (cutbox-rows.mjs): the forced cells as the released guide's own fill.sh prints them over the translation 7a84fb1c364fc865… (all of the seat's roots in one cut). By AI agents, Wed Nov 11 2026. No macro, syntax, notation, axiom, sorry.
-/
import Derived.Test.YtoljndjpnbdjmaaChecked
import GoSem.Claim
import GoSem.ClaimJoined
import GoSem.ClaimMapViews
import Derived.JoinedTies
import Derived.KernelRfl
namespace Go.Proofs.Ytoljndjpnbdjmaa
/- THE CELL 'sum', in the pinned program and in every row, IS THE sha256 OF THE DUMP (.gsa) THAT YtoljndjpnbdjmaaProg.lean LOADS. Nothing in Lean hashes anything: it is a label: what it is worth is what the hold of that sum in a sandbox is worth. -/
noncomputable def Try.pinned : Pinned := { name := "ytoljndjpnbdjmaa", sum := "7a84fb1c364fc865eaed5482715e9a1ac7c38b77b4ff470b4bafe23883b58fe1", checked := Try.checked }
namespace Rows
def none {H : Type} : Left H := { results := [], args := [] }

/-- 'anneallaw3.RoundTells': WHATEVER THE INPUT: true; the input reads as it did. -/
def roundTellsSpec : ChangeSpec := { name := "roundTells", fn := fun _ => fun
  | [d1, d2, d3, d4, d5, d6, d7, d8] => { results := [.lit (.bool true)], args := [d1, d2, d3, d4, d5, d6, d7, d8] }
  | _ => none }
def roundTellsRow : OpenClaim := { program := "ytoljndjpnbdjmaa", sum := "7a84fb1c364fc865eaed5482715e9a1ac7c38b77b4ff470b4bafe23883b58fe1", func := "anneal/anneallaw3.RoundTells", spec := "roundTells", apart := false }
def RoundTellsSaid : Prop := roundTellsRow.holds Try.pinned (OpenSpec.ofChange roundTellsSpec)

/-- ITS FALSE NEIGHBOUR: 'it returns false'. Refute it at one input. -/
def roundTellsWrong : ChangeSpec := { name := "roundTells", fn := fun _ => fun
  | [d1, d2, d3, d4, d5, d6, d7, d8] => { results := [.lit (.bool false)], args := [d1, d2, d3, d4, d5, d6, d7, d8] }
  | _ => none }
def RoundTellsWrongFalsely : Prop := roundTellsRow.holds Try.pinned (OpenSpec.ofChange roundTellsWrong)

/-- 'anneallaw3.RoundModes': WHATEVER THE INPUT: true; the input reads as it did. -/
def roundModesSpec : ChangeSpec := { name := "roundModes", fn := fun _ => fun
  | [d1, d2, d3, d4, d5] => { results := [.lit (.bool true)], args := [d1, d2, d3, d4, d5] }
  | _ => none }
def roundModesRow : OpenClaim := { program := "ytoljndjpnbdjmaa", sum := "7a84fb1c364fc865eaed5482715e9a1ac7c38b77b4ff470b4bafe23883b58fe1", func := "anneal/anneallaw3.RoundModes", spec := "roundModes", apart := false }
def RoundModesSaid : Prop := roundModesRow.holds Try.pinned (OpenSpec.ofChange roundModesSpec)

/-- ITS FALSE NEIGHBOUR: 'it returns false'. Refute it at one input. -/
def roundModesWrong : ChangeSpec := { name := "roundModes", fn := fun _ => fun
  | [d1, d2, d3, d4, d5] => { results := [.lit (.bool false)], args := [d1, d2, d3, d4, d5] }
  | _ => none }
def RoundModesWrongFalsely : Prop := roundModesRow.holds Try.pinned (OpenSpec.ofChange roundModesWrong)

/-- 'anneallaw3.RoundExact': WHATEVER THE INPUT: true; the input reads as it did. -/
def roundExactSpec : ChangeSpec := { name := "roundExact", fn := fun _ => fun
  | [d1, d2, d3, d4] => { results := [.lit (.bool true)], args := [d1, d2, d3, d4] }
  | _ => none }
def roundExactRow : OpenClaim := { program := "ytoljndjpnbdjmaa", sum := "7a84fb1c364fc865eaed5482715e9a1ac7c38b77b4ff470b4bafe23883b58fe1", func := "anneal/anneallaw3.RoundExact", spec := "roundExact", apart := false }
def RoundExactSaid : Prop := roundExactRow.holds Try.pinned (OpenSpec.ofChange roundExactSpec)

/-- ITS FALSE NEIGHBOUR: 'it returns false'. Refute it at one input. -/
def roundExactWrong : ChangeSpec := { name := "roundExact", fn := fun _ => fun
  | [d1, d2, d3, d4] => { results := [.lit (.bool false)], args := [d1, d2, d3, d4] }
  | _ => none }
def RoundExactWrongFalsely : Prop := roundExactRow.holds Try.pinned (OpenSpec.ofChange roundExactWrong)

/-- 'anneallaw3.RoundOrder': WHATEVER THE INPUT: true; the input reads as it did. -/
def roundOrderSpec : ChangeSpec := { name := "roundOrder", fn := fun _ => fun
  | [d1, d2, d3, d4, d5, d6, d7] => { results := [.lit (.bool true)], args := [d1, d2, d3, d4, d5, d6, d7] }
  | _ => none }
def roundOrderRow : OpenClaim := { program := "ytoljndjpnbdjmaa", sum := "7a84fb1c364fc865eaed5482715e9a1ac7c38b77b4ff470b4bafe23883b58fe1", func := "anneal/anneallaw3.RoundOrder", spec := "roundOrder", apart := false }
def RoundOrderSaid : Prop := roundOrderRow.holds Try.pinned (OpenSpec.ofChange roundOrderSpec)

/-- ITS FALSE NEIGHBOUR: 'it returns false'. Refute it at one input. -/
def roundOrderWrong : ChangeSpec := { name := "roundOrder", fn := fun _ => fun
  | [d1, d2, d3, d4, d5, d6, d7] => { results := [.lit (.bool false)], args := [d1, d2, d3, d4, d5, d6, d7] }
  | _ => none }
def RoundOrderWrongFalsely : Prop := roundOrderRow.holds Try.pinned (OpenSpec.ofChange roundOrderWrong)

/-- 'anneallaw3.RoundTiny': WHATEVER THE INPUT: true; the input reads as it did. -/
def roundTinySpec : ChangeSpec := { name := "roundTiny", fn := fun _ => fun
  | [d1, d2, d3] => { results := [.lit (.bool true)], args := [d1, d2, d3] }
  | _ => none }
def roundTinyRow : OpenClaim := { program := "ytoljndjpnbdjmaa", sum := "7a84fb1c364fc865eaed5482715e9a1ac7c38b77b4ff470b4bafe23883b58fe1", func := "anneal/anneallaw3.RoundTiny", spec := "roundTiny", apart := false }
def RoundTinySaid : Prop := roundTinyRow.holds Try.pinned (OpenSpec.ofChange roundTinySpec)

/-- ITS FALSE NEIGHBOUR: 'it returns false'. Refute it at one input. -/
def roundTinyWrong : ChangeSpec := { name := "roundTiny", fn := fun _ => fun
  | [d1, d2, d3] => { results := [.lit (.bool false)], args := [d1, d2, d3] }
  | _ => none }
def RoundTinyWrongFalsely : Prop := roundTinyRow.holds Try.pinned (OpenSpec.ofChange roundTinyWrong)

/-- 'anneallaw9.ConvTells': WHATEVER THE INPUT: true; the input reads as it did. -/
def convTellsSpec : ChangeSpec := { name := "convTells", fn := fun _ => fun
  | [d1, d2, d3, d4, d5, d6] => { results := [.lit (.bool true)], args := [d1, d2, d3, d4, d5, d6] }
  | _ => none }
def convTellsRow : OpenClaim := { program := "ytoljndjpnbdjmaa", sum := "7a84fb1c364fc865eaed5482715e9a1ac7c38b77b4ff470b4bafe23883b58fe1", func := "anneal/anneallaw9.ConvTells", spec := "convTells", apart := false }
def ConvTellsSaid : Prop := convTellsRow.holds Try.pinned (OpenSpec.ofChange convTellsSpec)

/-- ITS FALSE NEIGHBOUR: 'it returns false'. Refute it at one input. -/
def convTellsWrong : ChangeSpec := { name := "convTells", fn := fun _ => fun
  | [d1, d2, d3, d4, d5, d6] => { results := [.lit (.bool false)], args := [d1, d2, d3, d4, d5, d6] }
  | _ => none }
def ConvTellsWrongFalsely : Prop := convTellsRow.holds Try.pinned (OpenSpec.ofChange convTellsWrong)

/-- 'anneallaw9.ConvBack': WHATEVER THE INPUT: true; the input reads as it did. -/
def convBackSpec : ChangeSpec := { name := "convBack", fn := fun _ => fun
  | [d1, d2, d3] => { results := [.lit (.bool true)], args := [d1, d2, d3] }
  | _ => none }
def convBackRow : OpenClaim := { program := "ytoljndjpnbdjmaa", sum := "7a84fb1c364fc865eaed5482715e9a1ac7c38b77b4ff470b4bafe23883b58fe1", func := "anneal/anneallaw9.ConvBack", spec := "convBack", apart := false }
def ConvBackSaid : Prop := convBackRow.holds Try.pinned (OpenSpec.ofChange convBackSpec)

/-- ITS FALSE NEIGHBOUR: 'it returns false'. Refute it at one input. -/
def convBackWrong : ChangeSpec := { name := "convBack", fn := fun _ => fun
  | [d1, d2, d3] => { results := [.lit (.bool false)], args := [d1, d2, d3] }
  | _ => none }
def ConvBackWrongFalsely : Prop := convBackRow.holds Try.pinned (OpenSpec.ofChange convBackWrong)

/-- 'anneallaw9.ConvSides': WHATEVER THE INPUT: true; the input reads as it did. -/
def convSidesSpec : ChangeSpec := { name := "convSides", fn := fun _ => fun
  | [d1, d2] => { results := [.lit (.bool true)], args := [d1, d2] }
  | _ => none }
def convSidesRow : OpenClaim := { program := "ytoljndjpnbdjmaa", sum := "7a84fb1c364fc865eaed5482715e9a1ac7c38b77b4ff470b4bafe23883b58fe1", func := "anneal/anneallaw9.ConvSides", spec := "convSides", apart := false }
def ConvSidesSaid : Prop := convSidesRow.holds Try.pinned (OpenSpec.ofChange convSidesSpec)

/-- ITS FALSE NEIGHBOUR: 'it returns false'. Refute it at one input. -/
def convSidesWrong : ChangeSpec := { name := "convSides", fn := fun _ => fun
  | [d1, d2] => { results := [.lit (.bool false)], args := [d1, d2] }
  | _ => none }
def ConvSidesWrongFalsely : Prop := convSidesRow.holds Try.pinned (OpenSpec.ofChange convSidesWrong)

/-- 'anneallaw11.ChanceTells': WHATEVER THE INPUT: true; the input reads as it did. -/
def chanceTellsSpec : ChangeSpec := { name := "chanceTells", fn := fun _ => fun
  | [d1, d2, d3, d4] => { results := [.lit (.bool true)], args := [d1, d2, d3, d4] }
  | _ => none }
def chanceTellsRow : OpenClaim := { program := "ytoljndjpnbdjmaa", sum := "7a84fb1c364fc865eaed5482715e9a1ac7c38b77b4ff470b4bafe23883b58fe1", func := "anneal/anneallaw11.ChanceTells", spec := "chanceTells", apart := false }
def ChanceTellsSaid : Prop := chanceTellsRow.holds Try.pinned (OpenSpec.ofChange chanceTellsSpec)

/-- ITS FALSE NEIGHBOUR: 'it returns false'. Refute it at one input. -/
def chanceTellsWrong : ChangeSpec := { name := "chanceTells", fn := fun _ => fun
  | [d1, d2, d3, d4] => { results := [.lit (.bool false)], args := [d1, d2, d3, d4] }
  | _ => none }
def ChanceTellsWrongFalsely : Prop := chanceTellsRow.holds Try.pinned (OpenSpec.ofChange chanceTellsWrong)

/-- 'anneallaw11.ChanceBetween': WHATEVER THE INPUT: true; the input reads as it did. -/
def chanceBetweenSpec : ChangeSpec := { name := "chanceBetween", fn := fun _ => fun
  | [d1, d2, d3, d4] => { results := [.lit (.bool true)], args := [d1, d2, d3, d4] }
  | _ => none }
def chanceBetweenRow : OpenClaim := { program := "ytoljndjpnbdjmaa", sum := "7a84fb1c364fc865eaed5482715e9a1ac7c38b77b4ff470b4bafe23883b58fe1", func := "anneal/anneallaw11.ChanceBetween", spec := "chanceBetween", unfollowed := true, recurses := true, apart := false }
def ChanceBetweenSaid : Prop := chanceBetweenRow.holds Try.pinned (OpenSpec.ofChange chanceBetweenSpec)

/-- ITS FALSE NEIGHBOUR: 'it returns false'. Refute it at one input. -/
def chanceBetweenWrong : ChangeSpec := { name := "chanceBetween", fn := fun _ => fun
  | [d1, d2, d3, d4] => { results := [.lit (.bool false)], args := [d1, d2, d3, d4] }
  | _ => none }
def ChanceBetweenWrongFalsely : Prop := chanceBetweenRow.holds Try.pinned (OpenSpec.ofChange chanceBetweenWrong)

/-- 'anneallaw11.ChanceExact': WHATEVER THE INPUT: true; the input reads as it did. -/
def chanceExactSpec : ChangeSpec := { name := "chanceExact", fn := fun _ => fun
  | [d1, d2, d3] => { results := [.lit (.bool true)], args := [d1, d2, d3] }
  | _ => none }
def chanceExactRow : OpenClaim := { program := "ytoljndjpnbdjmaa", sum := "7a84fb1c364fc865eaed5482715e9a1ac7c38b77b4ff470b4bafe23883b58fe1", func := "anneal/anneallaw11.ChanceExact", spec := "chanceExact", apart := false }
def ChanceExactSaid : Prop := chanceExactRow.holds Try.pinned (OpenSpec.ofChange chanceExactSpec)

/-- ITS FALSE NEIGHBOUR: 'it returns false'. Refute it at one input. -/
def chanceExactWrong : ChangeSpec := { name := "chanceExact", fn := fun _ => fun
  | [d1, d2, d3] => { results := [.lit (.bool false)], args := [d1, d2, d3] }
  | _ => none }
def ChanceExactWrongFalsely : Prop := chanceExactRow.holds Try.pinned (OpenSpec.ofChange chanceExactWrong)

/-- 'anneallaw11.ChanceParts': WHATEVER THE INPUT: true; the input reads as it did. -/
def chancePartsSpec : ChangeSpec := { name := "chanceParts", fn := fun _ => fun
  | [d1, d2, d3] => { results := [.lit (.bool true)], args := [d1, d2, d3] }
  | _ => none }
def chancePartsRow : OpenClaim := { program := "ytoljndjpnbdjmaa", sum := "7a84fb1c364fc865eaed5482715e9a1ac7c38b77b4ff470b4bafe23883b58fe1", func := "anneal/anneallaw11.ChanceParts", spec := "chanceParts", apart := false }
def ChancePartsSaid : Prop := chancePartsRow.holds Try.pinned (OpenSpec.ofChange chancePartsSpec)

/-- ITS FALSE NEIGHBOUR: 'it returns false'. Refute it at one input. -/
def chancePartsWrong : ChangeSpec := { name := "chanceParts", fn := fun _ => fun
  | [d1, d2, d3] => { results := [.lit (.bool false)], args := [d1, d2, d3] }
  | _ => none }
def ChancePartsWrongFalsely : Prop := chancePartsRow.holds Try.pinned (OpenSpec.ofChange chancePartsWrong)

/- THE SECOND FORM. 'bulk': how many values and letters a reading holds, each counted each time it is reached (what is shared counts as often as it is met; a slice's spare places count too). A statement '..UptoSaid' is the law's where the arguments, and the package variables that the reading takes, are together of bulk at most 1048576: NARROWER than '..Said'. Prove '..Said' where nothing that the law and all that it calls make is longer than what came in: it says more and counts as full. Else prove '..UptoSaid'. A law counts once. -/
mutual
def uptoBulk {H : Type} : DataW H → Nat
  | .lit (.string bytes) => bytes.length + 1
  | .lit _ => 1
  | .nil => 1
  | .ptr d => uptoBulk d + 1
  | .slice elems spare => uptoBulkAll elems + uptoBulkAll spare + 1
  | .agg parts => uptoBulkAll parts + 1
  | .iface _ d => uptoBulk d + 1
  | .map entries => uptoBulkEntries entries + 1
  | .held _ => 1
def uptoBulkAll {H : Type} : List (DataW H) → Nat
  | [] => 0
  | d :: r => uptoBulk d + uptoBulkAll r
def uptoBulkEntries {H : Type} : List (Lit × DataW H) → Nat
  | [] => 0
  | x :: r => uptoBulkEntry x + uptoBulkEntries r
def uptoBulkEntry {H : Type} : Lit × DataW H → Nat
  | (.string bytes, d) => bytes.length + uptoBulk d + 1
  | (_, d) => uptoBulk d + 1
 end
def uptoSmall : (H : Type) → List (DataW H) → Bool := fun _ ds => decide (uptoBulkAll ds ≤ 1048576)
def OpenSpec.upto (s : _root_.Go.ChangeSpec) : _root_.Go.OpenSpec := { _root_.Go.OpenSpec.ofChange s with cond := some uptoSmall }

/-- 'anneallaw3.RoundTells', WHERE WHAT IT READS IS OF BULK AT MOST 1048576: true; the input reads as it did. -/
def roundTellsUptoRow : OpenClaim := { program := "ytoljndjpnbdjmaa", sum := "7a84fb1c364fc865eaed5482715e9a1ac7c38b77b4ff470b4bafe23883b58fe1", func := "anneal/anneallaw3.RoundTells", spec := "roundTells", apart := false, narrowed := true }
def RoundTellsUptoSaid : Prop := roundTellsUptoRow.holds Try.pinned (OpenSpec.upto roundTellsSpec)

/-- 'anneallaw3.RoundModes', WHERE WHAT IT READS IS OF BULK AT MOST 1048576: true; the input reads as it did. -/
def roundModesUptoRow : OpenClaim := { program := "ytoljndjpnbdjmaa", sum := "7a84fb1c364fc865eaed5482715e9a1ac7c38b77b4ff470b4bafe23883b58fe1", func := "anneal/anneallaw3.RoundModes", spec := "roundModes", apart := false, narrowed := true }
def RoundModesUptoSaid : Prop := roundModesUptoRow.holds Try.pinned (OpenSpec.upto roundModesSpec)

/-- 'anneallaw3.RoundExact', WHERE WHAT IT READS IS OF BULK AT MOST 1048576: true; the input reads as it did. -/
def roundExactUptoRow : OpenClaim := { program := "ytoljndjpnbdjmaa", sum := "7a84fb1c364fc865eaed5482715e9a1ac7c38b77b4ff470b4bafe23883b58fe1", func := "anneal/anneallaw3.RoundExact", spec := "roundExact", apart := false, narrowed := true }
def RoundExactUptoSaid : Prop := roundExactUptoRow.holds Try.pinned (OpenSpec.upto roundExactSpec)

/-- 'anneallaw3.RoundOrder', WHERE WHAT IT READS IS OF BULK AT MOST 1048576: true; the input reads as it did. -/
def roundOrderUptoRow : OpenClaim := { program := "ytoljndjpnbdjmaa", sum := "7a84fb1c364fc865eaed5482715e9a1ac7c38b77b4ff470b4bafe23883b58fe1", func := "anneal/anneallaw3.RoundOrder", spec := "roundOrder", apart := false, narrowed := true }
def RoundOrderUptoSaid : Prop := roundOrderUptoRow.holds Try.pinned (OpenSpec.upto roundOrderSpec)

/-- 'anneallaw3.RoundTiny', WHERE WHAT IT READS IS OF BULK AT MOST 1048576: true; the input reads as it did. -/
def roundTinyUptoRow : OpenClaim := { program := "ytoljndjpnbdjmaa", sum := "7a84fb1c364fc865eaed5482715e9a1ac7c38b77b4ff470b4bafe23883b58fe1", func := "anneal/anneallaw3.RoundTiny", spec := "roundTiny", apart := false, narrowed := true }
def RoundTinyUptoSaid : Prop := roundTinyUptoRow.holds Try.pinned (OpenSpec.upto roundTinySpec)

/-- 'anneallaw9.ConvTells', WHERE WHAT IT READS IS OF BULK AT MOST 1048576: true; the input reads as it did. -/
def convTellsUptoRow : OpenClaim := { program := "ytoljndjpnbdjmaa", sum := "7a84fb1c364fc865eaed5482715e9a1ac7c38b77b4ff470b4bafe23883b58fe1", func := "anneal/anneallaw9.ConvTells", spec := "convTells", apart := false, narrowed := true }
def ConvTellsUptoSaid : Prop := convTellsUptoRow.holds Try.pinned (OpenSpec.upto convTellsSpec)

/-- 'anneallaw9.ConvBack', WHERE WHAT IT READS IS OF BULK AT MOST 1048576: true; the input reads as it did. -/
def convBackUptoRow : OpenClaim := { program := "ytoljndjpnbdjmaa", sum := "7a84fb1c364fc865eaed5482715e9a1ac7c38b77b4ff470b4bafe23883b58fe1", func := "anneal/anneallaw9.ConvBack", spec := "convBack", apart := false, narrowed := true }
def ConvBackUptoSaid : Prop := convBackUptoRow.holds Try.pinned (OpenSpec.upto convBackSpec)

/-- 'anneallaw9.ConvSides', WHERE WHAT IT READS IS OF BULK AT MOST 1048576: true; the input reads as it did. -/
def convSidesUptoRow : OpenClaim := { program := "ytoljndjpnbdjmaa", sum := "7a84fb1c364fc865eaed5482715e9a1ac7c38b77b4ff470b4bafe23883b58fe1", func := "anneal/anneallaw9.ConvSides", spec := "convSides", apart := false, narrowed := true }
def ConvSidesUptoSaid : Prop := convSidesUptoRow.holds Try.pinned (OpenSpec.upto convSidesSpec)

/-- 'anneallaw11.ChanceTells', WHERE WHAT IT READS IS OF BULK AT MOST 1048576: true; the input reads as it did. -/
def chanceTellsUptoRow : OpenClaim := { program := "ytoljndjpnbdjmaa", sum := "7a84fb1c364fc865eaed5482715e9a1ac7c38b77b4ff470b4bafe23883b58fe1", func := "anneal/anneallaw11.ChanceTells", spec := "chanceTells", apart := false, narrowed := true }
def ChanceTellsUptoSaid : Prop := chanceTellsUptoRow.holds Try.pinned (OpenSpec.upto chanceTellsSpec)

/-- 'anneallaw11.ChanceBetween', WHERE WHAT IT READS IS OF BULK AT MOST 1048576: true; the input reads as it did. -/
def chanceBetweenUptoRow : OpenClaim := { program := "ytoljndjpnbdjmaa", sum := "7a84fb1c364fc865eaed5482715e9a1ac7c38b77b4ff470b4bafe23883b58fe1", func := "anneal/anneallaw11.ChanceBetween", spec := "chanceBetween", unfollowed := true, recurses := true, apart := false, narrowed := true }
def ChanceBetweenUptoSaid : Prop := chanceBetweenUptoRow.holds Try.pinned (OpenSpec.upto chanceBetweenSpec)

/-- 'anneallaw11.ChanceExact', WHERE WHAT IT READS IS OF BULK AT MOST 1048576: true; the input reads as it did. -/
def chanceExactUptoRow : OpenClaim := { program := "ytoljndjpnbdjmaa", sum := "7a84fb1c364fc865eaed5482715e9a1ac7c38b77b4ff470b4bafe23883b58fe1", func := "anneal/anneallaw11.ChanceExact", spec := "chanceExact", apart := false, narrowed := true }
def ChanceExactUptoSaid : Prop := chanceExactUptoRow.holds Try.pinned (OpenSpec.upto chanceExactSpec)

/-- 'anneallaw11.ChanceParts', WHERE WHAT IT READS IS OF BULK AT MOST 1048576: true; the input reads as it did. -/
def chancePartsUptoRow : OpenClaim := { program := "ytoljndjpnbdjmaa", sum := "7a84fb1c364fc865eaed5482715e9a1ac7c38b77b4ff470b4bafe23883b58fe1", func := "anneal/anneallaw11.ChanceParts", spec := "chanceParts", apart := false, narrowed := true }
def ChancePartsUptoSaid : Prop := chancePartsUptoRow.holds Try.pinned (OpenSpec.upto chancePartsSpec)

end Rows
end Go.Proofs.Ytoljndjpnbdjmaa
