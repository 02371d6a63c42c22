/-
  No cell of these rows narrows 'for every input' (looked for: loops, veiled, ifaces, maps, wideKeys, modest, calm, conditions, laid).
  DERIVED. THE GIVEN ROWS OF THIS SEAT. 4 by the template 'for every input the law returns true; each argument reads behind the call as it read before'; 0 by the template 'total and deterministic' (their statements: YtolpdiifmacdbaaGreatTotals.lean).
  GIVEN WITH THE SEED: the statements are not yours to turn. If you find one false, say at which input.
  Laid BY PROGRAM, IN A SANDBOX (cutbox-rows.mjs): the forced cells as the released guide's own fill.sh prints them over the translation f398ea9624ea9692… (all of the seat's roots in one cut). By AI agents, Wed Nov 11 2026. No macro, syntax, notation, axiom, sorry.
-/
import Derived.Test.YtolpdiifmacdbaaGreatChecked
import GoSem.Claim
import GoSem.ClaimJoined
import GoSem.ClaimMapViews
import Derived.JoinedTies
import Derived.KernelRfl
namespace Go.Proofs.YtolpdiifmacdbaaGreat
/- THE CELL 'sum', in the pinned program and in every row, IS THE sha256 OF THE DUMP (.gsa) THAT YtolpdiifmacdbaaGreatProg.lean LOADS. Nothing in Lean hashes anything: it is a label: what it is worth is what the hold of that sum in a sandbox is worth. -/
noncomputable def Tryz.pinned : Pinned := { name := "ytolpdiifmacdbaagreat", sum := "f398ea9624ea9692476f2df9732348c3db6bf33928749b6d24ef42954633112f", checked := Tryz.checked }
namespace Rows
def none {H : Type} : Left H := { results := [], args := [] }

/-- 'anneallaw19.ClipOrder': WHATEVER THE INPUT: true; the input reads as it did. -/
def clipOrderSpec : ChangeSpec := { name := "clipOrder", fn := fun _ => fun
  | [d1, d2] => { results := [.lit (.bool true)], args := [d1, d2] }
  | _ => none }
def clipOrderRow : OpenClaim := { program := "ytolpdiifmacdbaagreat", sum := "f398ea9624ea9692476f2df9732348c3db6bf33928749b6d24ef42954633112f", func := "anneal/anneallaw19.ClipOrder", spec := "clipOrder", unfollowed := true, recurses := true, apart := false }
def ClipOrderSaid : Prop := clipOrderRow.holds Tryz.pinned (OpenSpec.ofChange clipOrderSpec)

/-- ITS FALSE NEIGHBOUR: 'it returns false'. Refute it at one input. -/
def clipOrderWrong : ChangeSpec := { name := "clipOrder", fn := fun _ => fun
  | [d1, d2] => { results := [.lit (.bool false)], args := [d1, d2] }
  | _ => none }
def ClipOrderWrongFalsely : Prop := clipOrderRow.holds Tryz.pinned (OpenSpec.ofChange clipOrderWrong)

/-- 'anneallaw18.BirthTells': WHATEVER THE INPUT: true; the input reads as it did. -/
def birthTellsSpec : ChangeSpec := { name := "birthTells", fn := fun _ => fun
  | [d1, d2, d3, d4, d5, d6, d7] => { results := [.lit (.bool true)], args := [d1, d2, d3, d4, d5, d6, d7] }
  | _ => none }
def birthTellsRow : OpenClaim := { program := "ytolpdiifmacdbaagreat", sum := "f398ea9624ea9692476f2df9732348c3db6bf33928749b6d24ef42954633112f", func := "anneal/anneallaw18.BirthTells", spec := "birthTells", unfollowed := true, recurses := true, apart := false }
def BirthTellsSaid : Prop := birthTellsRow.holds Tryz.pinned (OpenSpec.ofChange birthTellsSpec)

/-- ITS FALSE NEIGHBOUR: 'it returns false'. Refute it at one input. -/
def birthTellsWrong : ChangeSpec := { name := "birthTells", fn := fun _ => fun
  | [d1, d2, d3, d4, d5, d6, d7] => { results := [.lit (.bool false)], args := [d1, d2, d3, d4, d5, d6, d7] }
  | _ => none }
def BirthTellsWrongFalsely : Prop := birthTellsRow.holds Tryz.pinned (OpenSpec.ofChange birthTellsWrong)

/-- 'anneallaw18.BirthBounds': WHATEVER THE INPUT: true; the input reads as it did. -/
def birthBoundsSpec : ChangeSpec := { name := "birthBounds", fn := fun _ => fun
  | [d1, d2, d3, d4] => { results := [.lit (.bool true)], args := [d1, d2, d3, d4] }
  | _ => none }
def birthBoundsRow : OpenClaim := { program := "ytolpdiifmacdbaagreat", sum := "f398ea9624ea9692476f2df9732348c3db6bf33928749b6d24ef42954633112f", func := "anneal/anneallaw18.BirthBounds", spec := "birthBounds", unfollowed := true, recurses := true, apart := false }
def BirthBoundsSaid : Prop := birthBoundsRow.holds Tryz.pinned (OpenSpec.ofChange birthBoundsSpec)

/-- ITS FALSE NEIGHBOUR: 'it returns false'. Refute it at one input. -/
def birthBoundsWrong : ChangeSpec := { name := "birthBounds", fn := fun _ => fun
  | [d1, d2, d3, d4] => { results := [.lit (.bool false)], args := [d1, d2, d3, d4] }
  | _ => none }
def BirthBoundsWrongFalsely : Prop := birthBoundsRow.holds Tryz.pinned (OpenSpec.ofChange birthBoundsWrong)

/-- 'anneallaw19.ClipKeeps': WHATEVER THE INPUT: true; the input reads as it did. -/
def clipKeepsSpec : ChangeSpec := { name := "clipKeeps", fn := fun _ => fun
  | [d1, d2, d3] => { results := [.lit (.bool true)], args := [d1, d2, d3] }
  | _ => none }
def clipKeepsRow : OpenClaim := { program := "ytolpdiifmacdbaagreat", sum := "f398ea9624ea9692476f2df9732348c3db6bf33928749b6d24ef42954633112f", func := "anneal/anneallaw19.ClipKeeps", spec := "clipKeeps", unfollowed := true, recurses := true, apart := false }
def ClipKeepsSaid : Prop := clipKeepsRow.holds Tryz.pinned (OpenSpec.ofChange clipKeepsSpec)

/-- ITS FALSE NEIGHBOUR: 'it returns false'. Refute it at one input. -/
def clipKeepsWrong : ChangeSpec := { name := "clipKeeps", fn := fun _ => fun
  | [d1, d2, d3] => { results := [.lit (.bool false)], args := [d1, d2, d3] }
  | _ => none }
def ClipKeepsWrongFalsely : Prop := clipKeepsRow.holds Tryz.pinned (OpenSpec.ofChange clipKeepsWrong)

/- THE SECOND FORM. 'bulk': how many values and letters a reading holds, each counted each time it is reached (what is shared counts as often as it is met; a slice's spare places count too). A statement '..UptoSaid' is the law's where the arguments, and the package variables that the reading takes, are together of bulk at most 1048576: NARROWER than '..Said'. Prove '..Said' where nothing that the law and all that it calls make is longer than what came in: it says more and counts as full. Else prove '..UptoSaid'. A law counts once. -/
mutual
def uptoBulk {H : Type} : DataW H → Nat
  | .lit (.string bytes) => bytes.length + 1
  | .lit _ => 1
  | .nil => 1
  | .ptr d => uptoBulk d + 1
  | .slice elems spare => uptoBulkAll elems + uptoBulkAll spare + 1
  | .agg parts => uptoBulkAll parts + 1
  | .iface _ d => uptoBulk d + 1
  | .map entries => uptoBulkEntries entries + 1
  | .held _ => 1
def uptoBulkAll {H : Type} : List (DataW H) → Nat
  | [] => 0
  | d :: r => uptoBulk d + uptoBulkAll r
def uptoBulkEntries {H : Type} : List (Lit × DataW H) → Nat
  | [] => 0
  | x :: r => uptoBulkEntry x + uptoBulkEntries r
def uptoBulkEntry {H : Type} : Lit × DataW H → Nat
  | (.string bytes, d) => bytes.length + uptoBulk d + 1
  | (_, d) => uptoBulk d + 1
 end
def uptoSmall : (H : Type) → List (DataW H) → Bool := fun _ ds => decide (uptoBulkAll ds ≤ 1048576)
def OpenSpec.upto (s : _root_.Go.ChangeSpec) : _root_.Go.OpenSpec := { _root_.Go.OpenSpec.ofChange s with cond := some uptoSmall }

/-- 'anneallaw19.ClipOrder', WHERE WHAT IT READS IS OF BULK AT MOST 1048576: true; the input reads as it did. -/
def clipOrderUptoRow : OpenClaim := { program := "ytolpdiifmacdbaagreat", sum := "f398ea9624ea9692476f2df9732348c3db6bf33928749b6d24ef42954633112f", func := "anneal/anneallaw19.ClipOrder", spec := "clipOrder", unfollowed := true, recurses := true, apart := false, narrowed := true }
def ClipOrderUptoSaid : Prop := clipOrderUptoRow.holds Tryz.pinned (OpenSpec.upto clipOrderSpec)

/-- 'anneallaw18.BirthTells', WHERE WHAT IT READS IS OF BULK AT MOST 1048576: true; the input reads as it did. -/
def birthTellsUptoRow : OpenClaim := { program := "ytolpdiifmacdbaagreat", sum := "f398ea9624ea9692476f2df9732348c3db6bf33928749b6d24ef42954633112f", func := "anneal/anneallaw18.BirthTells", spec := "birthTells", unfollowed := true, recurses := true, apart := false, narrowed := true }
def BirthTellsUptoSaid : Prop := birthTellsUptoRow.holds Tryz.pinned (OpenSpec.upto birthTellsSpec)

/-- 'anneallaw18.BirthBounds', WHERE WHAT IT READS IS OF BULK AT MOST 1048576: true; the input reads as it did. -/
def birthBoundsUptoRow : OpenClaim := { program := "ytolpdiifmacdbaagreat", sum := "f398ea9624ea9692476f2df9732348c3db6bf33928749b6d24ef42954633112f", func := "anneal/anneallaw18.BirthBounds", spec := "birthBounds", unfollowed := true, recurses := true, apart := false, narrowed := true }
def BirthBoundsUptoSaid : Prop := birthBoundsUptoRow.holds Tryz.pinned (OpenSpec.upto birthBoundsSpec)

/-- 'anneallaw19.ClipKeeps', WHERE WHAT IT READS IS OF BULK AT MOST 1048576: true; the input reads as it did. -/
def clipKeepsUptoRow : OpenClaim := { program := "ytolpdiifmacdbaagreat", sum := "f398ea9624ea9692476f2df9732348c3db6bf33928749b6d24ef42954633112f", func := "anneal/anneallaw19.ClipKeeps", spec := "clipKeeps", unfollowed := true, recurses := true, apart := false, narrowed := true }
def ClipKeepsUptoSaid : Prop := clipKeepsUptoRow.holds Tryz.pinned (OpenSpec.upto clipKeepsSpec)

end Rows
end Go.Proofs.YtolpdiifmacdbaaGreat
