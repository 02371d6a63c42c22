/-
  No cell of these rows narrows 'for every input' (looked for: loops, veiled, ifaces, maps, wideKeys, modest, calm, conditions, laid).
  DERIVED. THE GIVEN ROWS OF THIS SEAT. 3 by the template 'for every input the law returns true; each argument reads behind the call as it read before'; 0 by the template 'total and deterministic' (their statements: YtfapjegkilljnaaTotals.lean).
  GIVEN WITH THE SEED: the statements are not yours to turn. If you find one false, say at which input.
  Laid BY PROGRAM, IN A SANDBOX (cutbox-rows.mjs): the forced cells as the released guide's own fill.sh prints them over the translation 2686d16cc13a1fb7… (all of the seat's roots in one cut). By AI agents, Wed Nov 11 2026. No macro, syntax, notation, axiom, sorry.
-/
import Derived.Test.YtfapjegkilljnaaChecked
import GoSem.Claim
import GoSem.ClaimJoined
import GoSem.ClaimMapViews
import Derived.JoinedTies
import Derived.KernelRfl
namespace Go.Proofs.Ytfapjegkilljnaa
/- THE CELL 'sum', in the pinned program and in every row, IS THE sha256 OF THE DUMP (.gsa) THAT YtfapjegkilljnaaProg.lean LOADS. Nothing in Lean hashes anything: it is a label: what it is worth is what the hold of that sum in a sandbox is worth. -/
noncomputable def Try.pinned : Pinned := { name := "ytfapjegkilljnaa", sum := "2686d16cc13a1fb779e1f0aa8f9b12e1462b2c4f4cc1686472907fe0bbe289d7", checked := Try.checked }
namespace Rows
def none {H : Type} : Left H := { results := [], args := [] }

/-- 'anneallaw21.OptBegins': WHATEVER THE INPUT: true; the input reads as it did. -/
def optBeginsSpec : ChangeSpec := { name := "optBegins", fn := fun _ => fun
  | [d1, d2, d3] => { results := [.lit (.bool true)], args := [d1, d2, d3] }
  | _ => none }
def optBeginsRow : OpenClaim := { program := "ytfapjegkilljnaa", sum := "2686d16cc13a1fb779e1f0aa8f9b12e1462b2c4f4cc1686472907fe0bbe289d7", func := "anneal/anneallaw21.OptBegins", spec := "optBegins", unfollowed := true, recurses := true, apart := false }
def OptBeginsSaid : Prop := optBeginsRow.holds Try.pinned (OpenSpec.ofChange optBeginsSpec)

/-- ITS FALSE NEIGHBOUR: 'it returns false'. Refute it at one input. -/
def optBeginsWrong : ChangeSpec := { name := "optBegins", fn := fun _ => fun
  | [d1, d2, d3] => { results := [.lit (.bool false)], args := [d1, d2, d3] }
  | _ => none }
def OptBeginsWrongFalsely : Prop := optBeginsRow.holds Try.pinned (OpenSpec.ofChange optBeginsWrong)

/-- 'anneallaw21.OptStill': WHATEVER THE INPUT: true; the input reads as it did. -/
def optStillSpec : ChangeSpec := { name := "optStill", fn := fun _ => fun
  | [d1, d2, d3, d4, d5] => { results := [.lit (.bool true)], args := [d1, d2, d3, d4, d5] }
  | _ => none }
def optStillRow : OpenClaim := { program := "ytfapjegkilljnaa", sum := "2686d16cc13a1fb779e1f0aa8f9b12e1462b2c4f4cc1686472907fe0bbe289d7", func := "anneal/anneallaw21.OptStill", spec := "optStill", unfollowed := true, recurses := true, apart := false }
def OptStillSaid : Prop := optStillRow.holds Try.pinned (OpenSpec.ofChange optStillSpec)

/-- ITS FALSE NEIGHBOUR: 'it returns false'. Refute it at one input. -/
def optStillWrong : ChangeSpec := { name := "optStill", fn := fun _ => fun
  | [d1, d2, d3, d4, d5] => { results := [.lit (.bool false)], args := [d1, d2, d3, d4, d5] }
  | _ => none }
def OptStillWrongFalsely : Prop := optStillRow.holds Try.pinned (OpenSpec.ofChange optStillWrong)

/-- 'anneallaw21.OptPowers': WHATEVER THE INPUT: true; the input reads as it did. -/
def optPowersSpec : ChangeSpec := { name := "optPowers", fn := fun _ => fun
  | [d1, d2, d3, d4, d5] => { results := [.lit (.bool true)], args := [d1, d2, d3, d4, d5] }
  | _ => none }
def optPowersRow : OpenClaim := { program := "ytfapjegkilljnaa", sum := "2686d16cc13a1fb779e1f0aa8f9b12e1462b2c4f4cc1686472907fe0bbe289d7", func := "anneal/anneallaw21.OptPowers", spec := "optPowers", unfollowed := true, recurses := true, apart := false }
def OptPowersSaid : Prop := optPowersRow.holds Try.pinned (OpenSpec.ofChange optPowersSpec)

/-- ITS FALSE NEIGHBOUR: 'it returns false'. Refute it at one input. -/
def optPowersWrong : ChangeSpec := { name := "optPowers", fn := fun _ => fun
  | [d1, d2, d3, d4, d5] => { results := [.lit (.bool false)], args := [d1, d2, d3, d4, d5] }
  | _ => none }
def OptPowersWrongFalsely : Prop := optPowersRow.holds Try.pinned (OpenSpec.ofChange optPowersWrong)

/- THE SECOND FORM. 'bulk': how many values and letters a reading holds, each counted each time it is reached (what is shared counts as often as it is met; a slice's spare places count too). A statement '..UptoSaid' is the law's where the arguments, and the package variables that the reading takes, are together of bulk at most 1048576: NARROWER than '..Said'. Prove '..Said' where nothing that the law and all that it calls make is longer than what came in: it says more and counts as full. Else prove '..UptoSaid'. A law counts once. -/
mutual
def uptoBulk {H : Type} : DataW H → Nat
  | .lit (.string bytes) => bytes.length + 1
  | .lit _ => 1
  | .nil => 1
  | .ptr d => uptoBulk d + 1
  | .slice elems spare => uptoBulkAll elems + uptoBulkAll spare + 1
  | .agg parts => uptoBulkAll parts + 1
  | .iface _ d => uptoBulk d + 1
  | .map entries => uptoBulkEntries entries + 1
  | .held _ => 1
def uptoBulkAll {H : Type} : List (DataW H) → Nat
  | [] => 0
  | d :: r => uptoBulk d + uptoBulkAll r
def uptoBulkEntries {H : Type} : List (Lit × DataW H) → Nat
  | [] => 0
  | x :: r => uptoBulkEntry x + uptoBulkEntries r
def uptoBulkEntry {H : Type} : Lit × DataW H → Nat
  | (.string bytes, d) => bytes.length + uptoBulk d + 1
  | (_, d) => uptoBulk d + 1
 end
def uptoSmall : (H : Type) → List (DataW H) → Bool := fun _ ds => decide (uptoBulkAll ds ≤ 1048576)
def OpenSpec.upto (s : _root_.Go.ChangeSpec) : _root_.Go.OpenSpec := { _root_.Go.OpenSpec.ofChange s with cond := some uptoSmall }

/-- 'anneallaw21.OptBegins', WHERE WHAT IT READS IS OF BULK AT MOST 1048576: true; the input reads as it did. -/
def optBeginsUptoRow : OpenClaim := { program := "ytfapjegkilljnaa", sum := "2686d16cc13a1fb779e1f0aa8f9b12e1462b2c4f4cc1686472907fe0bbe289d7", func := "anneal/anneallaw21.OptBegins", spec := "optBegins", unfollowed := true, recurses := true, apart := false, narrowed := true }
def OptBeginsUptoSaid : Prop := optBeginsUptoRow.holds Try.pinned (OpenSpec.upto optBeginsSpec)

/-- 'anneallaw21.OptStill', WHERE WHAT IT READS IS OF BULK AT MOST 1048576: true; the input reads as it did. -/
def optStillUptoRow : OpenClaim := { program := "ytfapjegkilljnaa", sum := "2686d16cc13a1fb779e1f0aa8f9b12e1462b2c4f4cc1686472907fe0bbe289d7", func := "anneal/anneallaw21.OptStill", spec := "optStill", unfollowed := true, recurses := true, apart := false, narrowed := true }
def OptStillUptoSaid : Prop := optStillUptoRow.holds Try.pinned (OpenSpec.upto optStillSpec)

/-- 'anneallaw21.OptPowers', WHERE WHAT IT READS IS OF BULK AT MOST 1048576: true; the input reads as it did. -/
def optPowersUptoRow : OpenClaim := { program := "ytfapjegkilljnaa", sum := "2686d16cc13a1fb779e1f0aa8f9b12e1462b2c4f4cc1686472907fe0bbe289d7", func := "anneal/anneallaw21.OptPowers", spec := "optPowers", unfollowed := true, recurses := true, apart := false, narrowed := true }
def OptPowersUptoSaid : Prop := optPowersUptoRow.holds Try.pinned (OpenSpec.upto optPowersSpec)

end Rows
end Go.Proofs.Ytfapjegkilljnaa
