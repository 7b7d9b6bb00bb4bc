/-
  No cell of these rows narrows 'for every input' (looked for: loops, veiled, ifaces, maps, wideKeys, modest, calm, conditions, laid).
  DERIVED. THE GIVEN ROWS OF THIS SEAT. 6 by the template 'for every input the law returns true; each argument reads behind the call as it read before'; 0 by the template 'total and deterministic' (their statements: YtjklfkiaebipnaaTotals.lean).
  GIVEN WITH THE SEED: the statements are not yours to turn. If you find one false, say at which input.
  Laid BY PROGRAM, IN A SANDBOX (cutbox-rows.mjs): the forced cells as the released guide's own fill.sh prints them over the translation 5dd7844ce4a09f86… (all of the seat's roots in one cut). By AI agents, Wed Nov 11 2026. No macro, syntax, notation, axiom, sorry.
-/
import Derived.Test.YtjklfkiaebipnaaChecked
import GoSem.Claim
import GoSem.ClaimJoined
import GoSem.ClaimMapViews
import Derived.JoinedTies
import Derived.KernelRfl
namespace Go.Proofs.Ytjklfkiaebipnaa
/- THE CELL 'sum', in the pinned program and in every row, IS THE sha256 OF THE DUMP (.gsa) THAT YtjklfkiaebipnaaProg.lean LOADS. Nothing in Lean hashes anything: it is a label: what it is worth is what the hold of that sum in a sandbox is worth. -/
noncomputable def Try.pinned : Pinned := { name := "ytjklfkiaebipnaa", sum := "5dd7844ce4a09f862cdeef4bfae4857d38f3282e952d59ee60890bf01317f7e7", checked := Try.checked }
namespace Rows
def none {H : Type} : Left H := { results := [], args := [] }

/-- 'catchmentlaw15.PredHolds': WHATEVER THE INPUT: true; the input reads as it did. -/
def predHoldsSpec : ChangeSpec := { name := "predHolds", fn := fun _ => fun
  | [d1, d2, d3] => { results := [.lit (.bool true)], args := [d1, d2, d3] }
  | _ => none }
def predHoldsRow : OpenClaim := { program := "ytjklfkiaebipnaa", sum := "5dd7844ce4a09f862cdeef4bfae4857d38f3282e952d59ee60890bf01317f7e7", func := "catchment/catchmentlaw15.PredHolds", spec := "predHolds", inPlace := ["internal/bytealg.abigen_runtime_cmpstring", "internal/bytealg.IndexByteString", "internal/bytealg.IndexString"], unfollowed := true, recurses := true, named := ["internal/bytealg.MaxLen"], apart := false }
def PredHoldsSaid : Prop := predHoldsRow.holds Try.pinned (OpenSpec.ofChange predHoldsSpec)

/-- ITS FALSE NEIGHBOUR: 'it returns false'. Refute it at one input. -/
def predHoldsWrong : ChangeSpec := { name := "predHolds", fn := fun _ => fun
  | [d1, d2, d3] => { results := [.lit (.bool false)], args := [d1, d2, d3] }
  | _ => none }
def PredHoldsWrongFalsely : Prop := predHoldsRow.holds Try.pinned (OpenSpec.ofChange predHoldsWrong)

/-- 'catchmentlaw15.PredWhere': WHATEVER THE INPUT: true; the input reads as it did. -/
def predWhereSpec : ChangeSpec := { name := "predWhere", fn := fun _ => fun
  | [d1, d2, d3] => { results := [.lit (.bool true)], args := [d1, d2, d3] }
  | _ => none }
def predWhereRow : OpenClaim := { program := "ytjklfkiaebipnaa", sum := "5dd7844ce4a09f862cdeef4bfae4857d38f3282e952d59ee60890bf01317f7e7", func := "catchment/catchmentlaw15.PredWhere", spec := "predWhere", inPlace := ["internal/bytealg.abigen_runtime_cmpstring", "internal/bytealg.IndexByteString", "internal/bytealg.IndexString"], unfollowed := true, recurses := true, named := ["internal/bytealg.MaxLen"], apart := false }
def PredWhereSaid : Prop := predWhereRow.holds Try.pinned (OpenSpec.ofChange predWhereSpec)

/-- ITS FALSE NEIGHBOUR: 'it returns false'. Refute it at one input. -/
def predWhereWrong : ChangeSpec := { name := "predWhere", fn := fun _ => fun
  | [d1, d2, d3] => { results := [.lit (.bool false)], args := [d1, d2, d3] }
  | _ => none }
def PredWhereWrongFalsely : Prop := predWhereRow.holds Try.pinned (OpenSpec.ofChange predWhereWrong)

/-- 'catchmentlaw15.PredNot': WHATEVER THE INPUT: true; the input reads as it did. -/
def predNotSpec : ChangeSpec := { name := "predNot", fn := fun _ => fun
  | [d1, d2] => { results := [.lit (.bool true)], args := [d1, d2] }
  | _ => none }
def predNotRow : OpenClaim := { program := "ytjklfkiaebipnaa", sum := "5dd7844ce4a09f862cdeef4bfae4857d38f3282e952d59ee60890bf01317f7e7", func := "catchment/catchmentlaw15.PredNot", spec := "predNot", inPlace := ["internal/bytealg.abigen_runtime_cmpstring", "internal/bytealg.IndexByteString", "internal/bytealg.IndexString"], unfollowed := true, recurses := true, named := ["internal/bytealg.MaxLen"], apart := false }
def PredNotSaid : Prop := predNotRow.holds Try.pinned (OpenSpec.ofChange predNotSpec)

/-- ITS FALSE NEIGHBOUR: 'it returns false'. Refute it at one input. -/
def predNotWrong : ChangeSpec := { name := "predNot", fn := fun _ => fun
  | [d1, d2] => { results := [.lit (.bool false)], args := [d1, d2] }
  | _ => none }
def PredNotWrongFalsely : Prop := predNotRow.holds Try.pinned (OpenSpec.ofChange predNotWrong)

/-- 'catchmentlaw15.PredMorgan': WHATEVER THE INPUT: true; the input reads as it did. -/
def predMorganSpec : ChangeSpec := { name := "predMorgan", fn := fun _ => fun
  | [d1, d2, d3] => { results := [.lit (.bool true)], args := [d1, d2, d3] }
  | _ => none }
def predMorganRow : OpenClaim := { program := "ytjklfkiaebipnaa", sum := "5dd7844ce4a09f862cdeef4bfae4857d38f3282e952d59ee60890bf01317f7e7", func := "catchment/catchmentlaw15.PredMorgan", spec := "predMorgan", inPlace := ["internal/bytealg.abigen_runtime_cmpstring", "internal/bytealg.IndexByteString", "internal/bytealg.IndexString"], unfollowed := true, recurses := true, named := ["internal/bytealg.MaxLen"], apart := false }
def PredMorganSaid : Prop := predMorganRow.holds Try.pinned (OpenSpec.ofChange predMorganSpec)

/-- ITS FALSE NEIGHBOUR: 'it returns false'. Refute it at one input. -/
def predMorganWrong : ChangeSpec := { name := "predMorgan", fn := fun _ => fun
  | [d1, d2, d3] => { results := [.lit (.bool false)], args := [d1, d2, d3] }
  | _ => none }
def PredMorganWrongFalsely : Prop := predMorganRow.holds Try.pinned (OpenSpec.ofChange predMorganWrong)

/-- 'catchmentlaw15.PredSides': WHATEVER THE INPUT: true; the input reads as it did. -/
def predSidesSpec : ChangeSpec := { name := "predSides", fn := fun _ => fun
  | [d1, d2, d3] => { results := [.lit (.bool true)], args := [d1, d2, d3] }
  | _ => none }
def predSidesRow : OpenClaim := { program := "ytjklfkiaebipnaa", sum := "5dd7844ce4a09f862cdeef4bfae4857d38f3282e952d59ee60890bf01317f7e7", func := "catchment/catchmentlaw15.PredSides", spec := "predSides", inPlace := ["internal/bytealg.abigen_runtime_cmpstring", "internal/bytealg.IndexByteString", "internal/bytealg.IndexString"], unfollowed := true, recurses := true, named := ["internal/bytealg.MaxLen"], apart := false }
def PredSidesSaid : Prop := predSidesRow.holds Try.pinned (OpenSpec.ofChange predSidesSpec)

/-- ITS FALSE NEIGHBOUR: 'it returns false'. Refute it at one input. -/
def predSidesWrong : ChangeSpec := { name := "predSides", fn := fun _ => fun
  | [d1, d2, d3] => { results := [.lit (.bool false)], args := [d1, d2, d3] }
  | _ => none }
def PredSidesWrongFalsely : Prop := predSidesRow.holds Try.pinned (OpenSpec.ofChange predSidesWrong)

/-- 'catchmentlaw15.PredEquals': WHATEVER THE INPUT: true; the input reads as it did. -/
def predEqualsSpec : ChangeSpec := { name := "predEquals", fn := fun _ => fun
  | [d1, d2, d3] => { results := [.lit (.bool true)], args := [d1, d2, d3] }
  | _ => none }
def predEqualsRow : OpenClaim := { program := "ytjklfkiaebipnaa", sum := "5dd7844ce4a09f862cdeef4bfae4857d38f3282e952d59ee60890bf01317f7e7", func := "catchment/catchmentlaw15.PredEquals", spec := "predEquals", inPlace := ["internal/bytealg.abigen_runtime_cmpstring", "internal/bytealg.IndexByteString", "internal/bytealg.IndexString"], unfollowed := true, recurses := true, named := ["internal/bytealg.MaxLen"], apart := false }
def PredEqualsSaid : Prop := predEqualsRow.holds Try.pinned (OpenSpec.ofChange predEqualsSpec)

/-- ITS FALSE NEIGHBOUR: 'it returns false'. Refute it at one input. -/
def predEqualsWrong : ChangeSpec := { name := "predEquals", fn := fun _ => fun
  | [d1, d2, d3] => { results := [.lit (.bool false)], args := [d1, d2, d3] }
  | _ => none }
def PredEqualsWrongFalsely : Prop := predEqualsRow.holds Try.pinned (OpenSpec.ofChange predEqualsWrong)

/- THE SECOND FORM. 'bulk': how many values and letters a reading holds, each counted each time it is reached (what is shared counts as often as it is met; a slice's spare places count too). A statement '..UptoSaid' is the law's where the arguments, and the package variables that the reading takes, are together of bulk at most 1048576: NARROWER than '..Said'. Prove '..Said' where nothing that the law and all that it calls make is longer than what came in: it says more and counts as full. Else prove '..UptoSaid'. A law counts once. -/
mutual
def uptoBulk {H : Type} : DataW H → Nat
  | .lit (.string bytes) => bytes.length + 1
  | .lit _ => 1
  | .nil => 1
  | .ptr d => uptoBulk d + 1
  | .slice elems spare => uptoBulkAll elems + uptoBulkAll spare + 1
  | .agg parts => uptoBulkAll parts + 1
  | .iface _ d => uptoBulk d + 1
  | .map entries => uptoBulkEntries entries + 1
  | .held _ => 1
def uptoBulkAll {H : Type} : List (DataW H) → Nat
  | [] => 0
  | d :: r => uptoBulk d + uptoBulkAll r
def uptoBulkEntries {H : Type} : List (Lit × DataW H) → Nat
  | [] => 0
  | x :: r => uptoBulkEntry x + uptoBulkEntries r
def uptoBulkEntry {H : Type} : Lit × DataW H → Nat
  | (.string bytes, d) => bytes.length + uptoBulk d + 1
  | (_, d) => uptoBulk d + 1
 end
def uptoSmall : (H : Type) → List (DataW H) → Bool := fun _ ds => decide (uptoBulkAll ds ≤ 1048576)
def OpenSpec.upto (s : _root_.Go.ChangeSpec) : _root_.Go.OpenSpec := { _root_.Go.OpenSpec.ofChange s with cond := some uptoSmall }

/-- 'catchmentlaw15.PredHolds', WHERE WHAT IT READS IS OF BULK AT MOST 1048576: true; the input reads as it did. -/
def predHoldsUptoRow : OpenClaim := { program := "ytjklfkiaebipnaa", sum := "5dd7844ce4a09f862cdeef4bfae4857d38f3282e952d59ee60890bf01317f7e7", func := "catchment/catchmentlaw15.PredHolds", spec := "predHolds", inPlace := ["internal/bytealg.abigen_runtime_cmpstring", "internal/bytealg.IndexByteString", "internal/bytealg.IndexString"], unfollowed := true, recurses := true, named := ["internal/bytealg.MaxLen"], apart := false, narrowed := true }
def PredHoldsUptoSaid : Prop := predHoldsUptoRow.holds Try.pinned (OpenSpec.upto predHoldsSpec)

/-- 'catchmentlaw15.PredWhere', WHERE WHAT IT READS IS OF BULK AT MOST 1048576: true; the input reads as it did. -/
def predWhereUptoRow : OpenClaim := { program := "ytjklfkiaebipnaa", sum := "5dd7844ce4a09f862cdeef4bfae4857d38f3282e952d59ee60890bf01317f7e7", func := "catchment/catchmentlaw15.PredWhere", spec := "predWhere", inPlace := ["internal/bytealg.abigen_runtime_cmpstring", "internal/bytealg.IndexByteString", "internal/bytealg.IndexString"], unfollowed := true, recurses := true, named := ["internal/bytealg.MaxLen"], apart := false, narrowed := true }
def PredWhereUptoSaid : Prop := predWhereUptoRow.holds Try.pinned (OpenSpec.upto predWhereSpec)

/-- 'catchmentlaw15.PredNot', WHERE WHAT IT READS IS OF BULK AT MOST 1048576: true; the input reads as it did. -/
def predNotUptoRow : OpenClaim := { program := "ytjklfkiaebipnaa", sum := "5dd7844ce4a09f862cdeef4bfae4857d38f3282e952d59ee60890bf01317f7e7", func := "catchment/catchmentlaw15.PredNot", spec := "predNot", inPlace := ["internal/bytealg.abigen_runtime_cmpstring", "internal/bytealg.IndexByteString", "internal/bytealg.IndexString"], unfollowed := true, recurses := true, named := ["internal/bytealg.MaxLen"], apart := false, narrowed := true }
def PredNotUptoSaid : Prop := predNotUptoRow.holds Try.pinned (OpenSpec.upto predNotSpec)

/-- 'catchmentlaw15.PredMorgan', WHERE WHAT IT READS IS OF BULK AT MOST 1048576: true; the input reads as it did. -/
def predMorganUptoRow : OpenClaim := { program := "ytjklfkiaebipnaa", sum := "5dd7844ce4a09f862cdeef4bfae4857d38f3282e952d59ee60890bf01317f7e7", func := "catchment/catchmentlaw15.PredMorgan", spec := "predMorgan", inPlace := ["internal/bytealg.abigen_runtime_cmpstring", "internal/bytealg.IndexByteString", "internal/bytealg.IndexString"], unfollowed := true, recurses := true, named := ["internal/bytealg.MaxLen"], apart := false, narrowed := true }
def PredMorganUptoSaid : Prop := predMorganUptoRow.holds Try.pinned (OpenSpec.upto predMorganSpec)

/-- 'catchmentlaw15.PredSides', WHERE WHAT IT READS IS OF BULK AT MOST 1048576: true; the input reads as it did. -/
def predSidesUptoRow : OpenClaim := { program := "ytjklfkiaebipnaa", sum := "5dd7844ce4a09f862cdeef4bfae4857d38f3282e952d59ee60890bf01317f7e7", func := "catchment/catchmentlaw15.PredSides", spec := "predSides", inPlace := ["internal/bytealg.abigen_runtime_cmpstring", "internal/bytealg.IndexByteString", "internal/bytealg.IndexString"], unfollowed := true, recurses := true, named := ["internal/bytealg.MaxLen"], apart := false, narrowed := true }
def PredSidesUptoSaid : Prop := predSidesUptoRow.holds Try.pinned (OpenSpec.upto predSidesSpec)

/-- 'catchmentlaw15.PredEquals', WHERE WHAT IT READS IS OF BULK AT MOST 1048576: true; the input reads as it did. -/
def predEqualsUptoRow : OpenClaim := { program := "ytjklfkiaebipnaa", sum := "5dd7844ce4a09f862cdeef4bfae4857d38f3282e952d59ee60890bf01317f7e7", func := "catchment/catchmentlaw15.PredEquals", spec := "predEquals", inPlace := ["internal/bytealg.abigen_runtime_cmpstring", "internal/bytealg.IndexByteString", "internal/bytealg.IndexString"], unfollowed := true, recurses := true, named := ["internal/bytealg.MaxLen"], apart := false, narrowed := true }
def PredEqualsUptoSaid : Prop := predEqualsUptoRow.holds Try.pinned (OpenSpec.upto predEqualsSpec)

end Rows
end Go.Proofs.Ytjklfkiaebipnaa
