/-
  No cell of these rows narrows 'for every input' (looked for: loops, veiled, ifaces, maps, wideKeys, modest, calm, conditions, laid).
  DERIVED. THE GIVEN ROWS OF THIS SEAT. 4 by the template 'for every input the law returns true; each argument reads behind the call as it read before'; 0 by the template 'total and deterministic' (their statements: YtabdokppkcgdlaaTotals.lean).
  GIVEN WITH THE SEED: the statements are not yours to turn. If you find one false, say at which input.
  Laid BY PROGRAM, IN A SANDBOX (cutbox-rows.mjs): the forced cells as the released guide's own fill.sh prints them over the translation d9082cdbd48f906e… (all of the seat's roots in one cut). By AI agents, Wed Nov 11 2026. No macro, syntax, notation, axiom, sorry.
-/
import Derived.Test.YtabdokppkcgdlaaChecked
import GoSem.Claim
import GoSem.ClaimJoined
import GoSem.ClaimMapViews
import Derived.JoinedTies
import Derived.KernelRfl
namespace Go.Proofs.Ytabdokppkcgdlaa
/- THE CELL 'sum', in the pinned program and in every row, IS THE sha256 OF THE DUMP (.gsa) THAT YtabdokppkcgdlaaProg.lean LOADS. Nothing in Lean hashes anything: it is a label: what it is worth is what the hold of that sum in a sandbox is worth. -/
noncomputable def Try.pinned : Pinned := { name := "ytabdokppkcgdlaa", sum := "d9082cdbd48f906ef7f4175361836c25b3e9760ebab0c2dc1e9a289fd3ce693f", checked := Try.checked }
namespace Rows
def none {H : Type} : Left H := { results := [], args := [] }

/-- 'catchmentlaw17.JoinSides': WHATEVER THE INPUT: true; the input reads as it did. -/
def joinSidesSpec : ChangeSpec := { name := "joinSides", fn := fun _ => fun
  | [d1, d2] => { results := [.lit (.bool true)], args := [d1, d2] }
  | _ => none }
def joinSidesRow : OpenClaim := { program := "ytabdokppkcgdlaa", sum := "d9082cdbd48f906ef7f4175361836c25b3e9760ebab0c2dc1e9a289fd3ce693f", func := "catchment/catchmentlaw17.JoinSides", spec := "joinSides", inPlace := ["internal/bytealg.abigen_runtime_cmpstring"], unfollowed := true, recurses := true, apart := false }
def JoinSidesSaid : Prop := joinSidesRow.holds Try.pinned (OpenSpec.ofChange joinSidesSpec)

/-- ITS FALSE NEIGHBOUR: 'it returns false'. Refute it at one input. -/
def joinSidesWrong : ChangeSpec := { name := "joinSides", fn := fun _ => fun
  | [d1, d2] => { results := [.lit (.bool false)], args := [d1, d2] }
  | _ => none }
def JoinSidesWrongFalsely : Prop := joinSidesRow.holds Try.pinned (OpenSpec.ofChange joinSidesWrong)

/-- 'catchmentlaw17.JoinParts': WHATEVER THE INPUT: true; the input reads as it did. -/
def joinPartsSpec : ChangeSpec := { name := "joinParts", fn := fun _ => fun
  | [d1, d2, d3] => { results := [.lit (.bool true)], args := [d1, d2, d3] }
  | _ => none }
def joinPartsRow : OpenClaim := { program := "ytabdokppkcgdlaa", sum := "d9082cdbd48f906ef7f4175361836c25b3e9760ebab0c2dc1e9a289fd3ce693f", func := "catchment/catchmentlaw17.JoinParts", spec := "joinParts", inPlace := ["internal/bytealg.abigen_runtime_cmpstring"], unfollowed := true, recurses := true, apart := false }
def JoinPartsSaid : Prop := joinPartsRow.holds Try.pinned (OpenSpec.ofChange joinPartsSpec)

/-- ITS FALSE NEIGHBOUR: 'it returns false'. Refute it at one input. -/
def joinPartsWrong : ChangeSpec := { name := "joinParts", fn := fun _ => fun
  | [d1, d2, d3] => { results := [.lit (.bool false)], args := [d1, d2, d3] }
  | _ => none }
def JoinPartsWrongFalsely : Prop := joinPartsRow.holds Try.pinned (OpenSpec.ofChange joinPartsWrong)

/-- 'catchmentlaw17.JoinNone': WHATEVER THE INPUT: true; the input reads as it did. -/
def joinNoneSpec : ChangeSpec := { name := "joinNone", fn := fun _ => fun
  | [d] => { results := [.lit (.bool true)], args := [d] }
  | _ => none }
def joinNoneRow : OpenClaim := { program := "ytabdokppkcgdlaa", sum := "d9082cdbd48f906ef7f4175361836c25b3e9760ebab0c2dc1e9a289fd3ce693f", func := "catchment/catchmentlaw17.JoinNone", spec := "joinNone", inPlace := ["internal/bytealg.abigen_runtime_cmpstring"], unfollowed := true, recurses := true, apart := false }
def JoinNoneSaid : Prop := joinNoneRow.holds Try.pinned (OpenSpec.ofChange joinNoneSpec)

/-- ITS FALSE NEIGHBOUR: 'it returns false'. Refute it at one input. -/
def joinNoneWrong : ChangeSpec := { name := "joinNone", fn := fun _ => fun
  | [d] => { results := [.lit (.bool false)], args := [d] }
  | _ => none }
def JoinNoneWrongFalsely : Prop := joinNoneRow.holds Try.pinned (OpenSpec.ofChange joinNoneWrong)

/-- 'catchmentlaw17.JoinRows': WHATEVER THE INPUT: true; the input reads as it did. -/
def joinRowsSpec : ChangeSpec := { name := "joinRows", fn := fun _ => fun
  | [d1, d2] => { results := [.lit (.bool true)], args := [d1, d2] }
  | _ => none }
def joinRowsRow : OpenClaim := { program := "ytabdokppkcgdlaa", sum := "d9082cdbd48f906ef7f4175361836c25b3e9760ebab0c2dc1e9a289fd3ce693f", func := "catchment/catchmentlaw17.JoinRows", spec := "joinRows", inPlace := ["internal/bytealg.abigen_runtime_cmpstring"], unfollowed := true, recurses := true, apart := false }
def JoinRowsSaid : Prop := joinRowsRow.holds Try.pinned (OpenSpec.ofChange joinRowsSpec)

/-- ITS FALSE NEIGHBOUR: 'it returns false'. Refute it at one input. -/
def joinRowsWrong : ChangeSpec := { name := "joinRows", fn := fun _ => fun
  | [d1, d2] => { results := [.lit (.bool false)], args := [d1, d2] }
  | _ => none }
def JoinRowsWrongFalsely : Prop := joinRowsRow.holds Try.pinned (OpenSpec.ofChange joinRowsWrong)

/- THE SECOND FORM. 'bulk': how many values and letters a reading holds, each counted each time it is reached (what is shared counts as often as it is met; a slice's spare places count too). A statement '..UptoSaid' is the law's where the arguments, and the package variables that the reading takes, are together of bulk at most 1048576: NARROWER than '..Said'. Prove '..Said' where nothing that the law and all that it calls make is longer than what came in: it says more and counts as full. Else prove '..UptoSaid'. A law counts once. -/
mutual
def uptoBulk {H : Type} : DataW H → Nat
  | .lit (.string bytes) => bytes.length + 1
  | .lit _ => 1
  | .nil => 1
  | .ptr d => uptoBulk d + 1
  | .slice elems spare => uptoBulkAll elems + uptoBulkAll spare + 1
  | .agg parts => uptoBulkAll parts + 1
  | .iface _ d => uptoBulk d + 1
  | .map entries => uptoBulkEntries entries + 1
  | .held _ => 1
def uptoBulkAll {H : Type} : List (DataW H) → Nat
  | [] => 0
  | d :: r => uptoBulk d + uptoBulkAll r
def uptoBulkEntries {H : Type} : List (Lit × DataW H) → Nat
  | [] => 0
  | x :: r => uptoBulkEntry x + uptoBulkEntries r
def uptoBulkEntry {H : Type} : Lit × DataW H → Nat
  | (.string bytes, d) => bytes.length + uptoBulk d + 1
  | (_, d) => uptoBulk d + 1
 end
def uptoSmall : (H : Type) → List (DataW H) → Bool := fun _ ds => decide (uptoBulkAll ds ≤ 1048576)
def OpenSpec.upto (s : _root_.Go.ChangeSpec) : _root_.Go.OpenSpec := { _root_.Go.OpenSpec.ofChange s with cond := some uptoSmall }

/-- 'catchmentlaw17.JoinSides', WHERE WHAT IT READS IS OF BULK AT MOST 1048576: true; the input reads as it did. -/
def joinSidesUptoRow : OpenClaim := { program := "ytabdokppkcgdlaa", sum := "d9082cdbd48f906ef7f4175361836c25b3e9760ebab0c2dc1e9a289fd3ce693f", func := "catchment/catchmentlaw17.JoinSides", spec := "joinSides", inPlace := ["internal/bytealg.abigen_runtime_cmpstring"], unfollowed := true, recurses := true, apart := false, narrowed := true }
def JoinSidesUptoSaid : Prop := joinSidesUptoRow.holds Try.pinned (OpenSpec.upto joinSidesSpec)

/-- 'catchmentlaw17.JoinParts', WHERE WHAT IT READS IS OF BULK AT MOST 1048576: true; the input reads as it did. -/
def joinPartsUptoRow : OpenClaim := { program := "ytabdokppkcgdlaa", sum := "d9082cdbd48f906ef7f4175361836c25b3e9760ebab0c2dc1e9a289fd3ce693f", func := "catchment/catchmentlaw17.JoinParts", spec := "joinParts", inPlace := ["internal/bytealg.abigen_runtime_cmpstring"], unfollowed := true, recurses := true, apart := false, narrowed := true }
def JoinPartsUptoSaid : Prop := joinPartsUptoRow.holds Try.pinned (OpenSpec.upto joinPartsSpec)

/-- 'catchmentlaw17.JoinNone', WHERE WHAT IT READS IS OF BULK AT MOST 1048576: true; the input reads as it did. -/
def joinNoneUptoRow : OpenClaim := { program := "ytabdokppkcgdlaa", sum := "d9082cdbd48f906ef7f4175361836c25b3e9760ebab0c2dc1e9a289fd3ce693f", func := "catchment/catchmentlaw17.JoinNone", spec := "joinNone", inPlace := ["internal/bytealg.abigen_runtime_cmpstring"], unfollowed := true, recurses := true, apart := false, narrowed := true }
def JoinNoneUptoSaid : Prop := joinNoneUptoRow.holds Try.pinned (OpenSpec.upto joinNoneSpec)

/-- 'catchmentlaw17.JoinRows', WHERE WHAT IT READS IS OF BULK AT MOST 1048576: true; the input reads as it did. -/
def joinRowsUptoRow : OpenClaim := { program := "ytabdokppkcgdlaa", sum := "d9082cdbd48f906ef7f4175361836c25b3e9760ebab0c2dc1e9a289fd3ce693f", func := "catchment/catchmentlaw17.JoinRows", spec := "joinRows", inPlace := ["internal/bytealg.abigen_runtime_cmpstring"], unfollowed := true, recurses := true, apart := false, narrowed := true }
def JoinRowsUptoSaid : Prop := joinRowsUptoRow.holds Try.pinned (OpenSpec.upto joinRowsSpec)

end Rows
end Go.Proofs.Ytabdokppkcgdlaa
