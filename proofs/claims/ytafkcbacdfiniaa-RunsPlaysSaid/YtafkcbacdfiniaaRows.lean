/-
  No cell of these rows narrows 'for every input' (looked for: loops, veiled, ifaces, maps, wideKeys, modest, calm, conditions, laid).
  DERIVED. THE GIVEN ROWS OF THIS SEAT. 3 by the template 'for every input the law returns true; each argument reads behind the call as it read before'; 0 by the template 'total and deterministic' (their statements: YtafkcbacdfiniaaTotals.lean).
  GIVEN WITH THE SEED: the statements are not yours to turn. If you find one false, say at which input.
  Laid BY PROGRAM, IN A SANDBOX (cutbox-rows.mjs): the forced cells as the released guide's own fill.sh prints them over the translation 6db99cfa998298fd… (all of the seat's roots in one cut). By AI agents, Wed Nov 11 2026. No macro, syntax, notation, axiom, sorry.
-/
import Derived.Test.YtafkcbacdfiniaaChecked
import GoSem.Claim
import GoSem.ClaimJoined
import GoSem.ClaimMapViews
import Derived.JoinedTies
import Derived.KernelRfl
namespace Go.Proofs.Ytafkcbacdfiniaa
/- THE CELL 'sum', in the pinned program and in every row, IS THE sha256 OF THE DUMP (.gsa) THAT YtafkcbacdfiniaaProg.lean LOADS. Nothing in Lean hashes anything: it is a label: what it is worth is what the hold of that sum in a sandbox is worth. -/
noncomputable def Try.pinned : Pinned := { name := "ytafkcbacdfiniaa", sum := "6db99cfa998298fda2764ae060dbbaeaf5a12c8631134385d077e4784b012522", checked := Try.checked }
namespace Rows
def none {H : Type} : Left H := { results := [], args := [] }

/-- 'catchmentlaw07.RunsOrder': WHATEVER THE INPUT: true; the input reads as it did. -/
def runsOrderSpec : ChangeSpec := { name := "runsOrder", fn := fun _ => fun
  | [d1, d2] => { results := [.lit (.bool true)], args := [d1, d2] }
  | _ => none }
def runsOrderRow : OpenClaim := { program := "ytafkcbacdfiniaa", sum := "6db99cfa998298fda2764ae060dbbaeaf5a12c8631134385d077e4784b012522", func := "catchment/catchmentlaw07.RunsOrder", spec := "runsOrder", inPlace := ["slices.overlaps[catchment/api.Sample]"], unfollowed := true, recurses := true, apart := false }
def RunsOrderSaid : Prop := runsOrderRow.holds Try.pinned (OpenSpec.ofChange runsOrderSpec)

/-- ITS FALSE NEIGHBOUR: 'it returns false'. Refute it at one input. -/
def runsOrderWrong : ChangeSpec := { name := "runsOrder", fn := fun _ => fun
  | [d1, d2] => { results := [.lit (.bool false)], args := [d1, d2] }
  | _ => none }
def RunsOrderWrongFalsely : Prop := runsOrderRow.holds Try.pinned (OpenSpec.ofChange runsOrderWrong)

/-- 'catchmentlaw07.RunsCuts': WHATEVER THE INPUT: true; the input reads as it did. -/
def runsCutsSpec : ChangeSpec := { name := "runsCuts", fn := fun _ => fun
  | [d1, d2, d3] => { results := [.lit (.bool true)], args := [d1, d2, d3] }
  | _ => none }
def runsCutsRow : OpenClaim := { program := "ytafkcbacdfiniaa", sum := "6db99cfa998298fda2764ae060dbbaeaf5a12c8631134385d077e4784b012522", func := "catchment/catchmentlaw07.RunsCuts", spec := "runsCuts", inPlace := ["slices.overlaps[catchment/api.Sample]"], unfollowed := true, recurses := true, apart := false }
def RunsCutsSaid : Prop := runsCutsRow.holds Try.pinned (OpenSpec.ofChange runsCutsSpec)

/-- ITS FALSE NEIGHBOUR: 'it returns false'. Refute it at one input. -/
def runsCutsWrong : ChangeSpec := { name := "runsCuts", fn := fun _ => fun
  | [d1, d2, d3] => { results := [.lit (.bool false)], args := [d1, d2, d3] }
  | _ => none }
def RunsCutsWrongFalsely : Prop := runsCutsRow.holds Try.pinned (OpenSpec.ofChange runsCutsWrong)

/-- 'catchmentlaw07.RunsPlays': WHATEVER THE INPUT: true; the input reads as it did. -/
def runsPlaysSpec : ChangeSpec := { name := "runsPlays", fn := fun _ => fun
  | [d1, d2, d3] => { results := [.lit (.bool true)], args := [d1, d2, d3] }
  | _ => none }
def runsPlaysRow : OpenClaim := { program := "ytafkcbacdfiniaa", sum := "6db99cfa998298fda2764ae060dbbaeaf5a12c8631134385d077e4784b012522", func := "catchment/catchmentlaw07.RunsPlays", spec := "runsPlays", inPlace := ["slices.overlaps[catchment/api.Sample]"], unfollowed := true, recurses := true, apart := false }
def RunsPlaysSaid : Prop := runsPlaysRow.holds Try.pinned (OpenSpec.ofChange runsPlaysSpec)

/-- ITS FALSE NEIGHBOUR: 'it returns false'. Refute it at one input. -/
def runsPlaysWrong : ChangeSpec := { name := "runsPlays", fn := fun _ => fun
  | [d1, d2, d3] => { results := [.lit (.bool false)], args := [d1, d2, d3] }
  | _ => none }
def RunsPlaysWrongFalsely : Prop := runsPlaysRow.holds Try.pinned (OpenSpec.ofChange runsPlaysWrong)

/- THE SECOND FORM. 'bulk': how many values and letters a reading holds, each counted each time it is reached (what is shared counts as often as it is met; a slice's spare places count too). A statement '..UptoSaid' is the law's where the arguments, and the package variables that the reading takes, are together of bulk at most 1048576: NARROWER than '..Said'. Prove '..Said' where nothing that the law and all that it calls make is longer than what came in: it says more and counts as full. Else prove '..UptoSaid'. A law counts once. -/
mutual
def uptoBulk {H : Type} : DataW H → Nat
  | .lit (.string bytes) => bytes.length + 1
  | .lit _ => 1
  | .nil => 1
  | .ptr d => uptoBulk d + 1
  | .slice elems spare => uptoBulkAll elems + uptoBulkAll spare + 1
  | .agg parts => uptoBulkAll parts + 1
  | .iface _ d => uptoBulk d + 1
  | .map entries => uptoBulkEntries entries + 1
  | .held _ => 1
def uptoBulkAll {H : Type} : List (DataW H) → Nat
  | [] => 0
  | d :: r => uptoBulk d + uptoBulkAll r
def uptoBulkEntries {H : Type} : List (Lit × DataW H) → Nat
  | [] => 0
  | x :: r => uptoBulkEntry x + uptoBulkEntries r
def uptoBulkEntry {H : Type} : Lit × DataW H → Nat
  | (.string bytes, d) => bytes.length + uptoBulk d + 1
  | (_, d) => uptoBulk d + 1
 end
def uptoSmall : (H : Type) → List (DataW H) → Bool := fun _ ds => decide (uptoBulkAll ds ≤ 1048576)
def OpenSpec.upto (s : _root_.Go.ChangeSpec) : _root_.Go.OpenSpec := { _root_.Go.OpenSpec.ofChange s with cond := some uptoSmall }

/-- 'catchmentlaw07.RunsOrder', WHERE WHAT IT READS IS OF BULK AT MOST 1048576: true; the input reads as it did. -/
def runsOrderUptoRow : OpenClaim := { program := "ytafkcbacdfiniaa", sum := "6db99cfa998298fda2764ae060dbbaeaf5a12c8631134385d077e4784b012522", func := "catchment/catchmentlaw07.RunsOrder", spec := "runsOrder", inPlace := ["slices.overlaps[catchment/api.Sample]"], unfollowed := true, recurses := true, apart := false, narrowed := true }
def RunsOrderUptoSaid : Prop := runsOrderUptoRow.holds Try.pinned (OpenSpec.upto runsOrderSpec)

/-- 'catchmentlaw07.RunsCuts', WHERE WHAT IT READS IS OF BULK AT MOST 1048576: true; the input reads as it did. -/
def runsCutsUptoRow : OpenClaim := { program := "ytafkcbacdfiniaa", sum := "6db99cfa998298fda2764ae060dbbaeaf5a12c8631134385d077e4784b012522", func := "catchment/catchmentlaw07.RunsCuts", spec := "runsCuts", inPlace := ["slices.overlaps[catchment/api.Sample]"], unfollowed := true, recurses := true, apart := false, narrowed := true }
def RunsCutsUptoSaid : Prop := runsCutsUptoRow.holds Try.pinned (OpenSpec.upto runsCutsSpec)

/-- 'catchmentlaw07.RunsPlays', WHERE WHAT IT READS IS OF BULK AT MOST 1048576: true; the input reads as it did. -/
def runsPlaysUptoRow : OpenClaim := { program := "ytafkcbacdfiniaa", sum := "6db99cfa998298fda2764ae060dbbaeaf5a12c8631134385d077e4784b012522", func := "catchment/catchmentlaw07.RunsPlays", spec := "runsPlays", inPlace := ["slices.overlaps[catchment/api.Sample]"], unfollowed := true, recurses := true, apart := false, narrowed := true }
def RunsPlaysUptoSaid : Prop := runsPlaysUptoRow.holds Try.pinned (OpenSpec.upto runsPlaysSpec)

end Rows
end Go.Proofs.Ytafkcbacdfiniaa
