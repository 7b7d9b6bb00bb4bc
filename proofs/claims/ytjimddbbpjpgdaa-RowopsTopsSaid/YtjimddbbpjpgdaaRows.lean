/-
  No cell of these rows narrows 'for every input' (looked for: loops, veiled, ifaces, maps, wideKeys, modest, calm, conditions, laid).
  DERIVED. THE GIVEN ROWS OF THIS SEAT. 6 by the template 'for every input the law returns true; each argument reads behind the call as it read before'; 0 by the template 'total and deterministic' (their statements: YtjimddbbpjpgdaaTotals.lean).
  GIVEN WITH THE SEED: the statements are not yours to turn. If you find one false, say at which input.
  Laid BY PROGRAM, IN A SANDBOX (cutbox-rows.mjs): the forced cells as the released guide's own fill.sh prints them over the translation 17ce01621b47e1a0… (all of the seat's roots in one cut). By AI agents, Wed Nov 11 2026. No macro, syntax, notation, axiom, sorry.
-/
import Derived.Test.YtjimddbbpjpgdaaChecked
import GoSem.Claim
import GoSem.ClaimJoined
import GoSem.ClaimMapViews
import Derived.JoinedTies
import Derived.KernelRfl
namespace Go.Proofs.Ytjimddbbpjpgdaa
/- THE CELL 'sum', in the pinned program and in every row, IS THE sha256 OF THE DUMP (.gsa) THAT YtjimddbbpjpgdaaProg.lean LOADS. Nothing in Lean hashes anything: it is a label: what it is worth is what the hold of that sum in a sandbox is worth. -/
noncomputable def Try.pinned : Pinned := { name := "ytjimddbbpjpgdaa", sum := "17ce01621b47e1a018dbff35ed86045fe4af8bd82c347f9b86be98b713056145", checked := Try.checked }
namespace Rows
def none {H : Type} : Left H := { results := [], args := [] }

/-- 'catchmentlaw16.RowopsAligns': WHATEVER THE INPUT: true; the input reads as it did. -/
def rowopsAlignsSpec : ChangeSpec := { name := "rowopsAligns", fn := fun _ => fun
  | [d1, d2] => { results := [.lit (.bool true)], args := [d1, d2] }
  | _ => none }
def rowopsAlignsRow : OpenClaim := { program := "ytjimddbbpjpgdaa", sum := "17ce01621b47e1a018dbff35ed86045fe4af8bd82c347f9b86be98b713056145", func := "catchment/catchmentlaw16.RowopsAligns", spec := "rowopsAligns", inPlace := ["internal/bytealg.abigen_runtime_cmpstring"], unfollowed := true, recurses := true, apart := false }
def RowopsAlignsSaid : Prop := rowopsAlignsRow.holds Try.pinned (OpenSpec.ofChange rowopsAlignsSpec)

/-- ITS FALSE NEIGHBOUR: 'it returns false'. Refute it at one input. -/
def rowopsAlignsWrong : ChangeSpec := { name := "rowopsAligns", fn := fun _ => fun
  | [d1, d2] => { results := [.lit (.bool false)], args := [d1, d2] }
  | _ => none }
def RowopsAlignsWrongFalsely : Prop := rowopsAlignsRow.holds Try.pinned (OpenSpec.ofChange rowopsAlignsWrong)

/-- 'catchmentlaw16.RowopsTops': WHATEVER THE INPUT: true; the input reads as it did. -/
def rowopsTopsSpec : ChangeSpec := { name := "rowopsTops", fn := fun _ => fun
  | [d1, d2, d3] => { results := [.lit (.bool true)], args := [d1, d2, d3] }
  | _ => none }
def rowopsTopsRow : OpenClaim := { program := "ytjimddbbpjpgdaa", sum := "17ce01621b47e1a018dbff35ed86045fe4af8bd82c347f9b86be98b713056145", func := "catchment/catchmentlaw16.RowopsTops", spec := "rowopsTops", inPlace := ["internal/bytealg.abigen_runtime_cmpstring"], unfollowed := true, recurses := true, apart := false }
def RowopsTopsSaid : Prop := rowopsTopsRow.holds Try.pinned (OpenSpec.ofChange rowopsTopsSpec)

/-- ITS FALSE NEIGHBOUR: 'it returns false'. Refute it at one input. -/
def rowopsTopsWrong : ChangeSpec := { name := "rowopsTops", fn := fun _ => fun
  | [d1, d2, d3] => { results := [.lit (.bool false)], args := [d1, d2, d3] }
  | _ => none }
def RowopsTopsWrongFalsely : Prop := rowopsTopsRow.holds Try.pinned (OpenSpec.ofChange rowopsTopsWrong)

/-- 'catchmentlaw16.RowopsParts': WHATEVER THE INPUT: true; the input reads as it did. -/
def rowopsPartsSpec : ChangeSpec := { name := "rowopsParts", fn := fun _ => fun
  | [d1, d2, d3] => { results := [.lit (.bool true)], args := [d1, d2, d3] }
  | _ => none }
def rowopsPartsRow : OpenClaim := { program := "ytjimddbbpjpgdaa", sum := "17ce01621b47e1a018dbff35ed86045fe4af8bd82c347f9b86be98b713056145", func := "catchment/catchmentlaw16.RowopsParts", spec := "rowopsParts", inPlace := ["internal/bytealg.abigen_runtime_cmpstring"], unfollowed := true, recurses := true, apart := false }
def RowopsPartsSaid : Prop := rowopsPartsRow.holds Try.pinned (OpenSpec.ofChange rowopsPartsSpec)

/-- ITS FALSE NEIGHBOUR: 'it returns false'. Refute it at one input. -/
def rowopsPartsWrong : ChangeSpec := { name := "rowopsParts", fn := fun _ => fun
  | [d1, d2, d3] => { results := [.lit (.bool false)], args := [d1, d2, d3] }
  | _ => none }
def RowopsPartsWrongFalsely : Prop := rowopsPartsRow.holds Try.pinned (OpenSpec.ofChange rowopsPartsWrong)

/-- 'catchmentlaw16.RowopsWhole': WHATEVER THE INPUT: true; the input reads as it did. -/
def rowopsWholeSpec : ChangeSpec := { name := "rowopsWhole", fn := fun _ => fun
  | [d1, d2, d3] => { results := [.lit (.bool true)], args := [d1, d2, d3] }
  | _ => none }
def rowopsWholeRow : OpenClaim := { program := "ytjimddbbpjpgdaa", sum := "17ce01621b47e1a018dbff35ed86045fe4af8bd82c347f9b86be98b713056145", func := "catchment/catchmentlaw16.RowopsWhole", spec := "rowopsWhole", inPlace := ["internal/bytealg.abigen_runtime_cmpstring"], unfollowed := true, recurses := true, apart := false }
def RowopsWholeSaid : Prop := rowopsWholeRow.holds Try.pinned (OpenSpec.ofChange rowopsWholeSpec)

/-- ITS FALSE NEIGHBOUR: 'it returns false'. Refute it at one input. -/
def rowopsWholeWrong : ChangeSpec := { name := "rowopsWhole", fn := fun _ => fun
  | [d1, d2, d3] => { results := [.lit (.bool false)], args := [d1, d2, d3] }
  | _ => none }
def RowopsWholeWrongFalsely : Prop := rowopsWholeRow.holds Try.pinned (OpenSpec.ofChange rowopsWholeWrong)

/-- 'catchmentlaw16.RowopsWidths': WHATEVER THE INPUT: true; the input reads as it did. -/
def rowopsWidthsSpec : ChangeSpec := { name := "rowopsWidths", fn := fun _ => fun
  | [d1, d2] => { results := [.lit (.bool true)], args := [d1, d2] }
  | _ => none }
def rowopsWidthsRow : OpenClaim := { program := "ytjimddbbpjpgdaa", sum := "17ce01621b47e1a018dbff35ed86045fe4af8bd82c347f9b86be98b713056145", func := "catchment/catchmentlaw16.RowopsWidths", spec := "rowopsWidths", inPlace := ["internal/bytealg.abigen_runtime_cmpstring"], unfollowed := true, recurses := true, apart := false }
def RowopsWidthsSaid : Prop := rowopsWidthsRow.holds Try.pinned (OpenSpec.ofChange rowopsWidthsSpec)

/-- ITS FALSE NEIGHBOUR: 'it returns false'. Refute it at one input. -/
def rowopsWidthsWrong : ChangeSpec := { name := "rowopsWidths", fn := fun _ => fun
  | [d1, d2] => { results := [.lit (.bool false)], args := [d1, d2] }
  | _ => none }
def RowopsWidthsWrongFalsely : Prop := rowopsWidthsRow.holds Try.pinned (OpenSpec.ofChange rowopsWidthsWrong)

/-- 'catchmentlaw16.RowopsFilters': WHATEVER THE INPUT: true; the input reads as it did. -/
def rowopsFiltersSpec : ChangeSpec := { name := "rowopsFilters", fn := fun _ => fun
  | [d1, d2, d3] => { results := [.lit (.bool true)], args := [d1, d2, d3] }
  | _ => none }
def rowopsFiltersRow : OpenClaim := { program := "ytjimddbbpjpgdaa", sum := "17ce01621b47e1a018dbff35ed86045fe4af8bd82c347f9b86be98b713056145", func := "catchment/catchmentlaw16.RowopsFilters", spec := "rowopsFilters", inPlace := ["internal/bytealg.abigen_runtime_cmpstring", "internal/bytealg.IndexByteString", "internal/bytealg.IndexString"], unfollowed := true, recurses := true, named := ["internal/bytealg.MaxLen"], apart := false }
def RowopsFiltersSaid : Prop := rowopsFiltersRow.holds Try.pinned (OpenSpec.ofChange rowopsFiltersSpec)

/-- ITS FALSE NEIGHBOUR: 'it returns false'. Refute it at one input. -/
def rowopsFiltersWrong : ChangeSpec := { name := "rowopsFilters", fn := fun _ => fun
  | [d1, d2, d3] => { results := [.lit (.bool false)], args := [d1, d2, d3] }
  | _ => none }
def RowopsFiltersWrongFalsely : Prop := rowopsFiltersRow.holds Try.pinned (OpenSpec.ofChange rowopsFiltersWrong)

/- THE SECOND FORM. 'bulk': how many values and letters a reading holds, each counted each time it is reached (what is shared counts as often as it is met; a slice's spare places count too). A statement '..UptoSaid' is the law's where the arguments, and the package variables that the reading takes, are together of bulk at most 1048576: NARROWER than '..Said'. Prove '..Said' where nothing that the law and all that it calls make is longer than what came in: it says more and counts as full. Else prove '..UptoSaid'. A law counts once. -/
mutual
def uptoBulk {H : Type} : DataW H → Nat
  | .lit (.string bytes) => bytes.length + 1
  | .lit _ => 1
  | .nil => 1
  | .ptr d => uptoBulk d + 1
  | .slice elems spare => uptoBulkAll elems + uptoBulkAll spare + 1
  | .agg parts => uptoBulkAll parts + 1
  | .iface _ d => uptoBulk d + 1
  | .map entries => uptoBulkEntries entries + 1
  | .held _ => 1
def uptoBulkAll {H : Type} : List (DataW H) → Nat
  | [] => 0
  | d :: r => uptoBulk d + uptoBulkAll r
def uptoBulkEntries {H : Type} : List (Lit × DataW H) → Nat
  | [] => 0
  | x :: r => uptoBulkEntry x + uptoBulkEntries r
def uptoBulkEntry {H : Type} : Lit × DataW H → Nat
  | (.string bytes, d) => bytes.length + uptoBulk d + 1
  | (_, d) => uptoBulk d + 1
 end
def uptoSmall : (H : Type) → List (DataW H) → Bool := fun _ ds => decide (uptoBulkAll ds ≤ 1048576)
def OpenSpec.upto (s : _root_.Go.ChangeSpec) : _root_.Go.OpenSpec := { _root_.Go.OpenSpec.ofChange s with cond := some uptoSmall }

/-- 'catchmentlaw16.RowopsAligns', WHERE WHAT IT READS IS OF BULK AT MOST 1048576: true; the input reads as it did. -/
def rowopsAlignsUptoRow : OpenClaim := { program := "ytjimddbbpjpgdaa", sum := "17ce01621b47e1a018dbff35ed86045fe4af8bd82c347f9b86be98b713056145", func := "catchment/catchmentlaw16.RowopsAligns", spec := "rowopsAligns", inPlace := ["internal/bytealg.abigen_runtime_cmpstring"], unfollowed := true, recurses := true, apart := false, narrowed := true }
def RowopsAlignsUptoSaid : Prop := rowopsAlignsUptoRow.holds Try.pinned (OpenSpec.upto rowopsAlignsSpec)

/-- 'catchmentlaw16.RowopsTops', WHERE WHAT IT READS IS OF BULK AT MOST 1048576: true; the input reads as it did. -/
def rowopsTopsUptoRow : OpenClaim := { program := "ytjimddbbpjpgdaa", sum := "17ce01621b47e1a018dbff35ed86045fe4af8bd82c347f9b86be98b713056145", func := "catchment/catchmentlaw16.RowopsTops", spec := "rowopsTops", inPlace := ["internal/bytealg.abigen_runtime_cmpstring"], unfollowed := true, recurses := true, apart := false, narrowed := true }
def RowopsTopsUptoSaid : Prop := rowopsTopsUptoRow.holds Try.pinned (OpenSpec.upto rowopsTopsSpec)

/-- 'catchmentlaw16.RowopsParts', WHERE WHAT IT READS IS OF BULK AT MOST 1048576: true; the input reads as it did. -/
def rowopsPartsUptoRow : OpenClaim := { program := "ytjimddbbpjpgdaa", sum := "17ce01621b47e1a018dbff35ed86045fe4af8bd82c347f9b86be98b713056145", func := "catchment/catchmentlaw16.RowopsParts", spec := "rowopsParts", inPlace := ["internal/bytealg.abigen_runtime_cmpstring"], unfollowed := true, recurses := true, apart := false, narrowed := true }
def RowopsPartsUptoSaid : Prop := rowopsPartsUptoRow.holds Try.pinned (OpenSpec.upto rowopsPartsSpec)

/-- 'catchmentlaw16.RowopsWhole', WHERE WHAT IT READS IS OF BULK AT MOST 1048576: true; the input reads as it did. -/
def rowopsWholeUptoRow : OpenClaim := { program := "ytjimddbbpjpgdaa", sum := "17ce01621b47e1a018dbff35ed86045fe4af8bd82c347f9b86be98b713056145", func := "catchment/catchmentlaw16.RowopsWhole", spec := "rowopsWhole", inPlace := ["internal/bytealg.abigen_runtime_cmpstring"], unfollowed := true, recurses := true, apart := false, narrowed := true }
def RowopsWholeUptoSaid : Prop := rowopsWholeUptoRow.holds Try.pinned (OpenSpec.upto rowopsWholeSpec)

/-- 'catchmentlaw16.RowopsWidths', WHERE WHAT IT READS IS OF BULK AT MOST 1048576: true; the input reads as it did. -/
def rowopsWidthsUptoRow : OpenClaim := { program := "ytjimddbbpjpgdaa", sum := "17ce01621b47e1a018dbff35ed86045fe4af8bd82c347f9b86be98b713056145", func := "catchment/catchmentlaw16.RowopsWidths", spec := "rowopsWidths", inPlace := ["internal/bytealg.abigen_runtime_cmpstring"], unfollowed := true, recurses := true, apart := false, narrowed := true }
def RowopsWidthsUptoSaid : Prop := rowopsWidthsUptoRow.holds Try.pinned (OpenSpec.upto rowopsWidthsSpec)

/-- 'catchmentlaw16.RowopsFilters', WHERE WHAT IT READS IS OF BULK AT MOST 1048576: true; the input reads as it did. -/
def rowopsFiltersUptoRow : OpenClaim := { program := "ytjimddbbpjpgdaa", sum := "17ce01621b47e1a018dbff35ed86045fe4af8bd82c347f9b86be98b713056145", func := "catchment/catchmentlaw16.RowopsFilters", spec := "rowopsFilters", inPlace := ["internal/bytealg.abigen_runtime_cmpstring", "internal/bytealg.IndexByteString", "internal/bytealg.IndexString"], unfollowed := true, recurses := true, named := ["internal/bytealg.MaxLen"], apart := false, narrowed := true }
def RowopsFiltersUptoSaid : Prop := rowopsFiltersUptoRow.holds Try.pinned (OpenSpec.upto rowopsFiltersSpec)

end Rows
end Go.Proofs.Ytjimddbbpjpgdaa
