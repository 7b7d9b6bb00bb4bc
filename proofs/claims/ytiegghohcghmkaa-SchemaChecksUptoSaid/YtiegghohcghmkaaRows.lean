/-
  No cell of these rows narrows 'for every input' (looked for: loops, veiled, ifaces, maps, wideKeys, modest, calm, conditions, laid).
  DERIVED. THE GIVEN ROWS OF THIS SEAT. 5 by the template 'for every input the law returns true; each argument reads behind the call as it read before'; 0 by the template 'total and deterministic' (their statements: YtiegghohcghmkaaTotals.lean).
  GIVEN WITH THE SEED: the statements are not yours to turn. If you find one false, say at which input.
  Laid BY PROGRAM, IN A SANDBOX (cutbox-rows.mjs): the forced cells as the released guide's own fill.sh prints them over the translation 763ae4bbd5046013… (all of the seat's roots in one cut). By AI agents, Wed Nov 11 2026. No macro, syntax, notation, axiom, sorry.
-/
import Derived.Test.YtiegghohcghmkaaChecked
import GoSem.Claim
import GoSem.ClaimJoined
import GoSem.ClaimMapViews
import Derived.JoinedTies
import Derived.KernelRfl
namespace Go.Proofs.Ytiegghohcghmkaa
/- THE CELL 'sum', in the pinned program and in every row, IS THE sha256 OF THE DUMP (.gsa) THAT YtiegghohcghmkaaProg.lean LOADS. Nothing in Lean hashes anything: it is a label: what it is worth is what the hold of that sum in a sandbox is worth. -/
noncomputable def Try.pinned : Pinned := { name := "ytiegghohcghmkaa", sum := "763ae4bbd5046013d2552e8c2d483eee4b2a2e94f843480f47e08651923a7e09", checked := Try.checked }
namespace Rows
def none {H : Type} : Left H := { results := [], args := [] }

/-- 'catchmentlaw05.SchemaChecks': WHATEVER THE INPUT: true; the input reads as it did. -/
def schemaChecksSpec : ChangeSpec := { name := "schemaChecks", fn := fun _ => fun
  | [d1, d2] => { results := [.lit (.bool true)], args := [d1, d2] }
  | _ => none }
def schemaChecksRow : OpenClaim := { program := "ytiegghohcghmkaa", sum := "763ae4bbd5046013d2552e8c2d483eee4b2a2e94f843480f47e08651923a7e09", func := "catchment/catchmentlaw05.SchemaChecks", spec := "schemaChecks", inPlace := ["internal/bytealg.IndexByteString", "internal/bytealg.IndexString"], unfollowed := true, recurses := true, named := ["internal/bytealg.MaxLen"], apart := false }
def SchemaChecksSaid : Prop := schemaChecksRow.holds Try.pinned (OpenSpec.ofChange schemaChecksSpec)

/-- ITS FALSE NEIGHBOUR: 'it returns false'. Refute it at one input. -/
def schemaChecksWrong : ChangeSpec := { name := "schemaChecks", fn := fun _ => fun
  | [d1, d2] => { results := [.lit (.bool false)], args := [d1, d2] }
  | _ => none }
def SchemaChecksWrongFalsely : Prop := schemaChecksRow.holds Try.pinned (OpenSpec.ofChange schemaChecksWrong)

/-- 'catchmentlaw05.SchemaFits': WHATEVER THE INPUT: true; the input reads as it did. -/
def schemaFitsSpec : ChangeSpec := { name := "schemaFits", fn := fun _ => fun
  | [d1, d2] => { results := [.lit (.bool true)], args := [d1, d2] }
  | _ => none }
def schemaFitsRow : OpenClaim := { program := "ytiegghohcghmkaa", sum := "763ae4bbd5046013d2552e8c2d483eee4b2a2e94f843480f47e08651923a7e09", func := "catchment/catchmentlaw05.SchemaFits", spec := "schemaFits", inPlace := ["internal/bytealg.IndexByteString", "internal/bytealg.IndexString"], unfollowed := true, recurses := true, named := ["internal/bytealg.MaxLen"], apart := false }
def SchemaFitsSaid : Prop := schemaFitsRow.holds Try.pinned (OpenSpec.ofChange schemaFitsSpec)

/-- ITS FALSE NEIGHBOUR: 'it returns false'. Refute it at one input. -/
def schemaFitsWrong : ChangeSpec := { name := "schemaFits", fn := fun _ => fun
  | [d1, d2] => { results := [.lit (.bool false)], args := [d1, d2] }
  | _ => none }
def SchemaFitsWrongFalsely : Prop := schemaFitsRow.holds Try.pinned (OpenSpec.ofChange schemaFitsWrong)

/-- 'catchmentlaw05.SchemaTables': WHATEVER THE INPUT: true; the input reads as it did. -/
def schemaTablesSpec : ChangeSpec := { name := "schemaTables", fn := fun _ => fun
  | [d1, d2] => { results := [.lit (.bool true)], args := [d1, d2] }
  | _ => none }
def schemaTablesRow : OpenClaim := { program := "ytiegghohcghmkaa", sum := "763ae4bbd5046013d2552e8c2d483eee4b2a2e94f843480f47e08651923a7e09", func := "catchment/catchmentlaw05.SchemaTables", spec := "schemaTables", inPlace := ["internal/bytealg.IndexByteString", "internal/bytealg.IndexString"], unfollowed := true, recurses := true, named := ["internal/bytealg.MaxLen"], apart := false }
def SchemaTablesSaid : Prop := schemaTablesRow.holds Try.pinned (OpenSpec.ofChange schemaTablesSpec)

/-- ITS FALSE NEIGHBOUR: 'it returns false'. Refute it at one input. -/
def schemaTablesWrong : ChangeSpec := { name := "schemaTables", fn := fun _ => fun
  | [d1, d2] => { results := [.lit (.bool false)], args := [d1, d2] }
  | _ => none }
def SchemaTablesWrongFalsely : Prop := schemaTablesRow.holds Try.pinned (OpenSpec.ofChange schemaTablesWrong)

/-- 'catchmentlaw05.SchemaTurned': WHATEVER THE INPUT: true; the input reads as it did. -/
def schemaTurnedSpec : ChangeSpec := { name := "schemaTurned", fn := fun _ => fun
  | [d] => { results := [.lit (.bool true)], args := [d] }
  | _ => none }
def schemaTurnedRow : OpenClaim := { program := "ytiegghohcghmkaa", sum := "763ae4bbd5046013d2552e8c2d483eee4b2a2e94f843480f47e08651923a7e09", func := "catchment/catchmentlaw05.SchemaTurned", spec := "schemaTurned", inPlace := ["internal/bytealg.IndexByteString", "internal/bytealg.IndexString"], unfollowed := true, recurses := true, named := ["internal/bytealg.MaxLen"], apart := false }
def SchemaTurnedSaid : Prop := schemaTurnedRow.holds Try.pinned (OpenSpec.ofChange schemaTurnedSpec)

/-- ITS FALSE NEIGHBOUR: 'it returns false'. Refute it at one input. -/
def schemaTurnedWrong : ChangeSpec := { name := "schemaTurned", fn := fun _ => fun
  | [d] => { results := [.lit (.bool false)], args := [d] }
  | _ => none }
def SchemaTurnedWrongFalsely : Prop := schemaTurnedRow.holds Try.pinned (OpenSpec.ofChange schemaTurnedWrong)

/-- 'catchmentlaw05.SchemaGrows': WHATEVER THE INPUT: true; the input reads as it did. -/
def schemaGrowsSpec : ChangeSpec := { name := "schemaGrows", fn := fun _ => fun
  | [d1, d2] => { results := [.lit (.bool true)], args := [d1, d2] }
  | _ => none }
def schemaGrowsRow : OpenClaim := { program := "ytiegghohcghmkaa", sum := "763ae4bbd5046013d2552e8c2d483eee4b2a2e94f843480f47e08651923a7e09", func := "catchment/catchmentlaw05.SchemaGrows", spec := "schemaGrows", inPlace := ["internal/bytealg.IndexByteString", "internal/bytealg.IndexString"], unfollowed := true, recurses := true, named := ["internal/bytealg.MaxLen"], apart := false }
def SchemaGrowsSaid : Prop := schemaGrowsRow.holds Try.pinned (OpenSpec.ofChange schemaGrowsSpec)

/-- ITS FALSE NEIGHBOUR: 'it returns false'. Refute it at one input. -/
def schemaGrowsWrong : ChangeSpec := { name := "schemaGrows", fn := fun _ => fun
  | [d1, d2] => { results := [.lit (.bool false)], args := [d1, d2] }
  | _ => none }
def SchemaGrowsWrongFalsely : Prop := schemaGrowsRow.holds Try.pinned (OpenSpec.ofChange schemaGrowsWrong)

/- THE SECOND FORM. 'bulk': how many values and letters a reading holds, each counted each time it is reached (what is shared counts as often as it is met; a slice's spare places count too). A statement '..UptoSaid' is the law's where the arguments, and the package variables that the reading takes, are together of bulk at most 1048576: NARROWER than '..Said'. Prove '..Said' where nothing that the law and all that it calls make is longer than what came in: it says more and counts as full. Else prove '..UptoSaid'. A law counts once. -/
mutual
def uptoBulk {H : Type} : DataW H → Nat
  | .lit (.string bytes) => bytes.length + 1
  | .lit _ => 1
  | .nil => 1
  | .ptr d => uptoBulk d + 1
  | .slice elems spare => uptoBulkAll elems + uptoBulkAll spare + 1
  | .agg parts => uptoBulkAll parts + 1
  | .iface _ d => uptoBulk d + 1
  | .map entries => uptoBulkEntries entries + 1
  | .held _ => 1
def uptoBulkAll {H : Type} : List (DataW H) → Nat
  | [] => 0
  | d :: r => uptoBulk d + uptoBulkAll r
def uptoBulkEntries {H : Type} : List (Lit × DataW H) → Nat
  | [] => 0
  | x :: r => uptoBulkEntry x + uptoBulkEntries r
def uptoBulkEntry {H : Type} : Lit × DataW H → Nat
  | (.string bytes, d) => bytes.length + uptoBulk d + 1
  | (_, d) => uptoBulk d + 1
 end
def uptoSmall : (H : Type) → List (DataW H) → Bool := fun _ ds => decide (uptoBulkAll ds ≤ 1048576)
def OpenSpec.upto (s : _root_.Go.ChangeSpec) : _root_.Go.OpenSpec := { _root_.Go.OpenSpec.ofChange s with cond := some uptoSmall }

/-- 'catchmentlaw05.SchemaChecks', WHERE WHAT IT READS IS OF BULK AT MOST 1048576: true; the input reads as it did. -/
def schemaChecksUptoRow : OpenClaim := { program := "ytiegghohcghmkaa", sum := "763ae4bbd5046013d2552e8c2d483eee4b2a2e94f843480f47e08651923a7e09", func := "catchment/catchmentlaw05.SchemaChecks", spec := "schemaChecks", inPlace := ["internal/bytealg.IndexByteString", "internal/bytealg.IndexString"], unfollowed := true, recurses := true, named := ["internal/bytealg.MaxLen"], apart := false, narrowed := true }
def SchemaChecksUptoSaid : Prop := schemaChecksUptoRow.holds Try.pinned (OpenSpec.upto schemaChecksSpec)

/-- 'catchmentlaw05.SchemaFits', WHERE WHAT IT READS IS OF BULK AT MOST 1048576: true; the input reads as it did. -/
def schemaFitsUptoRow : OpenClaim := { program := "ytiegghohcghmkaa", sum := "763ae4bbd5046013d2552e8c2d483eee4b2a2e94f843480f47e08651923a7e09", func := "catchment/catchmentlaw05.SchemaFits", spec := "schemaFits", inPlace := ["internal/bytealg.IndexByteString", "internal/bytealg.IndexString"], unfollowed := true, recurses := true, named := ["internal/bytealg.MaxLen"], apart := false, narrowed := true }
def SchemaFitsUptoSaid : Prop := schemaFitsUptoRow.holds Try.pinned (OpenSpec.upto schemaFitsSpec)

/-- 'catchmentlaw05.SchemaTables', WHERE WHAT IT READS IS OF BULK AT MOST 1048576: true; the input reads as it did. -/
def schemaTablesUptoRow : OpenClaim := { program := "ytiegghohcghmkaa", sum := "763ae4bbd5046013d2552e8c2d483eee4b2a2e94f843480f47e08651923a7e09", func := "catchment/catchmentlaw05.SchemaTables", spec := "schemaTables", inPlace := ["internal/bytealg.IndexByteString", "internal/bytealg.IndexString"], unfollowed := true, recurses := true, named := ["internal/bytealg.MaxLen"], apart := false, narrowed := true }
def SchemaTablesUptoSaid : Prop := schemaTablesUptoRow.holds Try.pinned (OpenSpec.upto schemaTablesSpec)

/-- 'catchmentlaw05.SchemaTurned', WHERE WHAT IT READS IS OF BULK AT MOST 1048576: true; the input reads as it did. -/
def schemaTurnedUptoRow : OpenClaim := { program := "ytiegghohcghmkaa", sum := "763ae4bbd5046013d2552e8c2d483eee4b2a2e94f843480f47e08651923a7e09", func := "catchment/catchmentlaw05.SchemaTurned", spec := "schemaTurned", inPlace := ["internal/bytealg.IndexByteString", "internal/bytealg.IndexString"], unfollowed := true, recurses := true, named := ["internal/bytealg.MaxLen"], apart := false, narrowed := true }
def SchemaTurnedUptoSaid : Prop := schemaTurnedUptoRow.holds Try.pinned (OpenSpec.upto schemaTurnedSpec)

/-- 'catchmentlaw05.SchemaGrows', WHERE WHAT IT READS IS OF BULK AT MOST 1048576: true; the input reads as it did. -/
def schemaGrowsUptoRow : OpenClaim := { program := "ytiegghohcghmkaa", sum := "763ae4bbd5046013d2552e8c2d483eee4b2a2e94f843480f47e08651923a7e09", func := "catchment/catchmentlaw05.SchemaGrows", spec := "schemaGrows", inPlace := ["internal/bytealg.IndexByteString", "internal/bytealg.IndexString"], unfollowed := true, recurses := true, named := ["internal/bytealg.MaxLen"], apart := false, narrowed := true }
def SchemaGrowsUptoSaid : Prop := schemaGrowsUptoRow.holds Try.pinned (OpenSpec.upto schemaGrowsSpec)

end Rows
end Go.Proofs.Ytiegghohcghmkaa
