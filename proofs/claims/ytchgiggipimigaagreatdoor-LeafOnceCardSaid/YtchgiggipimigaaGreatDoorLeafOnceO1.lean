/- For the law LeafOnce: what reads as a datum of a type of this program lies in memory as its plain Lean value tells; without condition. -/
import Derived.Test.YtchgiggipimigaaGreatDoorProg
import Derived.Test.YtchgiggipimigaaGreatDoorLeafOnceP1
section
namespace Go.Proofs.YtchgiggipimigaaGreatDoor.M
open Go Go.Eng Go.Proofs Go.RowKit
set_option linter.unusedVariables false
set_option maxRecDepth 100000
theorem opn3 : Opn Tryz.prog 3 (tyInt .i64) (fun x => (Lit.int .i64 x).wf = true) := opn_int Tryz.underlying3
theorem opn22 : Opn Tryz.prog 22 (tySl (tyInt .i64)) (fun xs => xs.length * 8 ≤ 140737488351232 ∧ ∀ x ∈ xs, (fun x => (Lit.int .i64 x).wf = true) x) := opn_slice Tryz.underlying22 (by kernel_rfl) (by decide) (by kernel_rfl) opn3
end Go.Proofs.YtchgiggipimigaaGreatDoor.M
end
