/- What reads as a datum of a type of this program lies in memory as its plain Lean value tells. -/
import Derived.Test.YthcadccjcioofaaPure
import Derived.Test.YthcadccjcioofaaEngL
import Derived.Test.YthcadccjcioofaaProg
namespace Go.Proofs.Ythcadccjcioofaa.M
open Go Go.Eng Go.Proofs Go.RowKit
set_option linter.unusedVariables false



theorem opn5 : Opn Try.prog 5 (tyInt .u8) (fun x => (Lit.int .u8 x).wf = true) := opn_int Try.underlying5
theorem opn22 : Opn Try.prog 22 (tySl (tyInt .u8)) (fun xs => xs.length * 1 ≤ 140737488351232 ∧ ∀ x ∈ xs, (fun x => (Lit.int .u8 x).wf = true) x) := opn_slice Try.underlying22 (by kernel_rfl) (by decide) (by kernel_rfl) opn5
theorem opn3 : Opn Try.prog 3 (tyInt .i64) (fun x => (Lit.int .i64 x).wf = true) := opn_int Try.underlying3
theorem opn24 : Opn Try.prog 24 (tyInt .u32) (fun x => (Lit.int .u32 x).wf = true) := opn_int Try.underlying24

end Go.Proofs.Ythcadccjcioofaa.M
