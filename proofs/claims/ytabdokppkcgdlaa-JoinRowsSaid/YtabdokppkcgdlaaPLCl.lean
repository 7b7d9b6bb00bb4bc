/- The program: copies of rows and columns. -/
import Derived.Test.YtabdokppkcgdlaaPure
import Derived.Test.YtabdokppkcgdlaaPLVs
namespace Go.Proofs.Ytabdokppkcgdlaa.M
open Go Go.Eng Go.Proofs Go.RowKit
set_option maxRecDepth 100000
set_option linter.unusedVariables false
set_option linter.unusedSimpArgs false

theorem clone_eq {v : List api_Value} (h : v.length * 96 ≤ 140737488355328) : slices_Clone_api_Value_api_Value v = some v := by
  unfold slices_Clone_api_Value_api_Value
  rw [apd_of (by simp only [List.length_nil, Nat.zero_add]; omega)]; simp
theorem cloneC_eq {v : List api_Col} (h : v.length * 24 ≤ 140737488355328) : slices_Clone_api_Col_api_Col v = some v := by
  unfold slices_Clone_api_Col_api_Col
  rw [apd_of (by simp only [List.length_nil, Nat.zero_add]; omega)]; simp
end Go.Proofs.Ytabdokppkcgdlaa.M
