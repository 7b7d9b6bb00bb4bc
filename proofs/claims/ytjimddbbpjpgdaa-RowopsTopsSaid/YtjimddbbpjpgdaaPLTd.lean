/- The reference: putting together. -/
import Derived.Test.YtjimddbbpjpgdaaPure
import Derived.Test.YtjimddbbpjpgdaaPLTe
namespace Go.Proofs.Ytjimddbbpjpgdaa.M
open Go Go.Eng Go.Proofs Go.RowKit
set_option maxRecDepth 100000
set_option linter.unusedVariables false
set_option linter.unusedSimpArgs false

theorem runion_eq {a b : api_Table} (ha : szT a) (hb : szT b) (h : (a.Rows.length + b.Rows.length) * 24 ≤ 140737488355328) : ref02_Union a b = some (unionS a b) := by
  unfold ref02_Union
  rw [rcheck_eq ha.cols ha.rows, Option.bind_some]
  by_cases h1 : checkS a = 0
  · rw [if_pos (by simp [h1]), rcheck_eq hb.cols hb.rows, Option.bind_some]
    unfold ref02_Union.j0
    by_cases h2 : checkS b = 0
    · rw [if_neg (by simp [h2]), rsc_eq ha.cols.1, Option.bind_some]
      by_cases h3 : a.Cols = b.Cols
      · have e : unionS a b = (canonS ⟨a.Cols, a.Rows ++ b.Rows⟩, 0) := by unfold unionS; rw [if_neg (by simp [h1]), if_neg (by simp [h2]), if_neg (by simp [h3])]
        have hcn : ref02_Canon ⟨a.Cols, a.Rows ++ b.Rows⟩ = some (canonS ⟨a.Cols, a.Rows ++ b.Rows⟩) := rcanon_eq' (t := ⟨a.Cols, a.Rows ++ b.Rows⟩) (show a.Cols.length * 24 ≤ _ by have := ha.c; omega) ⟨by simpa using h, fun r hr => by
          rcases List.mem_append.1 hr with hr | hr
          · exact ha.row hr
          · exact hb.row hr⟩
        rw [e, if_neg (by simp [h3]), apd_of (by have := ha.r; simp; omega), Option.bind_some, List.nil_append, apd_of h, Option.bind_some, hcn]; rfl
      · have e : unionS a b = (none2, 20) := by unfold unionS; rw [if_neg (by simp [h1]), if_neg (by simp [h2]), if_pos h3]
        rw [e, if_pos (by simp [h3])]; rfl
    · have e : unionS a b = (none2, checkS b) := by unfold unionS; rw [if_neg (by simp [h1]), if_pos h2]
      rw [e, if_pos (by simpa using h2)]; rfl
  · have e : unionS a b = (none2, checkS a) := by unfold unionS; rw [if_pos h1]
    rw [e, if_neg (by simpa using h1)]
    unfold ref02_Union.j0
    rw [if_pos (by simpa using h1)]; rfl
end Go.Proofs.Ytjimddbbpjpgdaa.M
