/- Layer 16: the plain law of rows that are left. -/
import Derived.Test.YtjimddbbpjpgdaaPure
import Derived.Test.YtjimddbbpjpgdaaPL16b
import Derived.Test.YtjimddbbpjpgdaaPLHf
namespace Go.Proofs.Ytjimddbbpjpgdaa.M
open Go Go.Eng Go.Proofs Go.RowKit
set_option maxRecDepth 100000
set_option linter.unusedVariables false
set_option linter.unusedSimpArgs false

theorem filters_j0 {t : api_Table} {ns : List api_Node} {i : Int} (hs : szT t) (hn : smallN ns) (hl : ns.length ≤ 1000000) : law16_RowopsFilters.j0 i true t ns = some true := by
  unfold law16_RowopsFilters.j0 rowops_Filter ref16_Filter
  rw [check_eq hs.cols hs.rows, Option.bind_some, rcheck_eq hs.cols hs.rows, Option.bind_some]
  by_cases hz : checkS t = 0
  · rw [if_neg (by simpa using hz), pwhere_eq hs (small_check hs hz) hn hl, Option.bind_some, canon_eq (hs.where _ _), Option.bind_some, Option.bind_some, if_neg (by simpa using hz), rwhere_eq hs (small_check hs hz) hn hl, Option.bind_some, rcanon_eq (hs.where _ _), Option.bind_some, Option.bind_some, rsame_eq (hs.where _ _).canon, Option.bind_some]
    simp
  · rw [if_pos (by simpa using hz), Option.bind_some, if_pos (by simpa using hz), Option.bind_some]
    have := rsame_eq (b := none2) szT_none2
    rw [show (⟨[], []⟩ : api_Table) = none2 from rfl, this, Option.bind_some]
    simp
theorem RowopsFilters_pure (t : api_Table) (ot : ok_api_Table t) (q : api_Query) (oq : ok_api_Query q) (i : Int) (oi : (Lit.int .i64 i).wf = true) : law16_RowopsFilters t q i = some true := by
  have hs := (szT_of ot).cut
  have hn := smallN_of oq
  unfold law16_RowopsFilters
  rw [shown_ok, Option.bind_some, cut_eq', Option.bind_some]
  by_cases hl : q.N.length > 100
  · rw [if_pos (by simp; omega), cut_of (by omega) (by omega) (by omega), Option.bind_some]
    exact filters_j0 hs (fun n hm => hn n (List.mem_of_mem_drop (List.mem_of_mem_take hm))) (by simp; omega)
  · rw [if_neg (by simp; omega)]
    exact filters_j0 hs hn (by omega)
end Go.Proofs.Ytjimddbbpjpgdaa.M
