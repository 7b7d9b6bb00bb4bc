/- What the bound on the bulk gives: a measure of all that is read. -/
import Derived.Test.YtffleadhhhpnlaaDoorRows
import Derived.Test.YtffleadhhhpnlaaDoorEngK
namespace Go.Proofs.YtffleadhhhpnlaaDoor.M
open Go Go.Eng Go.Proofs Go.RowKit
set_option linter.unusedVariables false

theorem len_le {H : Type} : ∀ (l : List (DataW H)), l.length ≤ Rows.uptoBulkAll l
  | [] => by simp [Rows.uptoBulkAll]
  | d :: r => by
    have h1 := len_le r
    have h2 : 1 ≤ Rows.uptoBulk d := by
      cases d with
      | lit l => cases l <;> simp [Rows.uptoBulk]
      | nil => simp [Rows.uptoBulk]
      | ptr d => simp [Rows.uptoBulk]
      | slice elems spare => simp [Rows.uptoBulk]
      | agg parts => simp [Rows.uptoBulk]
      | iface t d => simp [Rows.uptoBulk]
      | map entries => simp [Rows.uptoBulk]
      | held h => simp [Rows.uptoBulk]
    simp only [Rows.uptoBulkAll, List.length_cons]; omega
theorem mem_le {H : Type} {l : List (DataW H)} {d : DataW H} (hd : d ∈ l) : Rows.uptoBulk d ≤ Rows.uptoBulkAll l := by
  induction l with
  | nil => cases hd
  | cons x r ih =>
    simp only [Rows.uptoBulkAll]
    cases List.mem_cons.1 hd with
    | inl e => subst e; omega
    | inr e => have := ih e; omega
theorem bulkMu : Mu @Rows.uptoBulk where
  str := fun b => by simp [Rows.uptoBulk]
  sl := fun el sp => by
    have h1 := len_le el
    have h2 := len_le sp
    simp only [Rows.uptoBulk]; omega
  el := fun el sp d hd => by
    have := mem_le hd
    simp only [Rows.uptoBulk]; omega
  ag := fun ps d hd => by
    have := mem_le hd
    simp only [Rows.uptoBulk]; omega
theorem small_of {H : Type} {l : List (DataW H)} {d : DataW H} (hk : Rows.uptoSmall H l = true) (hd : d ∈ l) : Rows.uptoBulk d ≤ kM :=
  Nat.le_trans (mem_le hd) (show Rows.uptoBulkAll l ≤ 1048576 from of_decide_eq_true hk)
end Go.Proofs.YtffleadhhhpnlaaDoor.M
