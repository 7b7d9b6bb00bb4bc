/- Schemas of a small bulk: any may be, or not, and are found. -/
import Derived.Test.YtiegghohcghmkaaPL05
import Derived.Test.YtiegghohcghmkaaOpnM
namespace Go.Proofs.Ytiegghohcghmkaa.M
open Go Go.Eng Go.Proofs Go.RowKit
set_option linter.unusedVariables false

theorem okm_Col {c : api_Col} (h : okm_api_Col c) : ok_api_Col c := ⟨by have := h.1; simp only at this ⊢; omega, h.2⟩
theorem okm_cols {l : List api_Col} (h : l.length ≤ 1048576 ∧ ∀ x ∈ l, okm_api_Col x) : l.length * 24 ≤ 140737488351232 ∧ ∀ x ∈ l, ok_api_Col x := ⟨by have := h.1; omega, fun x hx => okm_Col (h.2 x hx)⟩
theorem okm_Schema {s : api_Schema} (h : okm_api_Schema s) : ok_api_Schema s := ⟨by have := h.1; simp only at this ⊢; omega, okm_cols h.2.1, okm_cols h.2.2⟩
theorem SchemaChecks_upto (l : List api_Schema) (ol : l.length ≤ 1048576 ∧ ∀ x ∈ l, okm_api_Schema x) (name : ByteArray) (on : name.size ≤ 1048576) : law05_SchemaChecks l name = some true :=
  SchemaChecks_pure l ⟨by have := ol.1; omega, fun x hx => okm_Schema (ol.2 x hx)⟩ name (by omega) (fun s hs => by
    have h1 := (ol.2 s hs).2.1.1
    have h2 := (ol.2 s hs).2.2.1
    omega)
end Go.Proofs.Ytiegghohcghmkaa.M
