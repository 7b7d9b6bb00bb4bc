/- Tables: canonical order, putting together, keeping columns: what is said of them. -/
import Derived.Test.YtabdokppkcgdlaaPure
import Derived.Test.YtabdokppkcgdlaaPLVs
import Derived.Test.YtabdokppkcgdlaaPLVo
namespace Go.Proofs.Ytabdokppkcgdlaa.M
open Go Go.Eng Go.Proofs Go.RowKit
set_option maxRecDepth 100000
set_option linter.unusedVariables false
set_option linter.unusedSimpArgs false

/-- What reads as a table is no larger than this. -/
structure szT (t : api_Table) : Prop where
  c : t.Cols.length * 24 ≤ 140737488351232
  n : ∀ c ∈ t.Cols, c.Name.size ≤ 140737488351232
  r : t.Rows.length * 24 ≤ 140737488351232
  w : ∀ r ∈ t.Rows, r.length * 96 ≤ 140737488351232
  s : ∀ r ∈ t.Rows, ∀ v ∈ r, v.S.size ≤ 140737488351232
theorem szT_of {t : api_Table} (h : ok_api_Table t) : szT t := by
  obtain ⟨⟨h1, h2⟩, h3, h4⟩ := h
  exact ⟨h1, fun c hc => (h2 c hc).1, h3, fun r hr => (h4 r hr).1, fun r hr v hv => ((h4 r hr).2 v hv).2.2.1⟩
theorem szT.cols {t : api_Table} (h : szT t) : okCols t.Cols := ⟨by have := h.c; omega, fun c hc => by have := h.n c hc; omega⟩
theorem szT.rows {t : api_Table} (h : szT t) : okRows t.Rows := ⟨by have := h.r; omega, fun r hr => by have := h.w r hr; omega⟩
theorem szT.row {t : api_Table} (h : szT t) {r : List api_Value} (hr : r ∈ t.Rows) : okRow r := ⟨by have := h.w r hr; omega, fun v hv => by have := h.s r hr v hv; unfold okV; omega⟩
theorem szT.sub {t u : api_Table} (h : szT t) (hc : u.Cols = t.Cols) (hl : u.Rows.length ≤ t.Rows.length) (hr : ∀ r ∈ u.Rows, r ∈ t.Rows) : szT u :=
  ⟨by rw [hc]; exact h.c, by rw [hc]; exact h.n, by have := h.r; omega, fun r h1 => h.w r (hr r h1), fun r h1 => h.s r (hr r h1)⟩
def canonS (t : api_Table) : api_Table := ⟨t.Cols, sortC cmpR t.Rows⟩
theorem szT.canon {t : api_Table} (h : szT t) : szT (canonS t) := h.sub rfl (Nat.le_of_eq (sortC_len _ _)) (fun r hr => mem_sortC.1 hr)
theorem sortR_perm {xs ys : List (List api_Value)} (h : xs.Perm ys) : sortC cmpR xs = sortC cmpR ys := sortC_of_perm cmpR_cmp cmpR_zero h
theorem canonS_perm {t u : api_Table} (hc : t.Cols = u.Cols) (h : t.Rows.Perm u.Rows) : canonS t = canonS u := by unfold canonS; rw [hc, sortR_perm h]
theorem canonS_canonS (t : api_Table) : canonS (canonS t) = canonS t := canonS_perm rfl (sortC_perm _ _)
theorem all_perm {α : Type} {p : α → Bool} {xs ys : List α} (h : xs.Perm ys) : xs.all p = ys.all p := by
  rw [Bool.eq_iff_iff, List.all_eq_true, List.all_eq_true]
  exact ⟨fun h1 x hx => h1 x (h.mem_iff.2 hx), fun h1 x hx => h1 x (h.mem_iff.1 hx)⟩
theorem checkS_canon (t : api_Table) : checkS (canonS t) = checkS t := by
  unfold checkS canonS
  dsimp only
  rw [all_perm (sortC_perm cmpR t.Rows)]
def none2 : api_Table := ⟨[], []⟩
def unionS (a b : api_Table) : api_Table × Int :=
  if checkS a ≠ 0 then (none2, checkS a) else if checkS b ≠ 0 then (none2, checkS b) else if a.Cols ≠ b.Cols then (none2, 20) else (canonS ⟨a.Cols, a.Rows ++ b.Rows⟩, 0)
def placesS (cols : List api_Col) (acc : List Int) : List ByteArray → Option (List Int)
  | [] => some acc
  | n :: r => if findS cols n < 0 ∨ findS cols n ∈ acc then none else placesS cols (acc ++ [findS cols n]) r
def pickS {α : Type} (at_ : List Int) (xs : List α) : List α := at_.filterMap fun k => xs[k.toNat]?
def keepS (t : api_Table) (names : List ByteArray) : api_Table × Int :=
  if checkS t ≠ 0 then (none2, checkS t) else match placesS t.Cols [] names with
  | none => (none2, 20)
  | some at_ => if names = [] then (none2, 20) else (canonS ⟨pickS at_ t.Cols, t.Rows.map (pickS at_)⟩, 0)
end Go.Proofs.Ytabdokppkcgdlaa.M
