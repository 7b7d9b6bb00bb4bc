/- Values: which may be. What is said of names, columns, tables. -/
import Derived.Test.YtabdokppkcgdlaaPure
import Derived.Test.YtabdokppkcgdlaaEngQ
namespace Go.Proofs.Ytabdokppkcgdlaa.M
open Go Go.Eng Go.Proofs Go.RowKit
set_option maxRecDepth 100000
set_option linter.unusedVariables false
set_option linter.unusedSimpArgs false

def H0 : Arr8 := ⟨0, 0, 0, 0, 0, 0, 0, 0⟩
def validS (v : api_Value) : Bool :=
  if v.Kind = 1 then decide (v.S = ⟨#[]⟩ ∧ v.H = H0)
  else if v.Kind = 2 then decide (v.N = 0 ∧ v.H = H0 ∧ v.S.size ≤ 64)
  else if v.Kind = 3 then decide ((v.N = 0 ∨ v.N = 1) ∧ v.S = ⟨#[]⟩ ∧ v.H = H0)
  else if v.Kind = 4 then decide (v.N = 0 ∧ v.S = ⟨#[]⟩)
  else false
def az (c : Int) : Bool := decide (97 ≤ c ∧ c ≤ 122)
def nm (c : Int) : Bool := decide (97 ≤ c ∧ c ≤ 122 ∨ 48 ≤ c ∧ c ≤ 57 ∨ c = 95 ∨ c = 35)
def nameS (s : ByteArray) : Bool := match sbytes s with
  | [] => false
  | c :: r => az c && r.all nm && decide (s.size ≤ 24)
def findS (cols : List api_Col) (name : ByteArray) : Int := match cols.findIdx? (fun c => decide (c.Name = name)) with
  | some i => (i : Int)
  | none => -1
def colOk (cols : List api_Col) (i : Nat) (c : api_Col) : Bool := nameS c.Name && decide (1 ≤ c.Kind ∧ c.Kind ≤ 4) && decide (findS cols c.Name = (i : Int))
def allFrom {α : Type} (p : Nat → α → Bool) : Nat → List α → Bool
  | _, [] => true
  | i, x :: r => p i x && allFrom p (i + 1) r
def colsS (cols : List api_Col) : Bool := allFrom (colOk cols) 0 cols && decide (1 ≤ cols.length ∧ cols.length ≤ 16)
def rowOk : List api_Value → List api_Col → Bool
  | [], [] => true
  | v :: r, c :: cs => decide (v.Kind = c.Kind) && validS v && rowOk r cs
  | _, _ => false
def checkS (t : api_Table) : Int := if colsS t.Cols = true then (if t.Rows.all (fun r => rowOk r t.Cols) = true then 0 else 21) else 20
theorem rowOk_len : ∀ {r : List api_Value} {cs : List api_Col}, rowOk r cs = true → r.length = cs.length
  | [], [], _ => rfl
  | [], _ :: _, h => by simp [rowOk] at h
  | _ :: _, [], h => by simp [rowOk] at h
  | v :: r, c :: cs, h => by simp only [rowOk, Bool.and_eq_true] at h; simp [rowOk_len h.2]
theorem checkS_zero {t : api_Table} : checkS t = 0 ↔ colsS t.Cols = true ∧ ∀ r ∈ t.Rows, rowOk r t.Cols = true := by
  unfold checkS
  by_cases h : colsS t.Cols = true
  · rw [if_pos h]
    by_cases h2 : t.Rows.all (fun r => rowOk r t.Cols) = true
    · rw [if_pos h2]; simp only [List.all_eq_true] at h2; simp only [h, true_and]; exact ⟨fun _ => h2, fun _ => trivial⟩
    · rw [if_neg h2]; simp only [List.all_eq_true] at h2; simp [h, h2]
  · rw [if_neg h]; simp [h]
theorem str_eq (a b : ByteArray) : (a.toList == b.toList) = decide (a = b) := beq_bytes a b
theorem findS_cons (c : api_Col) (cols : List api_Col) (name : ByteArray) : findS (c :: cols) name = if c.Name = name then 0 else if findS cols name = -1 then -1 else findS cols name + 1 := by
  unfold findS
  rw [List.findIdx?_cons]
  by_cases h : c.Name = name
  · simp [h]
  · simp only [h, decide_false, Bool.false_eq_true, if_false]
    cases cols.findIdx? (fun c => decide (c.Name = name)) with
    | none => simp
    | some i => simp
theorem findS_ge (cols : List api_Col) (name : ByteArray) : -1 ≤ findS cols name ∧ findS cols name < cols.length := by
  unfold findS
  split
  · rename_i i h
    have := (List.findIdx?_eq_some_iff_getElem.1 h).1
    omega
  · omega
theorem findS_some {cols : List api_Col} {name : ByteArray} (h : 0 ≤ findS cols name) : ∃ i c, findS cols name = ((i : Nat) : Int) ∧ cols[i]? = some c ∧ c.Name = name ∧ ∀ j d, j < i → cols[j]? = some d → d.Name ≠ name := by
  unfold findS at h ⊢
  split
  · rename_i i h1
    obtain ⟨h2, h3, h4⟩ := List.findIdx?_eq_some_iff_getElem.1 h1
    refine ⟨i, cols[i], rfl, List.getElem?_eq_getElem h2, by simpa using h3, fun j d hj hd => ?_⟩
    have hjl := (List.getElem?_eq_some_iff.1 hd).1
    have := h4 j hj
    rw [List.getElem?_eq_getElem hjl] at hd
    have hd := Option.some.inj hd
    subst hd
    simpa using this
  · rename_i h1; rw [h1] at h; simp at h
theorem findS_none {cols : List api_Col} {name : ByteArray} : findS cols name = -1 ↔ ∀ c ∈ cols, c.Name ≠ name := by
  unfold findS
  split
  · rename_i i h1
    obtain ⟨h2, h3, h4⟩ := List.findIdx?_eq_some_iff_getElem.1 h1
    constructor
    · intro h; omega
    · intro h; exact absurd (by simpa using h3) (h _ (List.getElem_mem h2))
  · rename_i h1
    rw [List.findIdx?_eq_none_iff] at h1
    simp only [true_iff]
    intro c hc
    simpa using h1 c hc
def okCols (cols : List api_Col) : Prop := cols.length < 4611686018427387904 ∧ ∀ c ∈ cols, c.Name.size < 4611686018427387904
def okRows {α : Type} (rows : List (List α)) : Prop := rows.length < 4611686018427387904 ∧ ∀ r ∈ rows, r.length < 4611686018427387904
end Go.Proofs.Ytabdokppkcgdlaa.M
