/- Values: which may be; what the program and the reference answer. -/
import Derived.Test.YtffleadhhhpnlaaDoorPure
import Derived.Test.YtffleadhhhpnlaaDoorEngQ
namespace Go.Proofs.YtffleadhhhpnlaaDoor.M
open Go Go.Eng Go.Proofs Go.RowKit
set_option maxRecDepth 100000
set_option linter.unusedVariables false
set_option linter.unusedSimpArgs false

def H0 : Arr8 := ⟨0, 0, 0, 0, 0, 0, 0, 0⟩
def validS (v : api_Value) : Bool :=
  if v.Kind = 1 then decide (v.S = ⟨#[]⟩ ∧ v.H = H0)
  else if v.Kind = 2 then decide (v.N = 0 ∧ v.H = H0 ∧ v.S.size ≤ 64)
  else if v.Kind = 3 then decide ((v.N = 0 ∨ v.N = 1) ∧ v.S = ⟨#[]⟩ ∧ v.H = H0)
  else if v.Kind = 4 then decide (v.N = 0 ∧ v.S = ⟨#[]⟩)
  else false
theorem str_eq (a b : ByteArray) : (a.toList == b.toList) = decide (a = b) := beq_bytes a b
theorem valid_eq (v : api_Value) : value_Valid v = some (validS v) := by
  obtain ⟨k, n, s, h⟩ := v
  unfold value_Valid validS value_Valid.j3 value_Valid.j4 value_Valid.j2 value_Valid.j1 value_Valid.j0 H0
  by_cases h1 : k = 1
  · simp [h1]
  by_cases h2 : k = 2
  · subst h2
    by_cases hs : s.size ≤ 64
    · simp [hs, show ((s.size : Int) ≤ 64) by omega]
    · simp [hs, show ¬ ((s.size : Int) ≤ 64) by omega]
  by_cases h3 : k = 3
  · subst h3
    by_cases n0 : n = 0
    · simp [n0]
    · by_cases n1 : n = 1
      · simp [n1]
      · simp [n0, n1]
  by_cases h4 : k = 4
  · simp [h4]
  · simp [h1, h2, h3, h4]
theorem rvalid_eq (v : api_Value) : ref01_Valid v = some (validS v) := by
  obtain ⟨k, n, s, h⟩ := v
  unfold ref01_Valid validS H0
  simp only [str_eq]
  by_cases h1 : k = 1
  · by_cases a1 : s = ⟨#[]⟩ <;> simp [h1, a1]
  by_cases h2 : k = 2
  · subst h2
    by_cases a1 : n = 0 <;> by_cases a2 : h = ⟨0, 0, 0, 0, 0, 0, 0, 0⟩ <;> by_cases hs : s.size ≤ 64 <;> simp [a1, a2, hs, show ((s.size : Int) ≤ 64) ↔ s.size ≤ 64 by omega]
  by_cases h3 : k = 3
  · subst h3
    by_cases n0 : n = 0
    · by_cases a1 : s = ⟨#[]⟩ <;> simp [n0, a1]
    · by_cases n1 : n = 1
      · by_cases a1 : s = ⟨#[]⟩ <;> simp [n1, a1]
      · simp [n0, n1]
  by_cases h4 : k = 4
  · by_cases a1 : n = 0 <;> simp [h4, a1]
  · simp [h1, h2, h3, h4]
end Go.Proofs.YtffleadhhhpnlaaDoor.M
