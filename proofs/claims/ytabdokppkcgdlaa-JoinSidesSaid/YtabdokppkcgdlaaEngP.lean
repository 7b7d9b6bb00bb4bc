/-
  Plain words: numbers that wrap, elements, parts of lists.
-/
import Derived.Test.YtabdokppkcgdlaaEngO
namespace Go.Eng
set_option linter.unusedVariables false
set_option linter.unusedSimpArgs false
theorem w64 {x : Int} (h0 : -9223372036854775808 ≤ x) (h1 : x ≤ 9223372036854775807) : IntKind.i64.wrap x = x := by
  simp only [IntKind.wrap, IntKind.bits, IntKind.signed, Bool.true_and]
  split
  · rename_i h; simp at h; omega
  · rename_i h; simp at h; omega
theorem w64_range (x : Int) : -9223372036854775808 ≤ IntKind.i64.wrap x ∧ IntKind.i64.wrap x ≤ 9223372036854775807 := by
  simp only [IntKind.wrap, IntKind.bits, IntKind.signed, Bool.true_and]
  split
  · rename_i h; simp at h; omega
  · rename_i h; simp at h; omega
theorem w64_nat (i : Nat) (h : i < 9223372036854775807) : IntKind.i64.wrap ((i : Int) + 1) = ((i + 1 : Nat) : Int) := by rw [w64 (by omega) (by omega)]; omega
theorem w64_succ {i : Int} (h0 : 0 ≤ i) (h : i < 9223372036854775807) : IntKind.i64.wrap (i + 1) = i + 1 := w64 (by omega) (by omega)
theorem i64_range {x : Int} (h : (Lit.int .i64 x).wf = true) : -9223372036854775808 ≤ x ∧ x ≤ 9223372036854775807 := by
  simp only [Lit.wf, Bool.and_eq_true, decide_eq_true_eq] at h
  exact h
theorem u8_range {x : Int} (h : (Lit.int .u8 x).wf = true) : 0 ≤ x ∧ x < 256 := by
  simp only [Lit.wf, Bool.and_eq_true, decide_eq_true_eq] at h
  have h1 : (0 : Int) ≤ x := h.1
  have h2 : x ≤ 255 := h.2
  exact ⟨h1, by omega⟩
theorem cut_of {α : Type} {a : List α} {l h : Int} (h0 : 0 ≤ l) (h1 : l ≤ h) (h2 : h ≤ (a.length : Int)) : cut a l h = some ((a.drop l.toNat).take (h.toNat - l.toNat)) := by
  unfold cut
  rw [if_pos h0, if_pos h1, if_pos h2]
theorem apd_of {α : Type} {B : Nat} {xs ys : List α} (h : (xs.length + ys.length) * B ≤ 140737488355328) : apd B xs ys = some (xs ++ ys) := by
  unfold apd; rw [if_pos h]
theorem ix_of {α : Type} {xs : List α} {i : Nat} {x : α} (h : xs[i]? = some x) : ix xs (i : Int) = some x := by rw [ix_nat, h]
/-- What the statements make of a number below nought. -/
theorem folded {x : Int} (h : -9223372036854775808 ≤ x) (hx : x < 0) : 0 ≤ IntKind.i64.wrap (0 - IntKind.i64.wrap (x + 1)) := by
  rw [w64 (x := x + 1) (by omega) (by omega), w64 (by omega) (by omega)]
  omega
end Go.Eng
