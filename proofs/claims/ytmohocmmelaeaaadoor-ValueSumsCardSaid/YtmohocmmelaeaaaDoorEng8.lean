/-
  The engine, part 8: rows that the library sorts.
-/
import Derived.Test.YtmohocmmelaeaaaDoorEng7
import Derived.Shelf.SlSortCmp.NoneTotal
namespace Go.Eng
open Go.RowKit Go.Sort Go.Shelf Go.Lib Go.Proofs
set_option linter.unusedVariables false
set_option linter.unusedSimpArgs false
section
variable {α : Type}
def ltc (c : α → α → Option Int) (x y : α) : Bool := match c x y with
  | some i => decide (i < 0)
  | none => false
/-- What slices.SortFunc asks of a comparison, at the elements that there are; and that it parts whatever two are not the same. -/
structure SortOk (c : α → α → Option Int) (xs : List α) : Prop where
  isSome : ∀ x ∈ xs, ∀ y ∈ xs, (c x y).isSome = true
  irrefl : ∀ x ∈ xs, ltc c x x = false
  trans : ∀ x ∈ xs, ∀ y ∈ xs, ∀ z ∈ xs, ltc c x y = true → ltc c y z = true → ltc c x z = true
  ntrans : ∀ x ∈ xs, ∀ y ∈ xs, ∀ z ∈ xs, ltc c x y = false → ltc c y z = false → ltc c x z = false
  anti : ∀ x ∈ xs, ∀ y ∈ xs, ltc c x y = false → ltc c y x = false → x = y
open Classical in
/-- What slices.SortFunc makes of a row, wherever the comparison is an order. -/
noncomputable def sortBy (c : α → α → Option Int) (xs : List α) : Option (List α) := if SortOk c xs ∧ xs.length < 4611686018427387904 then some (xs.mergeSort fun x y => !ltc c y x) else none
theorem sortBy_some {c : α → α → Option Int} {xs r : List α} (h : sortBy c xs = some r) : SortOk c xs ∧ xs.length < 4611686018427387904 ∧ r = xs.mergeSort fun x y => !ltc c y x := by
  unfold sortBy at h
  split at h
  · rename_i h0; exact ⟨h0.1, h0.2, (Option.some.inj h).symm⟩
  · cases h
theorem sortBy_of {c : α → α → Option Int} {xs : List α} (h : SortOk c xs) (hl : xs.length < 4611686018427387904) : sortBy c xs = some (xs.mergeSort fun x y => !ltc c y x) := by
  unfold sortBy; rw [if_pos ⟨h, hl⟩]
end
/-- What slices.Grow makes of nothing. -/
def grow0 {α : Type} (B : Nat) (xs : List α) (k : Int) : Option (List α) := if 0 ≤ k ∧ k.toNat * B ≤ 140737488355328 then some xs else none
theorem grow0_some {α : Type} {B : Nat} {xs ys : List α} {k : Int} (h : grow0 B xs k = some ys) : ∃ n : Nat, k = (n : Int) ∧ n * B ≤ 140737488355328 ∧ xs = ys := by
  unfold grow0 at h
  split at h
  · rename_i h0; exact ⟨k.toNat, by omega, h0.2, Option.some.inj h⟩
  · cases h
end Go.Eng
