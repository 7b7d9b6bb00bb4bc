/- The plain law of sums: three of the same kind are added either way. -/
import Derived.Test.YtmohocmmelaeaaaDoorPure
import Derived.Test.YtmohocmmelaeaaaDoorPL01
namespace Go.Proofs.YtmohocmmelaeaaaDoor.M
open Go Go.Eng Go.Proofs Go.RowKit
set_option maxRecDepth 100000
set_option linter.unusedVariables false
set_option linter.unusedSimpArgs false

theorem wr64 (n : Int) : IntKind.i64.wrap n = (n + 9223372036854775808) % 18446744073709551616 - 9223372036854775808 := by
  simp only [IntKind.wrap, IntKind.bits, IntKind.signed, Bool.true_and]
  split
  · rename_i h; simp at h; omega
  · rename_i h; simp at h; omega
theorem wr_assoc (a b c : Int) : IntKind.i64.wrap (IntKind.i64.wrap (a + b) + c) = IntKind.i64.wrap (a + IntKind.i64.wrap (b + c)) := by
  simp only [wr64]; omega
theorem add4 (x y : Arr8) : addS ⟨4, 0, ⟨#[]⟩, x⟩ ⟨4, 0, ⟨#[]⟩, y⟩ = (⟨4, 0, ⟨#[]⟩, addH x y⟩, 0) := by
  have v4 : ∀ x : Arr8, validS ⟨4, 0, ⟨#[]⟩, x⟩ = true := fun x => by simp [validS]
  unfold addS
  rw [if_pos ⟨v4 _, v4 _, rfl, Or.inr rfl⟩]
  rfl
theorem add1 (n m : Int) : addS ⟨1, n, ⟨#[]⟩, H0⟩ ⟨1, m, ⟨#[]⟩, H0⟩ = (⟨1, IntKind.i64.wrap (n + m), ⟨#[]⟩, H0⟩, 0) := by
  have v1 : ∀ m : Int, validS ⟨1, m, ⟨#[]⟩, H0⟩ = true := fun m => by simp [validS]
  unfold addS
  rw [if_pos ⟨v1 _, v1 _, rfl, Or.inl rfl⟩]
  rfl
theorem addH_assoc (x y z : Arr8) : addH (addH x y) z = addH x (addH y z) := by simp only [addH, wr_assoc]
theorem ofInt1 (n : Int) : value_OfInt n = some ⟨1, n, ⟨#[]⟩, H0⟩ := rfl
theorem ValueSums_pure (a : Arr8) (oa : ok_Arr8 a) (b : Arr8) (ob : ok_Arr8 b) (c : Arr8) (oc : ok_Arr8 c) : law01_ValueSums a b c = some true := by
  unfold law01_ValueSums law01_ValueSums.j0 law01_ValueSums.j1
  simp only [shown_ok, Option.bind_some, add_eq, add4, ofInt1, add1, addH_assoc, wr_assoc]
  simp
end Go.Proofs.YtmohocmmelaeaaaDoor.M
