/- The program: a column's place. -/
import Derived.Test.YtabdokppkcgdlaaPure
import Derived.Test.YtabdokppkcgdlaaPLVs
namespace Go.Proofs.Ytabdokppkcgdlaa.M
open Go Go.Eng Go.Proofs Go.RowKit
set_option maxRecDepth 100000
set_option linter.unusedVariables false
set_option linter.unusedSimpArgs false

theorem find_l0 {cols : List api_Col} {name : ByteArray} (hn : cols.length < 4611686018427387904) : ∀ (fuel i : Nat), i ≤ cols.length → cols.length < i + fuel →
    slices_IndexFunc_api_Col_api_Col_f_table_Find_1p.l0 cols name fuel (i : Int) = some (if findS (cols.drop i) name = -1 then -1 else findS (cols.drop i) name + i)
  | 0, i, _, h => by omega
  | fuel + 1, i, h1, h2 => by
    rw [slices_IndexFunc_api_Col_api_Col_f_table_Find_1p.l0]
    by_cases hi : i < cols.length
    · obtain ⟨c, hc, ec⟩ := getE hi
      rw [if_pos (dlt hi), ix_of hc, Option.bind_some]
      unfold table_Find_1_cp
      rw [Option.bind_some, str_eq, ec, findS_cons, w64_nat i (by omega), find_l0 hn fuel (i + 1) (by omega) (by omega)]
      by_cases e : c.Name = name
      · simp [e]
      · have := findS_ge (cols.drop (i + 1)) name
        by_cases e2 : findS (cols.drop (i + 1)) name = -1
        · simp [e, e2]
        · simp [e, e2, show ¬ findS (cols.drop (i + 1)) name + 1 = -1 by omega]; omega
    · rw [if_neg (dnl (by omega)), List.drop_of_length_le (by omega)]; rfl
theorem find_eq {cols : List api_Col} {name : ByteArray} (hn : cols.length < 4611686018427387904) : table_Find cols name = some (findS cols name) := by
  unfold table_Find slices_IndexFunc_api_Col_api_Col_f_table_Find_1p
  have h0 := find_l0 (name := name) hn (cols.length + 1) 0 (Nat.zero_le _) (by omega)
  rw [fuel_nat, show (0 : Int) = ((0 : Nat) : Int) from rfl, h0]
  by_cases e : findS cols name = -1
  · simp [e]
  · simp [e]
end Go.Proofs.Ytabdokppkcgdlaa.M
