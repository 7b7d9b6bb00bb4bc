/- The program: canonical order. -/
import Derived.Test.YtabdokppkcgdlaaPure
import Derived.Test.YtabdokppkcgdlaaPLTs
import Derived.Test.YtabdokppkcgdlaaPLCl
import Derived.Test.YtabdokppkcgdlaaPLVv
import Derived.Test.YtabdokppkcgdlaaPLVc
namespace Go.Proofs.Ytabdokppkcgdlaa.M
open Go Go.Eng Go.Proofs Go.RowKit
set_option maxRecDepth 100000
set_option linter.unusedVariables false
set_option linter.unusedSimpArgs false

theorem order_l0 {a b : List api_Value} (hn : a.length < 4611686018427387904) : ∀ (fuel i : Nat), i ≤ a.length → i ≤ b.length → a.length < i + fuel →
    slices_CompareFunc_api_Value_api_Value_api_Value_api_Value_f_value_Compare.l0 a b fuel (i : Int) = some (lexL cmpV (a.drop i) (b.drop i))
  | 0, i, _, _, h => by omega
  | fuel + 1, i, h1, h2, h3 => by
    rw [slices_CompareFunc_api_Value_api_Value_api_Value_api_Value_f_value_Compare.l0]
    by_cases hi : i < a.length
    · obtain ⟨x, hx, ex⟩ := getE hi
      rw [if_pos (dlt hi), ix_of hx, Option.bind_some, ex]
      by_cases hj : i < b.length
      · obtain ⟨y, hy, ey⟩ := getE hj
        rw [if_neg (dng hj), ix_of hy, Option.bind_some, cmpV_eq, Option.bind_some, ey, lexL]
        by_cases e : cmpV x y = 0
        · rw [if_neg (by simp [e]), if_pos e, w64_nat _ (by omega), order_l0 hn fuel (i + 1) (by omega) (by omega) (by omega)]
        · rw [if_pos (by simpa using e), if_neg e]
      · rw [if_pos (dge (by omega)), List.drop_of_length_le (l := b) (by omega)]; rfl
    · rw [if_neg (dnl (by omega)), List.drop_of_length_le (l := a) (by omega)]
      by_cases hj : a.length < b.length
      · obtain ⟨y, hy, ey⟩ := getE (l := b) (i := i) (by omega)
        rw [if_pos (dlt hj), ey]; rfl
      · rw [if_neg (dnl (by omega)), List.drop_of_length_le (l := b) (by omega)]; rfl
theorem torder_eq {a b : List api_Value} (hn : a.length < 4611686018427387904) : table_order a b = some (cmpR a b) := by
  unfold table_order slices_CompareFunc_api_Value_api_Value_api_Value_api_Value_f_value_Compare
  have := order_l0 (b := b) hn (a.length + 1) 0 (Nat.zero_le _) (Nat.zero_le _) (by omega)
  rw [fuel_nat, show (0 : Int) = ((0 : Nat) : Int) from rfl, this]; rfl
theorem sort_eq {xs : List (List api_Value)} (h : okRows xs) : slices_SortFunc_api_Value_api_Value_f_table_order xs = some (sortC cmpR xs) := by
  unfold slices_SortFunc_api_Value_api_Value_f_table_order
  exact sortBy_cmp cmpR_cmp cmpR_zero (fun x hx y hy => torder_eq (h.2 x hx)) h.1
theorem canon_l0 {t : api_Table} {cols : List api_Col} (hr : t.Rows.length * 24 ≤ 140737488355328) (hw : ∀ r ∈ t.Rows, r.length * 96 ≤ 140737488355328) : ∀ (fuel i : Nat), i ≤ t.Rows.length → t.Rows.length < i + fuel →
    table_Canon.l0 t cols fuel (t.Rows.take i) (i : Int) = some ⟨cols, sortC cmpR t.Rows⟩
  | 0, i, _, h => by omega
  | fuel + 1, i, h1, h2 => by
    rw [table_Canon.l0]
    by_cases hi : i < t.Rows.length
    · obtain ⟨r, hx, ex⟩ := getE hi
      rw [if_pos (dlt hi), ix_of hx, Option.bind_some, clone_eq (hw r (List.mem_of_getElem? hx)), Option.bind_some, apd_of (by simp only [List.length_take, List.length_singleton]; omega), Option.bind_some, w64_nat i (by omega)]
      have e : t.Rows.take i ++ [r] = t.Rows.take (i + 1) := by rw [List.take_add_one, hx]; rfl
      rw [e]
      exact canon_l0 hr hw fuel (i + 1) (by omega) (by omega)
    · rw [if_neg (dnl (by omega)), List.take_of_length_le (by omega), sort_eq ⟨by omega, fun r hx => by have := hw r hx; omega⟩]; rfl
theorem canon_eq' {t : api_Table} (hc : t.Cols.length * 24 ≤ 140737488355328) (hr : t.Rows.length * 24 ≤ 140737488355328) (hw : ∀ r ∈ t.Rows, r.length * 96 ≤ 140737488355328) : table_Canon t = some (canonS t) := by
  unfold table_Canon
  rw [cloneC_eq hc, Option.bind_some, fuel_nat]
  exact canon_l0 hr hw _ 0 (Nat.zero_le _) (by omega)
theorem canon_eq {t : api_Table} (h : szT t) : table_Canon t = some (canonS t) := canon_eq' (by have := h.c; omega) (by have := h.r; omega) (fun r hr => by have := h.w r hr; omega)
end Go.Proofs.Ytabdokppkcgdlaa.M
