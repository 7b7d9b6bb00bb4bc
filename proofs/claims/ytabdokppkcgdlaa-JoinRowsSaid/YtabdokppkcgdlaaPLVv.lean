/- Names, values, columns, tables that may be: what the program answers. -/
import Derived.Test.YtabdokppkcgdlaaPure
import Derived.Test.YtabdokppkcgdlaaPLFd
namespace Go.Proofs.Ytabdokppkcgdlaa.M
open Go Go.Eng Go.Proofs Go.RowKit
set_option maxRecDepth 100000
set_option linter.unusedVariables false
set_option linter.unusedSimpArgs false

theorem valid_eq (v : api_Value) : value_Valid v = some (validS v) := by
  obtain ⟨k, n, s, h⟩ := v
  unfold value_Valid validS value_Valid.j3 value_Valid.j4 value_Valid.j2 value_Valid.j1 value_Valid.j0 H0
  by_cases h1 : k = 1
  · simp [h1]
  by_cases h2 : k = 2
  · subst h2
    by_cases hs : s.size ≤ 64
    · simp [hs, show ((s.size : Int) ≤ 64) by omega]
    · simp [hs, show ¬ ((s.size : Int) ≤ 64) by omega]
  by_cases h3 : k = 3
  · subst h3
    by_cases n0 : n = 0
    · simp [n0]
    · by_cases n1 : n = 1
      · simp [n1]
      · simp [n0, n1]
  by_cases h4 : k = 4
  · simp [h4]
  · simp [h1, h2, h3, h4]
theorem name_l0 {s : ByteArray} (hn : s.size < 4611686018427387904) : ∀ (fuel i : Nat), 0 < i → i ≤ s.size → s.size < i + fuel → table_Name.l0 s fuel (i : Int) = some (((sbytes s).drop i).all nm && decide (1 ≤ s.size ∧ s.size ≤ 24))
  | 0, i, _, _, h => by omega
  | fuel + 1, i, h0, h1, h2 => by
    have hl := sbytes_len s
    rw [table_Name.l0]
    by_cases hi : i < s.size
    · obtain ⟨c, hc, ec⟩ := getE (l := sbytes s) (i := i) (by omega)
      have ih := name_l0 hn fuel (i + 1) (by omega) (by omega) (by omega)
      rw [if_pos (dlt hi), ixs_of hc, Option.bind_some, ec, List.all_cons]
      simp only [table_Name.j1, table_Name.j3, table_Name.j2, w64_nat i (by omega), ih, nm]
      have hp : (i : Int) > 0 := by omega
      by_cases a1 : c ≥ 97 <;> by_cases a2 : c ≤ 122 <;> by_cases a3 : c ≥ 48 <;> by_cases a4 : c ≤ 57 <;> by_cases a5 : c = 95 <;> by_cases a6 : c = 35 <;> (try omega) <;> simp [a1, a2, a3, a4, a5, a6, hp, h0, show ¬ i = 0 by omega]
    · have : i = s.size := by omega
      rw [if_neg (dnl (by omega)), List.drop_of_length_le (by omega)]
      by_cases h3 : s.size ≤ 24
      · simp only [List.all_nil, Bool.true_and]
        rw [if_pos (by simp; omega)]
        simp [show (1 ≤ s.size ∧ s.size ≤ 24) by omega, show ((s.size : Int) ≤ 24) by omega]
      · simp only [List.all_nil, Bool.true_and]
        rw [if_pos (by simp; omega)]
        simp [show ¬ (1 ≤ s.size ∧ s.size ≤ 24) by omega, show ¬ ((s.size : Int) ≤ 24) by omega]
theorem name_eq {s : ByteArray} (hn : s.size < 4611686018427387904) : table_Name s = some (nameS s) := by
  have hl := sbytes_len s
  unfold table_Name nameS
  rw [fuel_nat, table_Name.l0]
  cases hb : sbytes s with
  | nil =>
    have : s.size = 0 := by rw [← hl, hb]; rfl
    simp [this]
  | cons c r =>
    have hs : s.size = r.length + 1 := by rw [← hl, hb]; rfl
    have hc : (sbytes s)[0]? = some c := by rw [hb]; rfl
    have ih := name_l0 hn s.size 1 (by omega) (by omega) (by omega)
    have hd : (sbytes s).drop 1 = r := by rw [hb]; rfl
    rw [hd] at ih
    rw [show (0 : Int) = ((0 : Nat) : Int) from rfl, if_pos (dlt (by omega)), ixs_of hc, Option.bind_some]
    simp only [table_Name.j1, table_Name.j3, table_Name.j2, w64_nat 0 (by omega), Nat.zero_add, ih, az]
    by_cases a1 : c ≥ 97 <;> by_cases a2 : c ≤ 122 <;> simp [a1, a2, show 1 ≤ s.size by omega]
theorem columns_l0 {cols : List api_Col} (hn : okCols cols) : ∀ (fuel i : Nat), i ≤ cols.length → cols.length < i + fuel →
    table_columns.l0 cols fuel (i : Int) = some (allFrom (colOk cols) i (cols.drop i) && decide (1 ≤ cols.length ∧ cols.length ≤ 16))
  | 0, i, _, h => by omega
  | fuel + 1, i, h1, h2 => by
    have hn1 := hn.1
    rw [table_columns.l0]
    by_cases hi : i < cols.length
    · obtain ⟨c, hc, ec⟩ := getE hi
      rw [if_pos (dlt hi), ix_of hc, Option.bind_some, name_eq (hn.2 c (List.mem_of_getElem? hc)), Option.bind_some, find_eq hn1, Option.bind_some, ec, allFrom]
      simp only [table_columns.j1, w64_nat i (by omega), columns_l0 hn fuel (i + 1) (by omega) (by omega), colOk]
      cases nameS c.Name
      · simp
      · by_cases a1 : c.Kind < 1
        · simp [a1, show ¬ (1 ≤ c.Kind ∧ c.Kind ≤ 4) by omega]
        · by_cases a2 : c.Kind > 4
          · simp [a1, a2, show ¬ (1 ≤ c.Kind ∧ c.Kind ≤ 4) by omega]
          · by_cases a3 : findS cols c.Name = (i : Int)
            · simp [a1, a2, a3, show (1 ≤ c.Kind ∧ c.Kind ≤ 4) by omega]
            · simp [a1, a2, a3, show (1 ≤ c.Kind ∧ c.Kind ≤ 4) by omega]
    · rw [if_neg (dnl (by omega)), List.drop_of_length_le (by omega)]
      by_cases h3 : 1 ≤ cols.length
      · rw [if_pos (by simp; omega)]
        by_cases h4 : cols.length ≤ 16
        · simp [allFrom, show (1 ≤ cols.length ∧ cols.length ≤ 16) by omega, show ((cols.length : Int) ≤ 16) by omega]
        · simp [allFrom, show ¬ (1 ≤ cols.length ∧ cols.length ≤ 16) by omega, show ¬ ((cols.length : Int) ≤ 16) by omega]
      · rw [if_neg (by simp; omega)]
        simp [allFrom, show ¬ (1 ≤ cols.length ∧ cols.length ≤ 16) by omega]
theorem columns_eq {cols : List api_Col} (hn : okCols cols) : table_columns cols = some (colsS cols) := by
  unfold table_columns colsS
  rw [fuel_nat]
  exact columns_l0 hn _ 0 (Nat.zero_le _) (by omega)
theorem chk_l1 {t : api_Table} {k : Int → Option Int} {j : Int} {row : List api_Value} (hr : row.length < 4611686018427387904) (hl : row.length = t.Cols.length) : ∀ (fuel i : Nat), i ≤ row.length → row.length < i + fuel →
    table_Check.l1 k t j row fuel (i : Int) = if rowOk (row.drop i) (t.Cols.drop i) = true then k (IntKind.i64.wrap (j + 1)) else some 21
  | 0, i, _, h => by omega
  | fuel + 1, i, h1, h2 => by
    rw [table_Check.l1]
    by_cases hi : i < row.length
    · obtain ⟨v, hv, ev⟩ := getE hi
      obtain ⟨c, hc, ec⟩ := getE (l := t.Cols) (i := i) (by omega)
      rw [if_pos (dlt hi), ix_of hv, Option.bind_some, ix_of hc, Option.bind_some, valid_eq, Option.bind_some, ev, ec, rowOk]
      simp only [table_Check.j2, w64_nat i (by omega), chk_l1 hr hl fuel (i + 1) (by omega) (by omega)]
      by_cases a1 : v.Kind = c.Kind
      · cases validS v <;> simp [a1]
      · simp [a1]
    · rw [if_neg (dnl (by omega)), List.drop_of_length_le (by omega), List.drop_of_length_le (by omega)]; rfl
theorem chk_l0 {t : api_Table} (hr : okRows t.Rows) : ∀ (fuel i : Nat), i ≤ t.Rows.length → t.Rows.length < i + fuel →
    table_Check.l0 t fuel (i : Int) = some (if (t.Rows.drop i).all (fun r => rowOk r t.Cols) = true then 0 else 21)
  | 0, i, _, h => by omega
  | fuel + 1, i, h1, h2 => by
    have hr1 := hr.1
    rw [table_Check.l0]
    by_cases hi : i < t.Rows.length
    · obtain ⟨r, hx, ex⟩ := getE hi
      rw [if_pos (dlt hi), ix_of hx, Option.bind_some, ex, List.all_cons]
      by_cases hl : r.length = t.Cols.length
      · have hrl := hr.2 r (List.mem_of_getElem? hx)
        rw [if_neg (by simp [hl]), fuel_nat, show (0 : Int) = ((0 : Nat) : Int) from rfl, chk_l1 hrl hl _ 0 (Nat.zero_le _) (by omega), w64_nat i (by omega), chk_l0 hr fuel (i + 1) (by omega) (by omega)]
        simp only [List.drop_zero]
        cases rowOk r t.Cols <;> simp
      · have : rowOk r t.Cols = false := by
          cases h : rowOk r t.Cols with
          | false => rfl
          | true => exact absurd (rowOk_len h) hl
        rw [if_pos (by simp; omega), this]; simp
    · rw [if_neg (dnl (by omega)), List.drop_of_length_le (by omega)]; rfl
theorem check_eq {t : api_Table} (hc : okCols t.Cols) (hr : okRows t.Rows) : table_Check t = some (checkS t) := by
  unfold table_Check checkS
  rw [columns_eq hc, Option.bind_some]
  cases colsS t.Cols
  · simp
  · rw [if_neg (by simp), fuel_nat, if_pos rfl]
    have := chk_l0 hr (t.Rows.length + 1) 0 (Nat.zero_le _) (by omega)
    rw [List.drop_zero] at this
    exact this
end Go.Proofs.Ytabdokppkcgdlaa.M
