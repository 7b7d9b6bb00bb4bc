/- Names, values, columns, tables that may be: what the reference answers. -/
import Derived.Test.YtabdokppkcgdlaaPure
import Derived.Test.YtabdokppkcgdlaaPLVs
namespace Go.Proofs.Ytabdokppkcgdlaa.M
open Go Go.Eng Go.Proofs Go.RowKit
set_option maxRecDepth 100000
set_option linter.unusedVariables false
set_option linter.unusedSimpArgs false

theorem rvalid_eq (v : api_Value) : ref01_Valid v = some (validS v) := by
  obtain ⟨k, n, s, h⟩ := v
  unfold ref01_Valid validS H0
  simp only [str_eq]
  by_cases h1 : k = 1
  · by_cases a1 : s = ⟨#[]⟩ <;> simp [h1, a1]
  by_cases h2 : k = 2
  · subst h2
    by_cases a1 : n = 0 <;> by_cases a2 : h = ⟨0, 0, 0, 0, 0, 0, 0, 0⟩ <;> by_cases hs : s.size ≤ 64 <;> simp [a1, a2, hs, show ((s.size : Int) ≤ 64) ↔ s.size ≤ 64 by omega]
  by_cases h3 : k = 3
  · subst h3
    by_cases n0 : n = 0
    · by_cases a1 : s = ⟨#[]⟩ <;> simp [n0, a1]
    · by_cases n1 : n = 1
      · by_cases a1 : s = ⟨#[]⟩ <;> simp [n1, a1]
      · simp [n0, n1]
  by_cases h4 : k = 4
  · by_cases a1 : n = 0 <;> simp [h4, a1]
  · simp [h1, h2, h3, h4]
theorem rname_l1 {s : ByteArray} (hn : s.size < 4611686018427387904) : ∀ (fuel i : Nat), i ≤ s.size → s.size < i + fuel → ref02_Name.l1 s fuel (i : Int) = some (((sbytes s).drop i).all nm)
  | 0, i, _, h => by omega
  | fuel + 1, i, h1, h2 => by
    have hl := sbytes_len s
    rw [ref02_Name.l1]
    by_cases hi : i < s.size
    · obtain ⟨c, hc, ec⟩ := getE (l := sbytes s) (i := i) (by omega)
      have ih := rname_l1 hn fuel (i + 1) (by omega) (by omega)
      rw [if_pos (dlt hi), ixs_of hc, Option.bind_some, ec, List.all_cons]
      simp only [ref02_Name.j2, w64_nat i (by omega), ih, nm]
      by_cases a1 : c ≥ 97 <;> by_cases a2 : c ≤ 122 <;> by_cases a3 : c ≥ 48 <;> by_cases a4 : c ≤ 57 <;> by_cases a5 : c = 95 <;> by_cases a6 : c = 35 <;> (try omega) <;> simp [a1, a2, a3, a4, a5, a6]
    · rw [if_neg (dnl (by omega)), List.drop_of_length_le (by omega)]; rfl
theorem rname_eq {s : ByteArray} (hn : s.size < 4611686018427387904) : ref02_Name s = some (nameS s) := by
  have hl := sbytes_len s
  unfold ref02_Name nameS
  have h1 := rname_l1 hn (s.size + 1) 0 (Nat.zero_le _) (by omega)
  rw [show ((0 : Nat) : Int) = 0 from rfl] at h1
  simp only [ref02_Name.j0, fuel_nat, h1]
  cases hb : sbytes s with
  | nil =>
    have : s.size = 0 := by rw [← hl, hb]; rfl
    simp [this]
  | cons c r =>
    have hs : s.size = r.length + 1 := by rw [← hl, hb]; rfl
    have hc : (sbytes s)[0]? = some c := by rw [hb]; rfl
    have hx : ixs s 0 = some c := ixs_of (i := 0) hc
    have ea : az c = true → nm c = true := fun h => by unfold az at h; unfold nm; simp only [decide_eq_true_eq] at *; omega
    by_cases a0 : s.size ≤ 24
    · by_cases a1 : c ≥ 97
      · by_cases a2 : c ≤ 122
        · have e1 : az c = true := by unfold az; simp [a1, a2]
          simp [hx, e1, ea e1, a0, show ¬ ((s.size : Int) < 1) by omega, show ¬ (s.size : Int) > 24 by omega, show ¬ (24 < (s.size : Int)) by omega, show ¬ s.size = 0 by omega, show ¬ c < 97 by omega, show ¬ 122 < c by omega]
        · have e1 : az c = false := by unfold az; simp [a1, a2]
          simp [hx, e1, a0, show ¬ ((s.size : Int) < 1) by omega, show ¬ (24 < (s.size : Int)) by omega, show ¬ s.size = 0 by omega, show ¬ c < 97 by omega, show 122 < c by omega]
      · have e1 : az c = false := by unfold az; simp; omega
        simp [hx, e1, a0, show ¬ ((s.size : Int) < 1) by omega, show ¬ (24 < (s.size : Int)) by omega, show ¬ s.size = 0 by omega, show c < 97 by omega]
    · simp [a0, show ¬ ((s.size : Int) < 1) by omega, show (24 < (s.size : Int)) by omega, show ¬ s.size = 0 by omega]
theorem rfind_l0 {cols : List api_Col} {name : ByteArray} (hn : cols.length < 4611686018427387904) : ∀ (fuel i : Nat), i ≤ cols.length → cols.length < i + fuel →
    ref02_Find.l0 cols name fuel (i : Int) = some (if findS (cols.drop i) name = -1 then -1 else findS (cols.drop i) name + i)
  | 0, i, _, h => by omega
  | fuel + 1, i, h1, h2 => by
    rw [ref02_Find.l0]
    by_cases hi : i < cols.length
    · obtain ⟨c, hc, ec⟩ := getE hi
      rw [if_pos (dlt hi), ix_of hc, Option.bind_some, str_eq, ec, findS_cons, w64_nat i (by omega), rfind_l0 hn fuel (i + 1) (by omega) (by omega)]
      by_cases e : c.Name = name
      · simp [e]
      · have := findS_ge (cols.drop (i + 1)) name
        by_cases e2 : findS (cols.drop (i + 1)) name = -1
        · simp [e, e2]
        · simp [e, e2, show ¬ findS (cols.drop (i + 1)) name + 1 = -1 by omega]; omega
    · rw [if_neg (dnl (by omega)), List.drop_of_length_le (by omega)]; rfl
theorem rfind_eq {cols : List api_Col} {name : ByteArray} (hn : cols.length < 4611686018427387904) : ref02_Find cols name = some (findS cols name) := by
  unfold ref02_Find
  have h0 := rfind_l0 (name := name) hn (cols.length + 1) 0 (Nat.zero_le _) (by omega)
  rw [fuel_nat, show (0 : Int) = ((0 : Nat) : Int) from rfl, h0]
  by_cases e : findS cols name = -1
  · simp [e]
  · simp [e]
theorem rcols_l1 {cols : List api_Col} (hn : okCols cols) : ∀ (fuel i : Nat), i ≤ cols.length → cols.length < i + fuel →
    ref02_Cols.l1 cols fuel (i : Int) = some (allFrom (colOk cols) i (cols.drop i))
  | 0, i, _, h => by omega
  | fuel + 1, i, h1, h2 => by
    have hn1 := hn.1
    rw [ref02_Cols.l1]
    by_cases hi : i < cols.length
    · obtain ⟨c, hc, ec⟩ := getE hi
      rw [if_pos (dlt hi), ix_of hc, Option.bind_some, rname_eq (hn.2 c (List.mem_of_getElem? hc)), Option.bind_some, Option.bind_some, rfind_eq hn1, Option.bind_some, Option.bind_some, Option.bind_some, ec, allFrom]
      simp only [ref02_Cols.j2, w64_nat i (by omega), rcols_l1 hn fuel (i + 1) (by omega) (by omega), colOk]
      cases nameS c.Name
      · simp
      · by_cases a3 : findS cols c.Name = (i : Int)
        · by_cases a1 : c.Kind < 1
          · simp [a1, a3, show ¬ (1 ≤ c.Kind ∧ c.Kind ≤ 4) by omega]
          · by_cases a2 : c.Kind > 4
            · simp [a1, a2, a3, show ¬ (1 ≤ c.Kind ∧ c.Kind ≤ 4) by omega]
            · simp [a1, a2, a3, show (1 ≤ c.Kind ∧ c.Kind ≤ 4) by omega]
        · simp [a3]
    · rw [if_neg (dnl (by omega)), List.drop_of_length_le (by omega)]; rfl
theorem rcols_eq {cols : List api_Col} (hn : okCols cols) : ref02_Cols cols = some (colsS cols) := by
  unfold ref02_Cols colsS ref02_Cols.j0
  have h1 := rcols_l1 hn (cols.length + 1) 0 (Nat.zero_le _) (by omega)
  rw [List.drop_zero, show ((0 : Nat) : Int) = 0 from rfl] at h1
  rw [fuel_nat, h1]
  by_cases a1 : cols.length < 1
  · simp [show ((cols.length : Int) < 1) by omega, show ¬ (1 ≤ cols.length ∧ cols.length ≤ 16) by omega]
  · by_cases a2 : cols.length ≤ 16
    · simp [show ¬ ((cols.length : Int) < 1) by omega, show ¬ (16 < (cols.length : Int)) by omega, show (1 ≤ cols.length ∧ cols.length ≤ 16) by omega]
    · simp [show ¬ ((cols.length : Int) < 1) by omega, show (16 < (cols.length : Int)) by omega, show ¬ (1 ≤ cols.length ∧ cols.length ≤ 16) by omega]
theorem rchk_l1 {t : api_Table} {k : Int → Option Int} {j : Nat} {row : List api_Value} (hj : t.Rows[j]? = some row) (hr : t.Cols.length < 4611686018427387904) (hl : row.length = t.Cols.length) : ∀ (fuel i : Nat), i ≤ row.length → row.length < i + fuel →
    ref02_Check.l1 k t (j : Int) fuel (i : Int) = if rowOk (row.drop i) (t.Cols.drop i) = true then k (IntKind.i64.wrap (j + 1)) else some 21
  | 0, i, _, h => by omega
  | fuel + 1, i, h1, h2 => by
    rw [ref02_Check.l1]
    by_cases hi : i < row.length
    · obtain ⟨v, hv, ev⟩ := getE hi
      obtain ⟨c, hc, ec⟩ := getE (l := t.Cols) (i := i) (by omega)
      rw [if_pos (dlt (by omega)), ix_of hj, Option.bind_some, ix_of hv, Option.bind_some, ix_of hc, Option.bind_some, Option.bind_some, ix_of hv, Option.bind_some, rvalid_eq, Option.bind_some, ev, ec, rowOk]
      simp only [ref02_Check.j2, w64_nat i (by omega), rchk_l1 hj hr hl fuel (i + 1) (by omega) (by omega)]
      by_cases a1 : v.Kind = c.Kind
      · cases validS v <;> simp [a1]
      · simp [a1]
    · rw [if_neg (dnl (by omega)), List.drop_of_length_le (by omega), List.drop_of_length_le (by omega)]; rfl
theorem rchk_l0 {t : api_Table} (hc : t.Cols.length < 4611686018427387904) (hr : okRows t.Rows) : ∀ (fuel i : Nat), i ≤ t.Rows.length → t.Rows.length < i + fuel →
    ref02_Check.l0 t fuel (i : Int) = some (if (t.Rows.drop i).all (fun r => rowOk r t.Cols) = true then 0 else 21)
  | 0, i, _, h => by omega
  | fuel + 1, i, h1, h2 => by
    have hr1 := hr.1
    rw [ref02_Check.l0]
    by_cases hi : i < t.Rows.length
    · obtain ⟨r, hx, ex⟩ := getE hi
      rw [if_pos (dlt hi), ix_of hx, Option.bind_some, ex, List.all_cons]
      by_cases hl : r.length = t.Cols.length
      · have hrl := hr.2 r (List.mem_of_getElem? hx)
        rw [if_neg (by simp [hl]), fuel_nat, show (0 : Int) = ((0 : Nat) : Int) from rfl, rchk_l1 hx hc hl _ 0 (Nat.zero_le _) (by omega), w64_nat i (by omega), rchk_l0 hc hr fuel (i + 1) (by omega) (by omega)]
        simp only [List.drop_zero]
        cases rowOk r t.Cols <;> simp
      · have : rowOk r t.Cols = false := by
          cases h : rowOk r t.Cols with
          | false => rfl
          | true => exact absurd (rowOk_len h) hl
        rw [if_pos (by simp; omega), this]; simp
    · rw [if_neg (dnl (by omega)), List.drop_of_length_le (by omega)]; rfl
theorem rcheck_eq {t : api_Table} (hc : okCols t.Cols) (hr : okRows t.Rows) : ref02_Check t = some (checkS t) := by
  unfold ref02_Check checkS
  rw [rcols_eq hc, Option.bind_some]
  cases colsS t.Cols
  · simp
  · rw [if_neg (by simp), fuel_nat, if_pos rfl]
    have := rchk_l0 hc.1 hr (t.Rows.length + 1) 0 (Nat.zero_le _) (by omega)
    rw [List.drop_zero] at this
    exact this
end Go.Proofs.Ytabdokppkcgdlaa.M
