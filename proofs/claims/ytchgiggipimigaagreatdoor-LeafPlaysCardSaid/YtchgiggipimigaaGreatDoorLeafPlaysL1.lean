/- For the law LeafPlays: what the plain functions answer, and that the law's plain function answers true for every input; without condition but what each theorem states. -/
import Derived.Lib.IndexMore
import Derived.Test.YtchgiggipimigaaGreatDoorLeafPlaysP1
section
namespace Go.Proofs.YtchgiggipimigaaGreatDoor.M
open Go Go.Eng Go.Proofs Go.RowKit
set_option maxRecDepth 100000
set_option linter.unusedVariables false
set_option linter.unusedSimpArgs false
def H0 : Arr8 := ⟨0, 0, 0, 0, 0, 0, 0, 0⟩
def validS (v : api_Value) : Bool :=
  if v.Kind = 1 then decide (v.S = ⟨#[]⟩ ∧ v.H = H0)
  else if v.Kind = 2 then decide (v.N = 0 ∧ v.H = H0 ∧ v.S.size ≤ 64)
  else if v.Kind = 3 then decide ((v.N = 0 ∨ v.N = 1) ∧ v.S = ⟨#[]⟩ ∧ v.H = H0)
  else if v.Kind = 4 then decide (v.N = 0 ∧ v.S = ⟨#[]⟩)
  else false
def az (c : Int) : Bool := decide (97 ≤ c ∧ c ≤ 122)
def nm (c : Int) : Bool := decide (97 ≤ c ∧ c ≤ 122 ∨ 48 ≤ c ∧ c ≤ 57 ∨ c = 95 ∨ c = 35)
def nameS (s : ByteArray) : Bool := match sbytes s with
  | [] => false
  | c :: r => az c && r.all nm && decide (s.size ≤ 24)
def findS (cols : List api_Col) (name : ByteArray) : Int := match cols.findIdx? (fun c => decide (c.Name = name)) with
  | some i => (i : Int)
  | none => -1
def colOk (cols : List api_Col) (i : Nat) (c : api_Col) : Bool := nameS c.Name && decide (1 ≤ c.Kind ∧ c.Kind ≤ 4) && decide (findS cols c.Name = (i : Int))
def allFrom {α : Type} (p : Nat → α → Bool) : Nat → List α → Bool
  | _, [] => true
  | i, x :: r => p i x && allFrom p (i + 1) r
def colsS (cols : List api_Col) : Bool := allFrom (colOk cols) 0 cols && decide (1 ≤ cols.length ∧ cols.length ≤ 16)
def rowOk : List api_Value → List api_Col → Bool
  | [], [] => true
  | v :: r, c :: cs => decide (v.Kind = c.Kind) && validS v && rowOk r cs
  | _, _ => false
def checkS (t : api_Table) : Int := if colsS t.Cols = true then (if t.Rows.all (fun r => rowOk r t.Cols) = true then 0 else 21) else 20
theorem rowOk_len : ∀ {r : List api_Value} {cs : List api_Col}, rowOk r cs = true → r.length = cs.length
  | [], [], _ => rfl
  | [], _ :: _, h => by simp [rowOk] at h
  | _ :: _, [], h => by simp [rowOk] at h
  | v :: r, c :: cs, h => by simp only [rowOk, Bool.and_eq_true] at h; simp [rowOk_len h.2]
theorem str_eq (a b : ByteArray) : (a.toList == b.toList) = decide (a = b) := beq_bytes a b
theorem findS_cons (c : api_Col) (cols : List api_Col) (name : ByteArray) : findS (c :: cols) name = if c.Name = name then 0 else if findS cols name = -1 then -1 else findS cols name + 1 := by
  unfold findS
  rw [List.findIdx?_cons]
  by_cases h : c.Name = name
  · simp [h]
  · simp only [h, decide_false, Bool.false_eq_true, if_false]
    cases cols.findIdx? (fun c => decide (c.Name = name)) with
    | none => simp
    | some i => simp
theorem findS_ge (cols : List api_Col) (name : ByteArray) : -1 ≤ findS cols name ∧ findS cols name < cols.length := by
  unfold findS
  split
  · rename_i i h
    have := (List.findIdx?_eq_some_iff_getElem.1 h).1
    omega
  · omega
def okCols (cols : List api_Col) : Prop := cols.length < 4611686018427387904 ∧ ∀ c ∈ cols, c.Name.size < 4611686018427387904
def okRows {α : Type} (rows : List (List α)) : Prop := rows.length < 4611686018427387904 ∧ ∀ r ∈ rows, r.length < 4611686018427387904
end Go.Proofs.YtchgiggipimigaaGreatDoor.M
end
section
namespace Go.Proofs.YtchgiggipimigaaGreatDoor.M
open Go Go.Eng Go.Proofs Go.RowKit
set_option maxRecDepth 100000
set_option linter.unusedVariables false
set_option linter.unusedSimpArgs false
def cmpV : api_Value → api_Value → Int := thenC (onC (·.Kind) ord3) (thenC (onC (·.N) ord3) (thenC (onC (fun v => sbytes v.S) (lexL ord3)) (onC (fun v => v.H.list) (lexL ord3))))
theorem cmpV_cmp : IsCmp cmpV := thenC_cmp (onC_cmp ord3_cmp) (thenC_cmp (onC_cmp ord3_cmp) (thenC_cmp (onC_cmp (lexL_cmp ord3_cmp)) (onC_cmp (lexL_cmp ord3_cmp))))
theorem thenC_zero {α : Type} {c1 c2 : α → α → Int} {x y : α} (h : thenC c1 c2 x y = 0) : c1 x y = 0 ∧ c2 x y = 0 := by
  unfold thenC at h
  by_cases e : c1 x y = 0
  · rw [if_pos e] at h; exact ⟨e, h⟩
  · rw [if_neg e] at h; exact absurd h e
theorem cmpV_zero (a b : api_Value) (h : cmpV a b = 0) : a = b := by
  unfold cmpV at h
  obtain ⟨h1, h⟩ := thenC_zero h
  obtain ⟨h2, h⟩ := thenC_zero h
  obtain ⟨h3, h4⟩ := thenC_zero h
  have e1 := ord3_zero h1
  have e2 := ord3_zero h2
  have e3 := sbytes_inj (lexL_zero (fun _ _ => ord3_zero) _ _ h3)
  have e4 := lexL_zero (fun _ _ => ord3_zero) _ _ h4
  obtain ⟨k, n, s, ⟨a0, a1, a2, a3, a4, a5, a6, a7⟩⟩ := a
  obtain ⟨k', n', s', ⟨b0, b1, b2, b3, b4, b5, b6, b7⟩⟩ := b
  simp only [Arr8.list, List.cons.injEq, and_true] at e1 e2 e3 e4 ⊢
  obtain ⟨rfl, rfl, rfl, rfl, rfl, rfl, rfl, rfl⟩ := e4
  subst e1; subst e2; subst e3; rfl
def cmpR : List api_Value → List api_Value → Int := lexL cmpV
theorem cmpR_cmp : IsCmp cmpR := lexL_cmp cmpV_cmp
theorem cmpR_zero (a b : List api_Value) (h : cmpR a b = 0) : a = b := lexL_zero cmpV_zero a b h
theorem cmpR_self (a : List api_Value) : cmpR a a = 0 := cmpR_cmp.refl a
def okV (v : api_Value) : Prop := v.S.size < 4611686018427387904
def okRow (r : List api_Value) : Prop := r.length < 4611686018427387904 ∧ ∀ v ∈ r, okV v
end Go.Proofs.YtchgiggipimigaaGreatDoor.M
end
section
namespace Go.Proofs.YtchgiggipimigaaGreatDoor.M
open Go Go.Eng Go.Proofs Go.RowKit
set_option maxRecDepth 100000
set_option linter.unusedVariables false
set_option linter.unusedSimpArgs false
theorem find_l0 {cols : List api_Col} {name : ByteArray} (hn : cols.length < 4611686018427387904) : ∀ (fuel i : Nat), i ≤ cols.length → cols.length < i + fuel →
    slices_IndexFunc_api_Col_api_Col_f_table_Find_1p.l0 cols name fuel (i : Int) = some (if findS (cols.drop i) name = -1 then -1 else findS (cols.drop i) name + i)
  | 0, i, _, h => by omega
  | fuel + 1, i, h1, h2 => by
    rw [slices_IndexFunc_api_Col_api_Col_f_table_Find_1p.l0]
    by_cases hi : i < cols.length
    · obtain ⟨c, hc, ec⟩ := getE hi
      rw [if_pos (dlt hi), ix_of hc, Option.bind_some]
      unfold table_Find_1_cp
      rw [Option.bind_some, str_eq, ec, findS_cons, w64_nat i (by omega), find_l0 hn fuel (i + 1) (by omega) (by omega)]
      by_cases e : c.Name = name
      · simp [e]
      · have := findS_ge (cols.drop (i + 1)) name
        by_cases e2 : findS (cols.drop (i + 1)) name = -1
        · simp [e, e2]
        · simp [e, e2, show ¬ findS (cols.drop (i + 1)) name + 1 = -1 by omega]; omega
    · rw [if_neg (dnl (by omega)), List.drop_of_length_le (by omega)]; rfl
theorem find_eq {cols : List api_Col} {name : ByteArray} (hn : cols.length < 4611686018427387904) : table_Find cols name = some (findS cols name) := by
  unfold table_Find slices_IndexFunc_api_Col_api_Col_f_table_Find_1p
  have h0 := find_l0 (name := name) hn (cols.length + 1) 0 (Nat.zero_le _) (by omega)
  rw [fuel_nat, show (0 : Int) = ((0 : Nat) : Int) from rfl, h0]
  by_cases e : findS cols name = -1
  · simp [e]
  · simp [e]
end Go.Proofs.YtchgiggipimigaaGreatDoor.M
end
section
namespace Go.Proofs.YtchgiggipimigaaGreatDoor.M
open Go Go.Eng Go.Proofs Go.RowKit
set_option maxRecDepth 100000
set_option linter.unusedVariables false
set_option linter.unusedSimpArgs false
theorem isNaN_eq (x : Int) : cmp_isNaN_int x = some false := by simp [cmp_isNaN_int]
theorem cmpInt_eq (x y : Int) : cmp_Compare_int x y = some (ord3 x y) := by
  unfold cmp_Compare_int ord3
  simp only [isNaN_eq, Option.bind_some, Bool.false_eq_true, if_false, decide_eq_true_eq]
  split
  · rfl
  · split <;> rfl
theorem strCmp_eq (s t : ByteArray) : strings_Compare s t = some (lexL ord3 (sbytes s) (sbytes t)) := by
  unfold strings_Compare internal_bytealg_CompareString
  simp only [Option.bind_some, compareBytes_sb]
theorem sliCmp_l0 {xs ys : List Int} (hn : xs.length < 4611686018427387904) : ∀ (fuel i : Nat), i ≤ xs.length → i ≤ ys.length → xs.length < i + fuel → slices_Compare_int_int.l0 xs ys fuel (i : Int) = some (lexL ord3 (xs.drop i) (ys.drop i))
  | 0, i, _, _, h => by omega
  | fuel + 1, i, h1, h2, h3 => by
    rw [slices_Compare_int_int.l0]
    by_cases hi : i < xs.length
    · obtain ⟨x, hx, ex⟩ := getE hi
      rw [if_pos (dlt hi), ix_of hx, Option.bind_some, ex]
      by_cases hj : i < ys.length
      · obtain ⟨y, hy, ey⟩ := getE hj
        rw [if_neg (dng hj), ix_of hy, Option.bind_some, cmpInt_eq, Option.bind_some, ey, lexL]
        by_cases e : ord3 x y = 0
        · rw [if_neg (by simp [e]), if_pos e, w64_nat _ (by omega), sliCmp_l0 hn fuel (i + 1) (by omega) (by omega) (by omega)]
        · rw [if_pos (by simpa using e), if_neg e]
      · rw [if_pos (dge (by omega)), List.drop_of_length_le (l := ys) (by omega)]; rfl
    · rw [if_neg (dnl (by omega)), List.drop_of_length_le (l := xs) (by omega)]
      by_cases hj : xs.length < ys.length
      · obtain ⟨y, hy, ey⟩ := getE (l := ys) (i := i) (by omega)
        rw [if_pos (dlt hj), ey]; rfl
      · rw [if_neg (dnl (by omega)), List.drop_of_length_le (l := ys) (by omega)]; rfl
theorem sliCmp_eq {xs ys : List Int} (hn : xs.length < 4611686018427387904) : slices_Compare_int_int xs ys = some (lexL ord3 xs ys) := by
  unfold slices_Compare_int_int
  rw [fuel_nat]
  exact sliCmp_l0 hn _ 0 (Nat.zero_le _) (Nat.zero_le _) (by omega)
def orS : List Int → Int
  | [] => 0
  | x :: r => if x = 0 then orS r else x
theorem or_l0 {xs : List Int} (hn : xs.length < 4611686018427387904) : ∀ (fuel i : Nat), i ≤ xs.length → xs.length < i + fuel → cmp_Or_int.l0 xs fuel (i : Int) = some (orS (xs.drop i))
  | 0, i, _, h => by omega
  | fuel + 1, i, h1, h2 => by
    rw [cmp_Or_int.l0]
    by_cases hi : i < xs.length
    · obtain ⟨x, hx, ex⟩ := getE hi
      rw [if_pos (dlt hi), ix_of hx, Option.bind_some, ex, orS]
      by_cases e : x = 0
      · rw [if_neg (by simp [e]), if_pos e, w64_nat _ (by omega), or_l0 hn fuel (i + 1) (by omega) (by omega)]
      · rw [if_pos (by simpa using e), if_neg e]
    · rw [if_neg (dnl (by omega)), List.drop_of_length_le (by omega)]; rfl
theorem or_eq {xs : List Int} (hn : xs.length < 4611686018427387904) : cmp_Or_int xs = some (orS xs) := by
  unfold cmp_Or_int
  rw [fuel_nat]
  exact or_l0 hn _ 0 (Nat.zero_le _) (by omega)
theorem cmpV_eq (a b : api_Value) : value_Compare a b = some (cmpV a b) := by
  unfold value_Compare
  rw [cmpInt_eq, Option.bind_some, cmpInt_eq, Option.bind_some, strCmp_eq, Option.bind_some, sliCmp_eq (by simp [Arr8.list]), Option.bind_some, or_eq (by simp), Option.bind_some]
  simp only [orS, cmpV, thenC, onC]
  by_cases h1 : ord3 a.Kind b.Kind = 0 <;> by_cases h2 : ord3 a.N b.N = 0 <;> by_cases h3 : lexL ord3 (sbytes a.S) (sbytes b.S) = 0 <;> by_cases h4 : lexL ord3 a.H.list b.H.list = 0 <;> simp only [h1, h2, h3, h4, if_true, if_false]
end Go.Proofs.YtchgiggipimigaaGreatDoor.M
end
section
namespace Go.Proofs.YtchgiggipimigaaGreatDoor.M
open Go Go.Eng Go.Proofs Go.RowKit
set_option maxRecDepth 100000
set_option linter.unusedVariables false
set_option linter.unusedSimpArgs false
theorem valid_eq (v : api_Value) : value_Valid v = some (validS v) := by
  obtain ⟨k, n, s, h⟩ := v
  unfold value_Valid validS value_Valid.j3 value_Valid.j4 value_Valid.j2 value_Valid.j1 value_Valid.j0 H0
  by_cases h1 : k = 1
  · simp [h1]
  by_cases h2 : k = 2
  · subst h2
    by_cases hs : s.size ≤ 64
    · simp [hs, show ((s.size : Int) ≤ 64) by omega]
    · simp [hs, show ¬ ((s.size : Int) ≤ 64) by omega]
  by_cases h3 : k = 3
  · subst h3
    by_cases n0 : n = 0
    · simp [n0]
    · by_cases n1 : n = 1
      · simp [n1]
      · simp [n0, n1]
  by_cases h4 : k = 4
  · simp [h4]
  · simp [h1, h2, h3, h4]
theorem name_l0 {s : ByteArray} (hn : s.size < 4611686018427387904) : ∀ (fuel i : Nat), 0 < i → i ≤ s.size → s.size < i + fuel → table_Name.l0 s fuel (i : Int) = some (((sbytes s).drop i).all nm && decide (1 ≤ s.size ∧ s.size ≤ 24))
  | 0, i, _, _, h => by omega
  | fuel + 1, i, h0, h1, h2 => by
    have hl := sbytes_len s
    rw [table_Name.l0]
    by_cases hi : i < s.size
    · obtain ⟨c, hc, ec⟩ := getE (l := sbytes s) (i := i) (by omega)
      have ih := name_l0 hn fuel (i + 1) (by omega) (by omega) (by omega)
      rw [if_pos (dlt hi), ixs_of hc, Option.bind_some, ec, List.all_cons]
      simp only [table_Name.j1, table_Name.j3, table_Name.j2, w64_nat i (by omega), ih, nm]
      have hp : (i : Int) > 0 := by omega
      by_cases a1 : c ≥ 97 <;> by_cases a2 : c ≤ 122 <;> by_cases a3 : c ≥ 48 <;> by_cases a4 : c ≤ 57 <;> by_cases a5 : c = 95 <;> by_cases a6 : c = 35 <;> (try omega) <;> simp [a1, a2, a3, a4, a5, a6, hp, h0, show ¬ i = 0 by omega]
    · have : i = s.size := by omega
      rw [if_neg (dnl (by omega)), List.drop_of_length_le (by omega)]
      by_cases h3 : s.size ≤ 24
      · simp only [List.all_nil, Bool.true_and]
        rw [if_pos (by simp; omega)]
        simp [show (1 ≤ s.size ∧ s.size ≤ 24) by omega, show ((s.size : Int) ≤ 24) by omega]
      · simp only [List.all_nil, Bool.true_and]
        rw [if_pos (by simp; omega)]
        simp [show ¬ (1 ≤ s.size ∧ s.size ≤ 24) by omega, show ¬ ((s.size : Int) ≤ 24) by omega]
theorem name_eq {s : ByteArray} (hn : s.size < 4611686018427387904) : table_Name s = some (nameS s) := by
  have hl := sbytes_len s
  unfold table_Name nameS
  rw [fuel_nat, table_Name.l0]
  cases hb : sbytes s with
  | nil =>
    have : s.size = 0 := by rw [← hl, hb]; rfl
    simp [this]
  | cons c r =>
    have hs : s.size = r.length + 1 := by rw [← hl, hb]; rfl
    have hc : (sbytes s)[0]? = some c := by rw [hb]; rfl
    have ih := name_l0 hn s.size 1 (by omega) (by omega) (by omega)
    have hd : (sbytes s).drop 1 = r := by rw [hb]; rfl
    rw [hd] at ih
    rw [show (0 : Int) = ((0 : Nat) : Int) from rfl, if_pos (dlt (by omega)), ixs_of hc, Option.bind_some]
    simp only [table_Name.j1, table_Name.j3, table_Name.j2, w64_nat 0 (by omega), Nat.zero_add, ih, az]
    by_cases a1 : c ≥ 97 <;> by_cases a2 : c ≤ 122 <;> simp [a1, a2, show 1 ≤ s.size by omega]
theorem columns_l0 {cols : List api_Col} (hn : okCols cols) : ∀ (fuel i : Nat), i ≤ cols.length → cols.length < i + fuel →
    table_columns.l0 cols fuel (i : Int) = some (allFrom (colOk cols) i (cols.drop i) && decide (1 ≤ cols.length ∧ cols.length ≤ 16))
  | 0, i, _, h => by omega
  | fuel + 1, i, h1, h2 => by
    have hn1 := hn.1
    rw [table_columns.l0]
    by_cases hi : i < cols.length
    · obtain ⟨c, hc, ec⟩ := getE hi
      rw [if_pos (dlt hi), ix_of hc, Option.bind_some, name_eq (hn.2 c (List.mem_of_getElem? hc)), Option.bind_some, find_eq hn1, Option.bind_some, ec, allFrom]
      simp only [table_columns.j1, w64_nat i (by omega), columns_l0 hn fuel (i + 1) (by omega) (by omega), colOk]
      cases nameS c.Name
      · simp
      · by_cases a1 : c.Kind < 1
        · simp [a1, show ¬ (1 ≤ c.Kind ∧ c.Kind ≤ 4) by omega]
        · by_cases a2 : c.Kind > 4
          · simp [a1, a2, show ¬ (1 ≤ c.Kind ∧ c.Kind ≤ 4) by omega]
          · by_cases a3 : findS cols c.Name = (i : Int)
            · simp [a1, a2, a3, show (1 ≤ c.Kind ∧ c.Kind ≤ 4) by omega]
            · simp [a1, a2, a3, show (1 ≤ c.Kind ∧ c.Kind ≤ 4) by omega]
    · rw [if_neg (dnl (by omega)), List.drop_of_length_le (by omega)]
      by_cases h3 : 1 ≤ cols.length
      · rw [if_pos (by simp; omega)]
        by_cases h4 : cols.length ≤ 16
        · simp [allFrom, show (1 ≤ cols.length ∧ cols.length ≤ 16) by omega, show ((cols.length : Int) ≤ 16) by omega]
        · simp [allFrom, show ¬ (1 ≤ cols.length ∧ cols.length ≤ 16) by omega, show ¬ ((cols.length : Int) ≤ 16) by omega]
      · rw [if_neg (by simp; omega)]
        simp [allFrom, show ¬ (1 ≤ cols.length ∧ cols.length ≤ 16) by omega]
theorem columns_eq {cols : List api_Col} (hn : okCols cols) : table_columns cols = some (colsS cols) := by
  unfold table_columns colsS
  rw [fuel_nat]
  exact columns_l0 hn _ 0 (Nat.zero_le _) (by omega)
theorem chk_l1 {t : api_Table} {k : Int → Option Int} {j : Int} {row : List api_Value} (hr : row.length < 4611686018427387904) (hl : row.length = t.Cols.length) : ∀ (fuel i : Nat), i ≤ row.length → row.length < i + fuel →
    table_Check.l1 k t j row fuel (i : Int) = if rowOk (row.drop i) (t.Cols.drop i) = true then k (IntKind.i64.wrap (j + 1)) else some 21
  | 0, i, _, h => by omega
  | fuel + 1, i, h1, h2 => by
    rw [table_Check.l1]
    by_cases hi : i < row.length
    · obtain ⟨v, hv, ev⟩ := getE hi
      obtain ⟨c, hc, ec⟩ := getE (l := t.Cols) (i := i) (by omega)
      rw [if_pos (dlt hi), ix_of hv, Option.bind_some, ix_of hc, Option.bind_some, valid_eq, Option.bind_some, ev, ec, rowOk]
      simp only [table_Check.j2, w64_nat i (by omega), chk_l1 hr hl fuel (i + 1) (by omega) (by omega)]
      by_cases a1 : v.Kind = c.Kind
      · cases validS v <;> simp [a1]
      · simp [a1]
    · rw [if_neg (dnl (by omega)), List.drop_of_length_le (by omega), List.drop_of_length_le (by omega)]; rfl
theorem chk_l0 {t : api_Table} (hr : okRows t.Rows) : ∀ (fuel i : Nat), i ≤ t.Rows.length → t.Rows.length < i + fuel →
    table_Check.l0 t fuel (i : Int) = some (if (t.Rows.drop i).all (fun r => rowOk r t.Cols) = true then 0 else 21)
  | 0, i, _, h => by omega
  | fuel + 1, i, h1, h2 => by
    have hr1 := hr.1
    rw [table_Check.l0]
    by_cases hi : i < t.Rows.length
    · obtain ⟨r, hx, ex⟩ := getE hi
      rw [if_pos (dlt hi), ix_of hx, Option.bind_some, ex, List.all_cons]
      by_cases hl : r.length = t.Cols.length
      · have hrl := hr.2 r (List.mem_of_getElem? hx)
        rw [if_neg (by simp [hl]), fuel_nat, show (0 : Int) = ((0 : Nat) : Int) from rfl, chk_l1 hrl hl _ 0 (Nat.zero_le _) (by omega), w64_nat i (by omega), chk_l0 hr fuel (i + 1) (by omega) (by omega)]
        simp only [List.drop_zero]
        cases rowOk r t.Cols <;> simp
      · have : rowOk r t.Cols = false := by
          cases h : rowOk r t.Cols with
          | false => rfl
          | true => exact absurd (rowOk_len h) hl
        rw [if_pos (by simp; omega), this]; simp
    · rw [if_neg (dnl (by omega)), List.drop_of_length_le (by omega)]; rfl
theorem check_eq {t : api_Table} (hc : okCols t.Cols) (hr : okRows t.Rows) : table_Check t = some (checkS t) := by
  unfold table_Check checkS
  rw [columns_eq hc, Option.bind_some]
  cases colsS t.Cols
  · simp
  · rw [if_neg (by simp), fuel_nat, if_pos rfl]
    have := chk_l0 hr (t.Rows.length + 1) 0 (Nat.zero_le _) (by omega)
    rw [List.drop_zero] at this
    exact this
end Go.Proofs.YtchgiggipimigaaGreatDoor.M
end
section
namespace Go.Proofs.YtchgiggipimigaaGreatDoor.M
open Go Go.Eng Go.Proofs Go.RowKit
set_option maxRecDepth 100000
set_option linter.unusedVariables false
set_option linter.unusedSimpArgs false
theorem rvalid_eq (v : api_Value) : ref01_Valid v = some (validS v) := by
  obtain ⟨k, n, s, h⟩ := v
  unfold ref01_Valid validS H0
  simp only [str_eq]
  by_cases h1 : k = 1
  · by_cases a1 : s = ⟨#[]⟩ <;> simp [h1, a1]
  by_cases h2 : k = 2
  · subst h2
    by_cases a1 : n = 0 <;> by_cases a2 : h = ⟨0, 0, 0, 0, 0, 0, 0, 0⟩ <;> by_cases hs : s.size ≤ 64 <;> simp [a1, a2, hs, show ((s.size : Int) ≤ 64) ↔ s.size ≤ 64 by omega]
  by_cases h3 : k = 3
  · subst h3
    by_cases n0 : n = 0
    · by_cases a1 : s = ⟨#[]⟩ <;> simp [n0, a1]
    · by_cases n1 : n = 1
      · by_cases a1 : s = ⟨#[]⟩ <;> simp [n1, a1]
      · simp [n0, n1]
  by_cases h4 : k = 4
  · by_cases a1 : n = 0 <;> simp [h4, a1]
  · simp [h1, h2, h3, h4]
theorem rname_l1 {s : ByteArray} (hn : s.size < 4611686018427387904) : ∀ (fuel i : Nat), i ≤ s.size → s.size < i + fuel → ref02_Name.l1 s fuel (i : Int) = some (((sbytes s).drop i).all nm)
  | 0, i, _, h => by omega
  | fuel + 1, i, h1, h2 => by
    have hl := sbytes_len s
    rw [ref02_Name.l1]
    by_cases hi : i < s.size
    · obtain ⟨c, hc, ec⟩ := getE (l := sbytes s) (i := i) (by omega)
      have ih := rname_l1 hn fuel (i + 1) (by omega) (by omega)
      rw [if_pos (dlt hi), ixs_of hc, Option.bind_some, ec, List.all_cons]
      simp only [ref02_Name.j2, w64_nat i (by omega), ih, nm]
      by_cases a1 : c ≥ 97 <;> by_cases a2 : c ≤ 122 <;> by_cases a3 : c ≥ 48 <;> by_cases a4 : c ≤ 57 <;> by_cases a5 : c = 95 <;> by_cases a6 : c = 35 <;> (try omega) <;> simp [a1, a2, a3, a4, a5, a6]
    · rw [if_neg (dnl (by omega)), List.drop_of_length_le (by omega)]; rfl
theorem rname_eq {s : ByteArray} (hn : s.size < 4611686018427387904) : ref02_Name s = some (nameS s) := by
  have hl := sbytes_len s
  unfold ref02_Name nameS
  have h1 := rname_l1 hn (s.size + 1) 0 (Nat.zero_le _) (by omega)
  rw [show ((0 : Nat) : Int) = 0 from rfl] at h1
  simp only [ref02_Name.j0, fuel_nat, h1]
  cases hb : sbytes s with
  | nil =>
    have : s.size = 0 := by rw [← hl, hb]; rfl
    simp [this]
  | cons c r =>
    have hs : s.size = r.length + 1 := by rw [← hl, hb]; rfl
    have hc : (sbytes s)[0]? = some c := by rw [hb]; rfl
    have hx : ixs s 0 = some c := ixs_of (i := 0) hc
    have ea : az c = true → nm c = true := fun h => by unfold az at h; unfold nm; simp only [decide_eq_true_eq] at *; omega
    by_cases a0 : s.size ≤ 24
    · by_cases a1 : c ≥ 97
      · by_cases a2 : c ≤ 122
        · have e1 : az c = true := by unfold az; simp [a1, a2]
          simp [hx, e1, ea e1, a0, show ¬ ((s.size : Int) < 1) by omega, show ¬ (s.size : Int) > 24 by omega, show ¬ (24 < (s.size : Int)) by omega, show ¬ s.size = 0 by omega, show ¬ c < 97 by omega, show ¬ 122 < c by omega]
        · have e1 : az c = false := by unfold az; simp [a1, a2]
          simp [hx, e1, a0, show ¬ ((s.size : Int) < 1) by omega, show ¬ (24 < (s.size : Int)) by omega, show ¬ s.size = 0 by omega, show ¬ c < 97 by omega, show 122 < c by omega]
      · have e1 : az c = false := by unfold az; simp; omega
        simp [hx, e1, a0, show ¬ ((s.size : Int) < 1) by omega, show ¬ (24 < (s.size : Int)) by omega, show ¬ s.size = 0 by omega, show c < 97 by omega]
    · simp [a0, show ¬ ((s.size : Int) < 1) by omega, show (24 < (s.size : Int)) by omega, show ¬ s.size = 0 by omega]
theorem rfind_l0 {cols : List api_Col} {name : ByteArray} (hn : cols.length < 4611686018427387904) : ∀ (fuel i : Nat), i ≤ cols.length → cols.length < i + fuel →
    ref02_Find.l0 cols name fuel (i : Int) = some (if findS (cols.drop i) name = -1 then -1 else findS (cols.drop i) name + i)
  | 0, i, _, h => by omega
  | fuel + 1, i, h1, h2 => by
    rw [ref02_Find.l0]
    by_cases hi : i < cols.length
    · obtain ⟨c, hc, ec⟩ := getE hi
      rw [if_pos (dlt hi), ix_of hc, Option.bind_some, str_eq, ec, findS_cons, w64_nat i (by omega), rfind_l0 hn fuel (i + 1) (by omega) (by omega)]
      by_cases e : c.Name = name
      · simp [e]
      · have := findS_ge (cols.drop (i + 1)) name
        by_cases e2 : findS (cols.drop (i + 1)) name = -1
        · simp [e, e2]
        · simp [e, e2, show ¬ findS (cols.drop (i + 1)) name + 1 = -1 by omega]; omega
    · rw [if_neg (dnl (by omega)), List.drop_of_length_le (by omega)]; rfl
theorem rfind_eq {cols : List api_Col} {name : ByteArray} (hn : cols.length < 4611686018427387904) : ref02_Find cols name = some (findS cols name) := by
  unfold ref02_Find
  have h0 := rfind_l0 (name := name) hn (cols.length + 1) 0 (Nat.zero_le _) (by omega)
  rw [fuel_nat, show (0 : Int) = ((0 : Nat) : Int) from rfl, h0]
  by_cases e : findS cols name = -1
  · simp [e]
  · simp [e]
theorem rcols_l1 {cols : List api_Col} (hn : okCols cols) : ∀ (fuel i : Nat), i ≤ cols.length → cols.length < i + fuel →
    ref02_Cols.l1 cols fuel (i : Int) = some (allFrom (colOk cols) i (cols.drop i))
  | 0, i, _, h => by omega
  | fuel + 1, i, h1, h2 => by
    have hn1 := hn.1
    rw [ref02_Cols.l1]
    by_cases hi : i < cols.length
    · obtain ⟨c, hc, ec⟩ := getE hi
      rw [if_pos (dlt hi), ix_of hc, Option.bind_some, rname_eq (hn.2 c (List.mem_of_getElem? hc)), Option.bind_some, Option.bind_some, rfind_eq hn1, Option.bind_some, Option.bind_some, Option.bind_some, ec, allFrom]
      simp only [ref02_Cols.j2, w64_nat i (by omega), rcols_l1 hn fuel (i + 1) (by omega) (by omega), colOk]
      cases nameS c.Name
      · simp
      · by_cases a3 : findS cols c.Name = (i : Int)
        · by_cases a1 : c.Kind < 1
          · simp [a1, a3, show ¬ (1 ≤ c.Kind ∧ c.Kind ≤ 4) by omega]
          · by_cases a2 : c.Kind > 4
            · simp [a1, a2, a3, show ¬ (1 ≤ c.Kind ∧ c.Kind ≤ 4) by omega]
            · simp [a1, a2, a3, show (1 ≤ c.Kind ∧ c.Kind ≤ 4) by omega]
        · simp [a3]
    · rw [if_neg (dnl (by omega)), List.drop_of_length_le (by omega)]; rfl
theorem rcols_eq {cols : List api_Col} (hn : okCols cols) : ref02_Cols cols = some (colsS cols) := by
  unfold ref02_Cols colsS ref02_Cols.j0
  have h1 := rcols_l1 hn (cols.length + 1) 0 (Nat.zero_le _) (by omega)
  rw [List.drop_zero, show ((0 : Nat) : Int) = 0 from rfl] at h1
  rw [fuel_nat, h1]
  by_cases a1 : cols.length < 1
  · simp [show ((cols.length : Int) < 1) by omega, show ¬ (1 ≤ cols.length ∧ cols.length ≤ 16) by omega]
  · by_cases a2 : cols.length ≤ 16
    · simp [show ¬ ((cols.length : Int) < 1) by omega, show ¬ (16 < (cols.length : Int)) by omega, show (1 ≤ cols.length ∧ cols.length ≤ 16) by omega]
    · simp [show ¬ ((cols.length : Int) < 1) by omega, show (16 < (cols.length : Int)) by omega, show ¬ (1 ≤ cols.length ∧ cols.length ≤ 16) by omega]
end Go.Proofs.YtchgiggipimigaaGreatDoor.M
end
section
namespace Go.Proofs.YtchgiggipimigaaGreatDoor.M
open Go Go.Eng Go.Proofs Go.RowKit
set_option maxRecDepth 100000
set_option linter.unusedVariables false
set_option linter.unusedSimpArgs false
theorem order_eq (x y : Int) : ref01_order x y = some (ord3 x y) := by
  unfold ref01_order ord3
  simp only [decide_eq_true_eq]
  split
  · rfl
  · split <;> rfl
theorem refH_l2 {a b : api_Value} : ∀ (fuel i : Nat), i ≤ 8 → 8 < i + fuel → ref01_Compare.l2 a b fuel (i : Int) = some (lexL ord3 (a.H.list.drop i) (b.H.list.drop i))
  | 0, i, _, h => by omega
  | fuel + 1, i, h1, h2 => by
    rw [ref01_Compare.l2]
    by_cases hi : i < 8
    · obtain ⟨x, hx, ex⟩ := getE (l := a.H.list) (i := i) hi
      obtain ⟨y, hy, ey⟩ := getE (l := b.H.list) (i := i) hi
      have hx' : Arr8.ix a.H (i : Int) = some x := ix_of hx
      have hy' : Arr8.ix b.H (i : Int) = some y := ix_of hy
      rw [if_pos (show decide ((i : Int) < 8) = true by simp; omega), hx', Option.bind_some, hy', Option.bind_some, ex, ey, lexL]
      by_cases e : x = y
      · subst e
        rw [if_neg (by simp), w64_nat _ (by omega), ord3_self, if_pos rfl, refH_l2 fuel (i + 1) (by omega) (by omega)]
      · rw [if_pos (by simpa using e), Option.bind_some, Option.bind_some, order_eq, Option.bind_some, if_neg (fun h => e (ord3_zero h))]
    · rw [if_neg (show ¬ decide ((i : Int) < 8) = true by simp; omega), List.drop_of_length_le (show a.H.list.length ≤ i by simp [Arr8.list]; omega), List.drop_of_length_le (show b.H.list.length ≤ i by simp [Arr8.list]; omega)]; rfl
theorem refS_l0 {a b : api_Value} (ha : a.S.size < 4611686018427387904) : ∀ (fuel i : Nat), i ≤ a.S.size → i ≤ b.S.size → a.S.size < i + fuel → (sbytes a.S).take i = (sbytes b.S).take i →
    ref01_Compare.l0 a b fuel (i : Int) = some (if lexL ord3 ((sbytes a.S).drop i) ((sbytes b.S).drop i) = 0 then lexL ord3 a.H.list b.H.list else lexL ord3 ((sbytes a.S).drop i) ((sbytes b.S).drop i))
  | 0, i, _, _, h, _ => by omega
  | fuel + 1, i, h1, h2, h3, h4 => by
    have hl2 : ref01_Compare.l2 a b (((8 : Int) - 0).toNat + 1) 0 = some (lexL ord3 a.H.list b.H.list) := refH_l2 9 0 (by omega) (by omega)
    have la := sbytes_len a.S
    have lb := sbytes_len b.S
    have fin : ∀ (h : ¬ (i < a.S.size ∧ i < b.S.size)), ref01_Compare.j1 (ref01_Compare.l0 a b fuel) a b (i : Int) false = some (if lexL ord3 ((sbytes a.S).drop i) ((sbytes b.S).drop i) = 0 then lexL ord3 a.H.list b.H.list else lexL ord3 ((sbytes a.S).drop i) ((sbytes b.S).drop i)) := fun h => by
      unfold ref01_Compare.j1
      rw [if_neg (by simp), order_eq, Option.bind_some, hl2]
      by_cases e : a.S.size = b.S.size
      · have : i = a.S.size := by omega
        rw [if_neg (by simp [e]), List.drop_of_length_le (l := sbytes a.S) (by omega), List.drop_of_length_le (l := sbytes b.S) (by omega)]
        simp [lexL]
      · rw [if_pos (by simp; omega)]
        by_cases e2 : a.S.size < b.S.size
        · obtain ⟨y, hy, ey⟩ := getE (l := sbytes b.S) (i := i) (by omega)
          rw [List.drop_of_length_le (l := sbytes a.S) (by omega), ey]
          have : ord3 (a.S.size : Int) (b.S.size : Int) = -1 := by unfold ord3; rw [if_pos (by omega)]
          rw [this]; simp [lexL]
        · obtain ⟨y, hy, ey⟩ := getE (l := sbytes a.S) (i := i) (by omega)
          rw [List.drop_of_length_le (l := sbytes b.S) (by omega), ey]
          have : ord3 (a.S.size : Int) (b.S.size : Int) = 1 := by unfold ord3; rw [if_neg (by omega), if_pos (by omega)]
          rw [this]; simp [lexL]
    rw [ref01_Compare.l0]
    by_cases hi : i < a.S.size
    · rw [if_pos (dlt hi)]
      by_cases hj : i < b.S.size
      · obtain ⟨x, hx, ex⟩ := getE (l := sbytes a.S) (i := i) (by omega)
        obtain ⟨y, hy, ey⟩ := getE (l := sbytes b.S) (i := i) (by omega)
        have bx := sbytes_range (List.mem_of_getElem? hx)
        have by' := sbytes_range (List.mem_of_getElem? hy)
        rw [show decide ((i : Int) < (b.S.size : Int)) = true from dlt hj]
        unfold ref01_Compare.j1
        rw [if_pos rfl, ixs_of hx, Option.bind_some, ixs_of hy, Option.bind_some, ex, ey, lexL]
        by_cases e : x = y
        · subst e
          rw [if_neg (by simp), w64_nat _ (by omega), ord3_self, if_pos rfl]
          exact refS_l0 ha fuel (i + 1) (by omega) (by omega) (by omega) (by rw [List.take_add_one, List.take_add_one, h4, hx, hy])
        · rw [if_pos (by simpa using e), Option.bind_some, Option.bind_some, w64 (by omega) (by omega), w64 (by omega) (by omega), order_eq, Option.bind_some, if_neg (fun h => e (ord3_zero h)), if_neg (fun h => e (ord3_zero h))]
      · rw [show decide ((i : Int) < (b.S.size : Int)) = false by simpa using hj]
        exact fin (by omega)
    · rw [if_neg (dnl (by omega))]
      exact fin (by omega)
theorem refV_eq {a b : api_Value} (ha : a.S.size < 4611686018427387904) : ref01_Compare a b = some (cmpV a b) := by
  have h0 := refS_l0 (b := b) ha (a.S.size + 1) 0 (Nat.zero_le _) (Nat.zero_le _) (by omega) rfl
  simp only [List.drop_zero] at h0
  have e : cmpV a b = if ord3 a.Kind b.Kind = 0 then if ord3 a.N b.N = 0 then if lexL ord3 (sbytes a.S) (sbytes b.S) = 0 then lexL ord3 a.H.list b.H.list else lexL ord3 (sbytes a.S) (sbytes b.S) else ord3 a.N b.N else ord3 a.Kind b.Kind := rfl
  rw [e]
  unfold ref01_Compare
  rw [fuel_nat]
  by_cases e1 : ord3 a.Kind b.Kind = 0
  · rw [if_neg (by simp [ord3_zero e1]), if_pos e1]
    by_cases e2 : ord3 a.N b.N = 0
    · rw [if_neg (by simp [ord3_zero e2]), if_pos e2]; exact h0
    · rw [if_pos (by simp only [bne_iff_ne, ne_eq]; intro h; rw [h, ord3_self] at e2; exact e2 rfl), order_eq, Option.bind_some, if_neg e2]
  · rw [if_pos (by simp only [bne_iff_ne, ne_eq]; intro h; rw [h, ord3_self] at e1; exact e1 rfl), order_eq, Option.bind_some, if_neg e1]
theorem refRow_l0 {a b : List api_Value} (ha : okRow a) : ∀ (fuel i : Nat), i ≤ a.length → i ≤ b.length → a.length < i + fuel →
    ref02_Row.l0 a b fuel (i : Int) = some (lexL cmpV (a.drop i) (b.drop i))
  | 0, i, _, _, h => by omega
  | fuel + 1, i, h1, h2, h3 => by
    have hn := ha.1
    have fin : ∀ (h : ¬ (i < a.length ∧ i < b.length)), ref02_Row.j1 (ref02_Row.l0 a b fuel) a b (i : Int) false = some (lexL cmpV (a.drop i) (b.drop i)) := fun h => by
      unfold ref02_Row.j1
      rw [if_neg (by simp)]
      by_cases e : a.length < b.length
      · obtain ⟨y, hy, ey⟩ := getE (l := b) (i := i) (by omega)
        rw [if_pos (dlt e), List.drop_of_length_le (l := a) (by omega), ey]; rfl
      · rw [if_neg (dnl (by omega))]
        by_cases e2 : b.length < a.length
        · obtain ⟨y, hy, ey⟩ := getE (l := a) (i := i) (by omega)
          rw [if_pos (by simp; omega), List.drop_of_length_le (l := b) (by omega), ey]; rfl
        · rw [if_neg (by simp; omega), List.drop_of_length_le (l := b) (by omega), List.drop_of_length_le (l := a) (by omega)]; rfl
    rw [ref02_Row.l0]
    by_cases hi : i < a.length
    · rw [if_pos (dlt hi)]
      by_cases hj : i < b.length
      · obtain ⟨x, hx, ex⟩ := getE hi
        obtain ⟨y, hy, ey⟩ := getE hj
        rw [show decide ((i : Int) < (b.length : Int)) = true from dlt hj]
        unfold ref02_Row.j1
        rw [if_pos rfl, ix_of hx, Option.bind_some, ix_of hy, Option.bind_some, refV_eq (ha.2 x (List.mem_of_getElem? hx)), Option.bind_some, ex, ey, lexL]
        by_cases e : cmpV x y = 0
        · rw [if_neg (by simp [e]), if_pos e, w64_nat _ (by omega)]
          exact refRow_l0 ha fuel (i + 1) (by omega) (by omega) (by omega)
        · rw [if_pos (by simpa using e), if_neg e]
      · rw [show decide ((i : Int) < (b.length : Int)) = false by simpa using hj]
        exact fin (by omega)
    · rw [if_neg (dnl (by omega))]
      exact fin (by omega)
theorem refRow_eq {a b : List api_Value} (ha : okRow a) : ref02_Row a b = some (cmpR a b) := by
  unfold ref02_Row
  rw [fuel_nat]
  exact refRow_l0 ha _ 0 (Nat.zero_le _) (Nat.zero_le _) (by omega)
end Go.Proofs.YtchgiggipimigaaGreatDoor.M
end
section
namespace Go.Proofs.YtchgiggipimigaaGreatDoor.M
open Go Go.Eng Go.Proofs Go.RowKit
set_option maxRecDepth 100000
set_option linter.unusedVariables false
set_option linter.unusedSimpArgs false
structure szT (t : api_Table) : Prop where
  c : t.Cols.length * 24 ≤ 140737488351232
  n : ∀ c ∈ t.Cols, c.Name.size ≤ 140737488351232
  r : t.Rows.length * 24 ≤ 140737488351232
  w : ∀ r ∈ t.Rows, r.length * 96 ≤ 140737488351232
  s : ∀ r ∈ t.Rows, ∀ v ∈ r, v.S.size ≤ 140737488351232
theorem szT.cols {t : api_Table} (h : szT t) : okCols t.Cols := ⟨by have := h.c; omega, fun c hc => by have := h.n c hc; omega⟩
theorem szT.rows {t : api_Table} (h : szT t) : okRows t.Rows := ⟨by have := h.r; omega, fun r hr => by have := h.w r hr; omega⟩
theorem szT.row {t : api_Table} (h : szT t) {r : List api_Value} (hr : r ∈ t.Rows) : okRow r := ⟨by have := h.w r hr; omega, fun v hv => by have := h.s r hr v hv; unfold okV; omega⟩
theorem szT.sub {t u : api_Table} (h : szT t) (hc : u.Cols = t.Cols) (hl : u.Rows.length ≤ t.Rows.length) (hr : ∀ r ∈ u.Rows, r ∈ t.Rows) : szT u :=
  ⟨by rw [hc]; exact h.c, by rw [hc]; exact h.n, by have := h.r; omega, fun r h1 => h.w r (hr r h1), fun r h1 => h.s r (hr r h1)⟩
def canonS (t : api_Table) : api_Table := ⟨t.Cols, sortC cmpR t.Rows⟩
theorem szT.canon {t : api_Table} (h : szT t) : szT (canonS t) := h.sub rfl (Nat.le_of_eq (sortC_len _ _)) (fun r hr => mem_sortC.1 hr)
theorem sortR_perm {xs ys : List (List api_Value)} (h : xs.Perm ys) : sortC cmpR xs = sortC cmpR ys := sortC_of_perm cmpR_cmp cmpR_zero h
theorem canonS_perm {t u : api_Table} (hc : t.Cols = u.Cols) (h : t.Rows.Perm u.Rows) : canonS t = canonS u := by unfold canonS; rw [hc, sortR_perm h]
def none2 : api_Table := ⟨[], []⟩
end Go.Proofs.YtchgiggipimigaaGreatDoor.M
end
section
namespace Go.Proofs.YtchgiggipimigaaGreatDoor.M
open Go Go.Eng Go.Proofs Go.RowKit
set_option maxRecDepth 100000
set_option linter.unusedVariables false
set_option linter.unusedSimpArgs false
theorem clone_eq {v : List api_Value} (h : v.length * 96 ≤ 140737488355328) : slices_Clone_api_Value_api_Value v = some v := by
  unfold slices_Clone_api_Value_api_Value
  rw [apd_of (by simp only [List.length_nil, Nat.zero_add]; omega)]; simp
theorem cloneC_eq {v : List api_Col} (h : v.length * 24 ≤ 140737488355328) : slices_Clone_api_Col_api_Col v = some v := by
  unfold slices_Clone_api_Col_api_Col
  rw [apd_of (by simp only [List.length_nil, Nat.zero_add]; omega)]; simp
end Go.Proofs.YtchgiggipimigaaGreatDoor.M
end
section
namespace Go.Proofs.YtchgiggipimigaaGreatDoor.M
open Go Go.Eng Go.Proofs Go.RowKit
set_option maxRecDepth 100000
set_option linter.unusedVariables false
set_option linter.unusedSimpArgs false
theorem order_l0 {a b : List api_Value} (hn : a.length < 4611686018427387904) : ∀ (fuel i : Nat), i ≤ a.length → i ≤ b.length → a.length < i + fuel →
    slices_CompareFunc_api_Value_api_Value_api_Value_api_Value_f_value_Compare.l0 a b fuel (i : Int) = some (lexL cmpV (a.drop i) (b.drop i))
  | 0, i, _, _, h => by omega
  | fuel + 1, i, h1, h2, h3 => by
    rw [slices_CompareFunc_api_Value_api_Value_api_Value_api_Value_f_value_Compare.l0]
    by_cases hi : i < a.length
    · obtain ⟨x, hx, ex⟩ := getE hi
      rw [if_pos (dlt hi), ix_of hx, Option.bind_some, ex]
      by_cases hj : i < b.length
      · obtain ⟨y, hy, ey⟩ := getE hj
        rw [if_neg (dng hj), ix_of hy, Option.bind_some, cmpV_eq, Option.bind_some, ey, lexL]
        by_cases e : cmpV x y = 0
        · rw [if_neg (by simp [e]), if_pos e, w64_nat _ (by omega), order_l0 hn fuel (i + 1) (by omega) (by omega) (by omega)]
        · rw [if_pos (by simpa using e), if_neg e]
      · rw [if_pos (dge (by omega)), List.drop_of_length_le (l := b) (by omega)]; rfl
    · rw [if_neg (dnl (by omega)), List.drop_of_length_le (l := a) (by omega)]
      by_cases hj : a.length < b.length
      · obtain ⟨y, hy, ey⟩ := getE (l := b) (i := i) (by omega)
        rw [if_pos (dlt hj), ey]; rfl
      · rw [if_neg (dnl (by omega)), List.drop_of_length_le (l := b) (by omega)]; rfl
theorem torder_eq {a b : List api_Value} (hn : a.length < 4611686018427387904) : table_order a b = some (cmpR a b) := by
  unfold table_order slices_CompareFunc_api_Value_api_Value_api_Value_api_Value_f_value_Compare
  have := order_l0 (b := b) hn (a.length + 1) 0 (Nat.zero_le _) (Nat.zero_le _) (by omega)
  rw [fuel_nat, show (0 : Int) = ((0 : Nat) : Int) from rfl, this]; rfl
theorem sort_eq {xs : List (List api_Value)} (h : okRows xs) : slices_SortFunc_api_Value_api_Value_f_table_order xs = some (sortC cmpR xs) := by
  unfold slices_SortFunc_api_Value_api_Value_f_table_order
  exact sortBy_cmp cmpR_cmp cmpR_zero (fun x hx y hy => torder_eq (h.2 x hx)) h.1
theorem canon_l0 {t : api_Table} {cols : List api_Col} (hr : t.Rows.length * 24 ≤ 140737488355328) (hw : ∀ r ∈ t.Rows, r.length * 96 ≤ 140737488355328) : ∀ (fuel i : Nat), i ≤ t.Rows.length → t.Rows.length < i + fuel →
    table_Canon.l0 t cols fuel (t.Rows.take i) (i : Int) = some ⟨cols, sortC cmpR t.Rows⟩
  | 0, i, _, h => by omega
  | fuel + 1, i, h1, h2 => by
    rw [table_Canon.l0]
    by_cases hi : i < t.Rows.length
    · obtain ⟨r, hx, ex⟩ := getE hi
      rw [if_pos (dlt hi), ix_of hx, Option.bind_some, clone_eq (hw r (List.mem_of_getElem? hx)), Option.bind_some, apd_of (by simp only [List.length_take, List.length_singleton]; omega), Option.bind_some, w64_nat i (by omega)]
      have e : t.Rows.take i ++ [r] = t.Rows.take (i + 1) := by rw [List.take_add_one, hx]; rfl
      rw [e]
      exact canon_l0 hr hw fuel (i + 1) (by omega) (by omega)
    · rw [if_neg (dnl (by omega)), List.take_of_length_le (by omega), sort_eq ⟨by omega, fun r hx => by have := hw r hx; omega⟩]; rfl
theorem canon_eq' {t : api_Table} (hc : t.Cols.length * 24 ≤ 140737488355328) (hr : t.Rows.length * 24 ≤ 140737488355328) (hw : ∀ r ∈ t.Rows, r.length * 96 ≤ 140737488355328) : table_Canon t = some (canonS t) := by
  unfold table_Canon
  rw [cloneC_eq hc, Option.bind_some, fuel_nat]
  exact canon_l0 hr hw _ 0 (Nat.zero_le _) (by omega)
theorem canon_eq {t : api_Table} (h : szT t) : table_Canon t = some (canonS t) := canon_eq' (by have := h.c; omega) (by have := h.r; omega) (fun r hr => by have := h.w r hr; omega)
end Go.Proofs.YtchgiggipimigaaGreatDoor.M
end
section
namespace Go.Proofs.YtchgiggipimigaaGreatDoor.M
open Go Go.Eng Go.Proofs Go.RowKit
set_option maxRecDepth 100000
set_option linter.unusedVariables false
set_option linter.unusedSimpArgs false
def Sz (xs : List (List api_Value)) : Prop := xs.length * 24 ≤ 140737488355328 ∧ ∀ r ∈ xs, okRow r
theorem merge_l0 {a b : List (List api_Value)} (ha : Sz a) (hb : Sz b) (hs : (a.length + b.length) * 24 ≤ 140737488355328) : ∀ (fuel : Nat) (out : List (List api_Value)) (i k : Nat), i ≤ a.length → k ≤ b.length → (a.length - i) + (b.length - k) < fuel → out.length = i + k →
    ref02_sorted.l0 a b fuel out (i : Int) (k : Int) = some (out ++ (a.drop i).merge (b.drop k) (leC cmpR))
  | 0, out, i, k, _, _, h, _ => by omega
  | fuel + 1, out, i, k, h1, h2, h3, h4 => by
    have ha1 := ha.1
    have hb1 := hb.1
    have takeA : ∀ (hi : i < a.length), (∀ {r : List (List api_Value)}, a.drop i = a[i] :: a.drop (i + 1) → (a.drop i).merge (b.drop k) (leC cmpR) = a[i] :: (a.drop (i + 1)).merge (b.drop k) (leC cmpR)) →
        ref02_sorted.j2 (ref02_sorted.l0 a b fuel) a b out (i : Int) (k : Int) true = some (out ++ (a.drop i).merge (b.drop k) (leC cmpR)) := fun hi hm => by
      obtain ⟨x, hx, ex⟩ := getE hi
      have e : a[i] = x := by rw [List.getElem?_eq_getElem hi] at hx; exact Option.some.inj hx
      unfold ref02_sorted.j2
      rw [if_pos rfl, ix_of hx, Option.bind_some, apd_of (by simp only [List.length_singleton]; omega), Option.bind_some]
      unfold ref02_sorted.j3
      rw [w64_nat i (by omega), merge_l0 ha hb hs fuel (out ++ [x]) (i + 1) k (by omega) h2 (by omega) (by simp; omega), hm (r := []) (by rw [e]; exact ex), e]
      simp
    have takeB : ∀ (hk : k < b.length), (∀ {r : List (List api_Value)}, b.drop k = b[k] :: b.drop (k + 1) → (a.drop i).merge (b.drop k) (leC cmpR) = b[k] :: (a.drop i).merge (b.drop (k + 1)) (leC cmpR)) →
        ref02_sorted.j2 (ref02_sorted.l0 a b fuel) a b out (i : Int) (k : Int) false = some (out ++ (a.drop i).merge (b.drop k) (leC cmpR)) := fun hk hm => by
      obtain ⟨x, hx, ex⟩ := getE hk
      have e : b[k] = x := by rw [List.getElem?_eq_getElem hk] at hx; exact Option.some.inj hx
      unfold ref02_sorted.j2
      rw [if_neg (by simp), ix_of hx, Option.bind_some, apd_of (by simp only [List.length_singleton]; omega), Option.bind_some]
      unfold ref02_sorted.j3
      rw [w64_nat k (by omega), merge_l0 ha hb hs fuel (out ++ [x]) i (k + 1) h1 (by omega) (by omega) (by simp; omega), hm (r := []) (by rw [e]; exact ex), e]
      simp
    have body : i < a.length ∨ k < b.length → ref02_sorted.j1 (ref02_sorted.l0 a b fuel) a b out (i : Int) (k : Int) true = some (out ++ (a.drop i).merge (b.drop k) (leC cmpR)) := fun hor => by
      unfold ref02_sorted.j1
      rw [if_pos rfl]
      by_cases hk : k = b.length
      · rw [if_pos (by simp [hk])]
        refine takeA (by omega) fun e => ?_
        rw [List.drop_of_length_le (l := b) (by omega), List.merge_right, List.merge_right]; exact e
      · rw [if_neg (by simp; omega)]
        have hk' : k < b.length := by omega
        by_cases hi : i < a.length
        · obtain ⟨x, hx, ex⟩ := getE hi
          obtain ⟨y, hy, ey⟩ := getE hk'
          have e1 : a[i] = x := by rw [List.getElem?_eq_getElem hi] at hx; exact Option.some.inj hx
          have e2 : b[k] = y := by rw [List.getElem?_eq_getElem hk'] at hy; exact Option.some.inj hy
          rw [if_pos (dlt hi), ix_of hx, Option.bind_some, ix_of hy, Option.bind_some, refRow_eq (ha.2 x (List.mem_of_getElem? hx)), Option.bind_some]
          by_cases hc : cmpR x y ≤ 0
          · rw [show decide (cmpR x y ≤ 0) = true by simpa using hc]
            refine takeA hi fun _ => ?_
            rw [e1, ex, ey, List.cons_merge_cons, if_pos (by simpa [leC] using hc)]
          · rw [show decide (cmpR x y ≤ 0) = false by simpa using hc]
            refine takeB hk' fun _ => ?_
            rw [e2, ex, ey, List.cons_merge_cons, if_neg (by simpa [leC] using hc)]
        · rw [if_neg (dnl (by omega))]
          refine takeB hk' fun e => ?_
          rw [List.drop_of_length_le (l := a) (by omega), List.nil_merge, List.nil_merge]; exact e
    rw [ref02_sorted.l0]
    by_cases hi : i < a.length
    · rw [if_pos (dlt hi)]; exact body (Or.inl hi)
    · rw [if_neg (dnl (by omega))]
      by_cases hk : k < b.length
      · rw [show decide ((k : Int) < (b.length : Int)) = true from dlt hk]; exact body (Or.inr hk)
      · rw [show decide ((k : Int) < (b.length : Int)) = false by simpa using hk]
        unfold ref02_sorted.j1
        rw [if_neg (by simp), List.drop_of_length_le (l := a) (by omega), List.drop_of_length_le (l := b) (by omega), List.nil_merge, List.append_nil]
theorem sorted_r : ∀ (fuel : Nat) (xs : List (List api_Value)), xs.length < fuel → Sz xs → ref02_sorted.r fuel xs = some (sortC cmpR xs)
  | 0, xs, h, _ => by omega
  | fuel + 1, xs, h, hx => by
    have hx1 := hx.1
    rw [ref02_sorted.r, ref02_sorted.b]
    by_cases h2 : xs.length < 2
    · rw [if_pos (by simp; omega), apd_of (by simpa using hx1), Option.bind_some, List.nil_append]
      congr 1
      symm
      refine sortC_self cmpR_cmp cmpR_zero ?_
      match xs, h2 with
      | [], _ => exact List.Pairwise.nil
      | [x], _ => exact List.pairwise_singleton _ _
    · have hd : IntKind.i64.wrap ((xs.length : Int).tdiv 2) = ((xs.length / 2 : Nat) : Int) := by
        rw [Int.tdiv_eq_ediv_of_nonneg (by omega), w64 (by omega) (by omega)]; omega
      rw [if_neg (by simp; omega), hd, cut_of (by omega) (by omega) (by omega), Option.bind_some, cut_of (by omega) (by omega) (by omega)]
      simp only [Int.toNat_zero, List.drop_zero, Int.toNat_natCast, Nat.sub_zero, Option.bind_some]
      have eb : (xs.drop (xs.length / 2)).take (xs.length - xs.length / 2) = xs.drop (xs.length / 2) := List.take_of_length_le (by simp)
      rw [eb]
      have sa : Sz (xs.take (xs.length / 2)) := ⟨by rw [List.length_take]; omega, fun r hr => hx.2 r (List.mem_of_mem_take hr)⟩
      have sb : Sz (xs.drop (xs.length / 2)) := ⟨by rw [List.length_drop]; omega, fun r hr => hx.2 r (List.mem_of_mem_drop hr)⟩
      rw [sorted_r fuel _ (by rw [List.length_take]; omega) sa, Option.bind_some, sorted_r fuel _ (by rw [List.length_drop]; omega) sb, Option.bind_some]
      have ta : Sz (sortC cmpR (xs.take (xs.length / 2))) := ⟨by rw [sortC_len]; exact sa.1, fun r hr => sa.2 r (mem_sortC.1 hr)⟩
      have tb : Sz (sortC cmpR (xs.drop (xs.length / 2))) := ⟨by rw [sortC_len]; exact sb.1, fun r hr => sb.2 r (mem_sortC.1 hr)⟩
      have la : (sortC cmpR (xs.take (xs.length / 2))).length = xs.length / 2 := by rw [sortC_len, List.length_take]; omega
      have lb : (sortC cmpR (xs.drop (xs.length / 2))).length = xs.length - xs.length / 2 := by rw [sortC_len, List.length_drop]
      have hm := fun F hF => merge_l0 ta tb (by omega) F [] 0 0 (Nat.zero_le _) (Nat.zero_le _) hF rfl
      rw [show (0 : Int) = ((0 : Nat) : Int) from rfl, hm _ (by omega)]
      simp only [List.drop_zero, List.nil_append]
      congr 1
      refine asc_uniq cmpR_cmp cmpR_zero ?_ (sortC_asc cmpR_cmp xs) ?_
      · have := List.pairwise_merge (le := leC cmpR) (fun x y z h1 h2 => by
          simp only [leC, decide_eq_true_eq] at *
          exact cmpR_cmp.trans x y z h1 h2) (fun x y => by
          have := cmpR_cmp.flip x y
          simp only [leC, Bool.or_eq_true, decide_eq_true_eq]
          omega) (sortC cmpR (xs.take (xs.length / 2))) (sortC cmpR (xs.drop (xs.length / 2))) ((sortC_asc cmpR_cmp _).imp fun h => by simpa [leC] using h) ((sortC_asc cmpR_cmp _).imp fun h => by simpa [leC] using h)
        exact this.imp fun h => by simpa [leC] using h
      · refine (List.merge_perm_append (leC cmpR)).trans (((sortC_perm cmpR _).append (sortC_perm cmpR _)).trans ?_)
        rw [List.take_append_drop]
        exact (sortC_perm cmpR xs).symm
theorem sorted_eq {xs : List (List api_Value)} (h : Sz xs) : ref02_sorted xs = some (sortC cmpR xs) := sorted_r _ xs (Nat.lt_succ_self _) h
theorem szT.sz {t : api_Table} (h : szT t) : Sz t.Rows := ⟨by have := h.r; omega, fun r hr => h.row hr⟩
theorem rcanon_eq' {t : api_Table} (hc : t.Cols.length * 24 ≤ 140737488355328) (hr : Sz t.Rows) : ref02_Canon t = some (canonS t) := by
  unfold ref02_Canon
  rw [apd_of (by simpa using hc), Option.bind_some, sorted_eq hr, Option.bind_some, List.nil_append]; rfl
theorem rsc_l0 {a b : List api_Col} (hn : a.length < 4611686018427387904) (hl : a.length = b.length) : ∀ (fuel i : Nat), i ≤ a.length → a.length < i + fuel →
    ref02_SameCols.l0 a b fuel (i : Int) = some (decide (a.drop i = b.drop i))
  | 0, i, _, h => by omega
  | fuel + 1, i, h1, h2 => by
    rw [ref02_SameCols.l0]
    by_cases hi : i < a.length
    · obtain ⟨x, hx, ex⟩ := getE hi
      obtain ⟨y, hy, ey⟩ := getE (l := b) (i := i) (by omega)
      rw [if_pos (dlt hi), ix_of hx, Option.bind_some, ix_of hy, Option.bind_some, ex, ey, w64_nat i (by omega), rsc_l0 hn hl fuel (i + 1) (by omega) (by omega)]
      by_cases e : x = y <;> simp [e]
    · rw [if_neg (dnl (by omega)), List.drop_of_length_le (by omega), List.drop_of_length_le (by omega)]; simp
theorem rsc_eq {a b : List api_Col} (hn : a.length < 4611686018427387904) : ref02_SameCols a b = some (decide (a = b)) := by
  unfold ref02_SameCols
  by_cases hl : a.length = b.length
  · rw [if_neg (by simp [hl]), fuel_nat]
    exact rsc_l0 hn hl _ 0 (Nat.zero_le _) (by omega)
  · rw [if_pos (by simp; omega)]
    have : a ≠ b := fun e => hl (by rw [e])
    simp [this]
theorem rsm_l1 {a b : api_Table} (hn : Sz a.Rows) (hl : a.Rows.length = b.Rows.length) : ∀ (fuel i : Nat), i ≤ a.Rows.length → a.Rows.length < i + fuel →
    ref02_Same.l1 a b fuel (i : Int) = some (decide (a.Rows.drop i = b.Rows.drop i))
  | 0, i, _, h => by omega
  | fuel + 1, i, h1, h2 => by
    have hn1 := hn.1
    rw [ref02_Same.l1]
    by_cases hi : i < a.Rows.length
    · obtain ⟨x, hx, ex⟩ := getE hi
      obtain ⟨y, hy, ey⟩ := getE (l := b.Rows) (i := i) (by omega)
      rw [if_pos (dlt hi), ix_of hx, Option.bind_some, ix_of hy, Option.bind_some, refRow_eq (hn.2 x (List.mem_of_getElem? hx)), Option.bind_some, ex, ey, w64_nat i (by omega), rsm_l1 hn hl fuel (i + 1) (by omega) (by omega)]
      by_cases e : cmpR x y = 0
      · rw [if_neg (by simp [e])]
        have := cmpR_zero x y e
        simp [this]
      · have hne : x ≠ y := fun h => e (by rw [h]; exact cmpR_self y)
        rw [if_pos (by simpa using e)]
        simp [hne]
    · rw [if_neg (dnl (by omega)), List.drop_of_length_le (by omega), List.drop_of_length_le (by omega)]; simp
theorem rsame_eq' {a b : api_Table} (hc : a.Cols.length < 4611686018427387904) (hr : Sz a.Rows) : ref02_Same a b = some (decide (a = b)) := by
  unfold ref02_Same ref02_Same.j0
  rw [rsc_eq hc, Option.bind_some]
  obtain ⟨c, r⟩ := a
  obtain ⟨c', r'⟩ := b
  by_cases e : c = c'
  · subst e
    by_cases hl : r.length = r'.length
    · have := rsm_l1 (a := ⟨c, r⟩) (b := ⟨c, r'⟩) hr hl (r.length + 1) 0 (Nat.zero_le _) (by simp)
      simp only [decide_true, Bool.not_true, Bool.false_eq_true, if_false, hl, bne_self_eq_false, fuel_nat] at this ⊢
      rw [show ((0 : Nat) : Int) = 0 from rfl] at this
      rw [this]; simp
    · have : r ≠ r' := fun e => hl (by rw [e])
      simp [hl, this, show ¬ ((r.length : Int) = (r'.length : Int)) by omega]
  · simp [e]
theorem rsame_eq {a b : api_Table} (h : szT a) : ref02_Same a b = some (decide (a = b)) := rsame_eq' h.cols.1 h.sz
end Go.Proofs.YtchgiggipimigaaGreatDoor.M
end
section
namespace Go.Proofs.YtchgiggipimigaaGreatDoor.M
open Go Go.Eng Go.Proofs Go.RowKit
set_option maxRecDepth 100000
set_option linter.unusedVariables false
set_option linter.unusedSimpArgs false
def Byts (l : List Int) : Prop := ∀ x ∈ l, 0 ≤ x ∧ x < 256
theorem Byts.cons {c : Int} {l : List Int} : Byts (c :: l) ↔ (0 ≤ c ∧ c < 256) ∧ Byts l := by simp [Byts]
theorem Byts.append {a b : List Int} : Byts (a ++ b) ↔ Byts a ∧ Byts b := by
  simp only [Byts, List.mem_append]
  exact ⟨fun h => ⟨fun x hx => h x (Or.inl hx), fun x hx => h x (Or.inr hx)⟩, fun h x hx => hx.elim (h.1 x) (h.2 x)⟩
theorem Byts.drop {l : List Int} (h : Byts l) (k : Nat) : Byts (l.drop k) := fun x hx => h x (List.mem_of_mem_drop hx)
theorem Byts.take {l : List Int} (h : Byts l) (k : Nat) : Byts (l.take k) := fun x hx => h x (List.mem_of_mem_take hx)
theorem byts_sbytes (s : ByteArray) : Byts (sbytes s) := fun x hx => sbytes_range hx
theorem bstr_sbytes (s : ByteArray) : bstr (sbytes s) = s := by
  obtain ⟨⟨l⟩⟩ := s
  unfold bstr sbytes
  simp only [List.map_map]
  congr 2
  conv => rhs; rw [← List.map_id l]
  apply List.map_congr_left
  intro x hx
  show UInt8.ofNat ((x.toNat : Int)).toNat = x
  simp
theorem sbytes_bstr {l : List Int} (h : Byts l) : sbytes (bstr l) = l := by
  unfold bstr sbytes
  simp only [List.map_map]
  conv => rhs; rw [← List.map_id l]
  apply List.map_congr_left
  intro x hx
  obtain ⟨h0, h1⟩ := h x hx
  show ((UInt8.ofNat x.toNat).toNat : Int) = x
  rw [UInt8.toNat_ofNat']
  omega
theorem bstr_inj {a b : List Int} (ha : Byts a) (hb : Byts b) (h : bstr a = bstr b) : a = b := by rw [← sbytes_bstr ha, ← sbytes_bstr hb, h]
def pw (k : Nat) : Int := 256 ^ k
theorem pw_succ (k : Nat) : pw (k + 1) = 256 * pw k := by unfold pw; rw [Int.pow_succ]; omega
theorem pw_pos (k : Nat) : 0 < pw k := by
  induction k with
  | zero => decide
  | succ k ih => rw [pw_succ]; omega
def byteAt (n : Int) (i : Nat) : Int := n / pw i % 256
def bigS (n : Int) : Nat → List Int
  | 0 => []
  | k + 1 => byteAt n k :: bigS n k
theorem bigS_len (n : Int) : ∀ k, (bigS n k).length = k
  | 0 => rfl
  | k + 1 => by rw [bigS, List.length_cons, bigS_len n k]
theorem byteAt_range (n : Int) (i : Nat) : 0 ≤ byteAt n i ∧ byteAt n i < 256 := by unfold byteAt; omega
theorem byts_bigS (n : Int) : ∀ k, Byts (bigS n k)
  | 0 => by intro x hx; cases hx
  | k + 1 => by rw [bigS]; exact Byts.cons.2 ⟨byteAt_range _ _, byts_bigS n k⟩
def natV : List Int → Int
  | [] => 0
  | c :: r => c * pw r.length + natV r
theorem natV_bigS (n : Int) : ∀ k, natV (bigS n k) = n % pw k
  | 0 => by simp [natV, bigS, pw, Int.emod_one]
  | k + 1 => by
    rw [bigS, natV, bigS_len, natV_bigS n k, pw_succ]
    unfold byteAt
    have hp := pw_pos k
    generalize pw k = p at *
    have e1 := Int.mul_ediv_add_emod n p
    have e2 := Int.mul_ediv_add_emod (n / p) 256
    have e3 := Int.emod_nonneg n (show p ≠ 0 by omega)
    have e4 := Int.emod_lt_of_pos n hp
    have e5 := Int.emod_nonneg (n / p) (show (256 : Int) ≠ 0 by omega)
    have e6 := Int.emod_lt_of_pos (n / p) (show (0 : Int) < 256 by omega)
    generalize n / p % 256 = r1 at *
    generalize n % p = r0 at *
    generalize n / p / 256 = q at *
    generalize n / p = d at *
    have hn : n = (r1 * p + r0) + (256 * p) * q := by
      rw [← e1, ← e2, Int.mul_add, Int.mul_comm p r1, Int.mul_comm 256 p, Int.mul_assoc]
      omega
    have hlo : 0 ≤ r1 * p := Int.mul_nonneg e5 (by omega)
    have hhi : r1 * p ≤ 255 * p := Int.mul_le_mul_of_nonneg_right (by omega) (by omega)
    rw [hn, Int.add_mul_emod_self_left, Int.emod_eq_of_lt (by omega) (by omega)]
theorem w64_def (x : Int) : IntKind.i64.wrap x = if 9223372036854775808 ≤ x % 18446744073709551616 then x % 18446744073709551616 - 18446744073709551616 else x % 18446744073709551616 := by
  simp only [IntKind.wrap, IntKind.bits, IntKind.signed, Bool.true_and]
  split
  · rename_i h; simp at h; rw [if_pos (by omega)]; omega
  · rename_i h; simp at h; rw [if_neg (by omega)]; omega
theorem w64_add (x m : Int) : IntKind.i64.wrap (x + 18446744073709551616 * m) = IntKind.i64.wrap x := by
  rw [w64_def, w64_def, show (x + 18446744073709551616 * m) % 18446744073709551616 = x % 18446744073709551616 by omega]
theorem w64_mod (x : Int) : ∃ m, IntKind.i64.wrap x = x + 18446744073709551616 * m := by
  rw [w64_def]
  split
  · exact ⟨-(x / 18446744073709551616) - 1, by omega⟩
  · exact ⟨-(x / 18446744073709551616), by omega⟩
theorem w64_in (x p y : Int) : IntKind.i64.wrap (IntKind.i64.wrap x * p + y) = IntKind.i64.wrap (x * p + y) := by
  obtain ⟨m, h⟩ := w64_mod x
  rw [h, show (x + 18446744073709551616 * m) * p + y = (x * p + y) + 18446744073709551616 * (m * p) by rw [Int.add_mul, Int.mul_assoc]; omega, w64_add]
theorem w64_bv (b : BitVec 64) : IntKind.i64.wrap b.toNat = b.toInt := by
  have := b.isLt
  rw [BitVec.toInt_eq_toNat_cond, w64_def]
  by_cases h : 2 * b.toNat < 2 ^ 64
  · rw [if_pos h, if_neg (by omega)]; omega
  · rw [if_neg h, if_pos (by omega)]; omega
theorem toInt_w (x : Int) : (BitVec.ofInt 64 x).toInt = IntKind.i64.wrap x := by
  rw [← w64_bv, BitVec.toNat_ofInt]
  obtain ⟨m, h⟩ := w64_mod x
  have : ((x % ((2 ^ 64 : Nat) : Int)).toNat : Int) = x % 18446744073709551616 := by
    show ((x % 18446744073709551616).toNat : Int) = _
    omega
  rw [this]
  have e : x % 18446744073709551616 = x + 18446744073709551616 * (-(x / 18446744073709551616)) := by omega
  rw [e, w64_add]
def shl8 (n c : Int) : Int := IntKind.i64.wrap (BitVec.ofInt 64 (IntKind.i64.wrap (n * 2 ^ (min (8 : Int).toNat 64))) ||| BitVec.ofInt 64 (IntKind.i64.wrap c)).toNat
theorem ofInt_w (x : Int) : BitVec.ofInt 64 (IntKind.i64.wrap x) = BitVec.ofInt 64 x := by
  apply BitVec.toInt_inj.1
  rw [toInt_w, toInt_w, w64 (w64_range x).1 (w64_range x).2]
theorem shl8_eq (n : Int) {c : Int} (h0 : 0 ≤ c) (h1 : c < 256) : shl8 n c = IntKind.i64.wrap (n * 256 + c) := by
  unfold shl8
  rw [ofInt_w, ofInt_w, show n * 2 ^ (min (8 : Int).toNat 64) = n * 256 from rfl]
  have hand : BitVec.ofInt 64 (n * 256) &&& BitVec.ofInt 64 c = 0#64 := by
    have hx : BitVec.ofInt 64 (n * 256) = BitVec.ofInt 64 n <<< 8 := by
      rw [BitVec.shiftLeft_eq_mul_twoPow]
      rw [BitVec.ofInt_mul]
      rfl
    have hc : BitVec.ofInt 64 c = (BitVec.ofNat 8 c.toNat).setWidth 64 := by
      apply BitVec.eq_of_toNat_eq
      rw [BitVec.toNat_ofInt, BitVec.toNat_setWidth, BitVec.toNat_ofNat]
      show (c % 18446744073709551616).toNat = c.toNat % 256 % 18446744073709551616
      omega
    rw [hx, hc]
    apply BitVec.eq_of_getLsbD_eq
    intro i hi
    simp only [BitVec.getLsbD_and, BitVec.getLsbD_shiftLeft, BitVec.getLsbD_setWidth, BitVec.getLsbD_zero]
    by_cases h : i < 8
    · simp [h]
    · have : (BitVec.ofNat 8 c.toNat).getLsbD i = false := BitVec.getLsbD_of_ge _ _ (by omega)
      simp [this]
  rw [← BitVec.add_eq_or_of_and_eq_zero _ _ hand, ← BitVec.ofInt_add, w64_bv, toInt_w]
def smallS (b : List Int) : Int := b.foldl shl8 0
theorem small_fold : ∀ (l : List Int) (a : Int), Byts l → IntKind.i64.wrap a = a → l.foldl shl8 a = IntKind.i64.wrap (a * pw l.length + natV l)
  | [], a, _, ha => by simp [natV, pw, ha]
  | c :: r, a, h, ha => by
    obtain ⟨⟨h0, h1⟩, h2⟩ := Byts.cons.1 h
    rw [List.foldl_cons, shl8_eq a h0 h1, small_fold r _ h2 (w64 (w64_range _).1 (w64_range _).2), w64_in, natV, List.length_cons, pw_succ]
    congr 1
    rw [Int.add_mul, Int.mul_assoc]
    omega
theorem small_eq {l : List Int} (h : Byts l) : smallS l = IntKind.i64.wrap (natV l) := by
  unfold smallS
  rw [small_fold l 0 h (by decide)]
  congr 1; omega
theorem small_big8 {n : Int} (h0 : -9223372036854775808 ≤ n) (h1 : n ≤ 9223372036854775807) : smallS (bigS n 8) = n := by
  rw [small_eq (byts_bigS n 8), natV_bigS]
  have e : pw 8 = 18446744073709551616 := by decide
  rw [e]
  have : n % 18446744073709551616 = n + 18446744073709551616 * (-(n / 18446744073709551616)) := by omega
  rw [this, w64_add, w64 h0 h1]
end Go.Proofs.YtchgiggipimigaaGreatDoor.M
end
section
namespace Go.Proofs.YtchgiggipimigaaGreatDoor.M
open Go Go.Eng Go.Proofs Go.RowKit
set_option maxRecDepth 100000
set_option linter.unusedVariables false
set_option linter.unusedSimpArgs false
def In64 (x : Int) : Prop := -9223372036854775808 ≤ x ∧ x ≤ 9223372036854775807
def wfV (v : api_Value) : Prop := In64 v.N ∧ ∀ x ∈ v.H.list, In64 x
def E0 : ByteArray := ⟨#[]⟩
def histB (h : Arr8) : List Int := bigS h.a0 8 ++ (bigS h.a1 8 ++ (bigS h.a2 8 ++ (bigS h.a3 8 ++ (bigS h.a4 8 ++ (bigS h.a5 8 ++ (bigS h.a6 8 ++ bigS h.a7 8))))))
def valS (v : api_Value) : List Int := if v.Kind = 1 then bigS v.N 8 else if v.Kind = 2 then (v.S.size : Int) :: sbytes v.S else if v.Kind = 3 then [v.N] else histB v.H
def histS (b : List Int) : Arr8 := ⟨smallS (b.take 8), smallS ((b.drop 8).take 8), smallS ((b.drop 16).take 8), smallS ((b.drop 24).take 8), smallS ((b.drop 32).take 8), smallS ((b.drop 40).take 8), smallS ((b.drop 48).take 8), smallS ((b.drop 56).take 8)⟩
def takeS (k : Int) (b : List Int) : Option (api_Value × List Int) :=
  if k = 1 then (if 8 ≤ b.length then some (⟨1, smallS (b.take 8), E0, H0⟩, b.drop 8) else none)
  else if k = 2 then (match b with
    | [] => none
    | c :: r => if c ≤ r.length ∧ c ≤ 64 then some (⟨2, 0, bstr (r.take c.toNat), H0⟩, r.drop c.toNat) else none)
  else if k = 3 then (match b with
    | [] => none
    | c :: r => if c = 0 ∨ c = 1 then some (⟨3, c, E0, H0⟩, r) else none)
  else if k = 4 then (if 64 ≤ b.length then some (⟨4, 0, E0, histS b⟩, b.drop 64) else none)
  else none
theorem validS_kind {v : api_Value} (h : validS v = true) : v.Kind = 1 ∨ v.Kind = 2 ∨ v.Kind = 3 ∨ v.Kind = 4 := by
  unfold validS at h
  split at h
  · exact Or.inl (by assumption)
  · split at h
    · exact Or.inr (Or.inl (by assumption))
    · split at h
      · exact Or.inr (Or.inr (Or.inl (by assumption)))
      · split at h
        · exact Or.inr (Or.inr (Or.inr (by assumption)))
        · cases h
theorem byts_histB (h : Arr8) : Byts (histB h) := by
  unfold histB
  simp only [Byts.append, byts_bigS, and_self]
theorem histB_len (h : Arr8) : (histB h).length = 64 := by simp [histB, bigS_len]
theorem byts_valS {v : api_Value} (h : validS v = true) : Byts (valS v) := by
  unfold valS
  unfold validS at h
  split
  · exact byts_bigS _ _
  · rename_i h1
    rw [if_neg h1] at h
    split
    · rename_i h2
      rw [if_pos h2] at h
      simp only [decide_eq_true_eq] at h
      exact Byts.cons.2 ⟨by omega, byts_sbytes _⟩
    · rename_i h2
      rw [if_neg h2] at h
      split
      · rename_i h3
        rw [if_pos h3] at h
        simp only [decide_eq_true_eq] at h
        refine Byts.cons.2 ⟨by omega, fun x hx => by cases hx⟩
      · exact byts_histB _
theorem valS_len {v : api_Value} (h : validS v = true) : (valS v).length ≤ 65 := by
  unfold valS
  unfold validS at h
  split
  · rw [bigS_len]; omega
  · rename_i h1
    rw [if_neg h1] at h
    split
    · rename_i h2
      rw [if_pos h2] at h
      simp only [decide_eq_true_eq] at h
      rw [List.length_cons, sbytes_len]; omega
    · split
      · simp
      · rw [histB_len]; omega
theorem take8 (x : Int) (l : List Int) : (bigS x 8 ++ l).take 8 = bigS x 8 := by rw [List.take_append_of_le_length (by rw [bigS_len]; omega), List.take_of_length_le (by rw [bigS_len]; omega)]
theorem drop8 (x : Int) (l : List Int) (k : Nat) : (bigS x 8 ++ l).drop (8 + k) = l.drop k := by rw [List.drop_append, List.drop_of_length_le (by rw [bigS_len]; omega), bigS_len]; simp
theorem histS_histB {h : Arr8} (hh : ∀ x ∈ h.list, In64 x) (r : List Int) : histS (histB h ++ r) = h := by
  obtain ⟨a0, a1, a2, a3, a4, a5, a6, a7⟩ := h
  simp only [Arr8.list, List.mem_cons, List.not_mem_nil, or_false, forall_eq_or_imp, forall_eq] at hh
  obtain ⟨h0, h1, h2, h3, h4, h5, h6, h7⟩ := hh
  unfold histS histB
  simp only [List.append_assoc]
  rw [show (16 : Nat) = 8 + 8 from rfl, show (24 : Nat) = 8 + (8 + 8) from rfl, show (32 : Nat) = 8 + (8 + (8 + 8)) from rfl, show (40 : Nat) = 8 + (8 + (8 + (8 + 8))) from rfl, show (48 : Nat) = 8 + (8 + (8 + (8 + (8 + 8)))) from rfl, show (56 : Nat) = 8 + (8 + (8 + (8 + (8 + (8 + 8))))) from rfl]
  simp only [drop8, take8, small_big8 h0.1 h0.2, small_big8 h7.1 h7.2]
  have e : ∀ (x : Int) (l : List Int), (bigS x 8 ++ l).drop 8 = l := fun x l => by simpa using drop8 x l 0
  simp only [e, take8, small_big8 h1.1 h1.2, small_big8 h2.1 h2.2, small_big8 h3.1 h3.2, small_big8 h4.1 h4.2, small_big8 h5.1 h5.2, small_big8 h6.1 h6.2, small_big8 h7.1 h7.2]
theorem take_put {v : api_Value} (h : validS v = true) (hw : wfV v) (r : List Int) : takeS v.Kind (valS v ++ r) = some (v, r) := by
  obtain ⟨k, n, s, hh⟩ := v
  unfold validS at h
  unfold takeS valS
  simp only at h ⊢
  by_cases h1 : k = 1
  · subst h1
    simp only [if_pos, decide_eq_true_eq] at h ⊢
    obtain ⟨rfl, rfl⟩ := h
    rw [if_pos (by simp [bigS_len]), take8, small_big8 hw.1.1 hw.1.2]
    have : (bigS n 8 ++ r).drop 8 = r := by simpa using drop8 n r 0
    rw [this]; rfl
  · by_cases h2 : k = 2
    · subst h2
      simp only [if_neg h1, if_pos, decide_eq_true_eq] at h ⊢
      obtain ⟨rfl, rfl, h3⟩ := h
      have hl := sbytes_len s
      simp only [List.cons_append, List.length_append, hl]
      rw [if_pos (by omega), Int.toNat_natCast, List.take_append_of_le_length (by omega), List.take_of_length_le (by omega), bstr_sbytes, List.drop_append_of_le_length (by omega), List.drop_of_length_le (by omega)]
      rfl
    · by_cases h3 : k = 3
      · subst h3
        simp only [if_neg h1, if_neg h2, if_pos, decide_eq_true_eq] at h ⊢
        obtain ⟨h4, rfl, rfl⟩ := h
        simp only [List.cons_append, List.nil_append]
        rw [if_pos h4]; rfl
      · by_cases h4 : k = 4
        · subst h4
          simp only [if_neg h1, if_neg h2, if_neg h3, if_pos, decide_eq_true_eq] at h ⊢
          obtain ⟨rfl, rfl⟩ := h
          rw [if_pos (by simp [histB_len]), histS_histB hw.2, List.drop_append_of_le_length (by rw [histB_len]; omega), List.drop_of_length_le (by rw [histB_len]; omega)]
          rfl
        · simp only [if_neg h1, if_neg h2, if_neg h3, if_neg h4] at h
          cases h
end Go.Proofs.YtchgiggipimigaaGreatDoor.M
end
section
namespace Go.Proofs.YtchgiggipimigaaGreatDoor.M
open Go Go.Eng Go.Proofs Go.RowKit
set_option maxRecDepth 100000
set_option linter.unusedVariables false
set_option linter.unusedSimpArgs false
theorem pw2 : ∀ {i : Nat}, i < 8 → (2 : Int) ^ (min (8 * i) 64) = pw i
  | 0, _ => rfl
  | 1, _ => rfl
  | 2, _ => rfl
  | 3, _ => rfl
  | 4, _ => rfl
  | 5, _ => rfl
  | 6, _ => rfl
  | 7, _ => rfl
theorem u8w (x : Int) : IntKind.u8.wrap x = x % 256 := by
  simp only [IntKind.wrap, IntKind.bits, IntKind.signed, Bool.false_and, Bool.false_eq_true, if_false]
  rfl
theorem byte_eq (n : Int) (k : Nat) (h : k < 8) : IntKind.u8.wrap (n.fdiv (2 ^ (min (8 * (k : Int)).toNat 64))) = byteAt n k := by
  rw [show (8 * (k : Int)).toNat = 8 * k by omega, pw2 h, u8w, Int.fdiv_eq_ediv_of_nonneg _ (by have := pw_pos k; omega)]
  rfl
theorem wire_big_l0 (n a2 : Int) : ∀ (k fuel : Nat) (acc : List Int), k ≤ 8 → k < fuel → acc.length + k ≤ 140737488355328 → wire_big.l0 n a2 fuel acc ((k : Int) - 1) = some (acc ++ bigS n k)
  | 0, fuel + 1, acc, _, _, _ => by rw [wire_big.l0, if_neg (by simp)]; simp [bigS]
  | k + 1, fuel + 1, acc, h, hf, hl => by
    have e : ((k + 1 : Nat) : Int) - 1 = (k : Int) := by omega
    have e2 : IntKind.i64.wrap (8 * (k : Int)) = 8 * (k : Int) := w64 (by omega) (by omega)
    have e3 : IntKind.i64.wrap ((k : Int) - 1) = (k : Int) - 1 := w64 (by omega) (by omega)
    rw [e, wire_big.l0, if_pos (by simp), e2, if_pos (by simp; omega), byte_eq n k (by omega), apd_of (by simp; omega), Option.bind_some, e3, wire_big_l0 n a2 k fuel _ (by omega) (by omega) (by simp; omega)]
    simp [bigS]
theorem wire_big_eq (b : List Int) (n : Int) {k : Nat} (hk : k ≤ 8) (hl : b.length + k ≤ 140737488355328) : wire_big b n (k : Int) = some (b ++ bigS n k) := by
  unfold wire_big
  rw [w64 (by omega) (by omega)]
  exact wire_big_l0 n _ k _ b hk (by omega) hl
theorem histB_list (h : Arr8) : histB h = h.list.flatMap (bigS · 8) := by simp [histB, Arr8.list]
theorem sz1 (n : Nat) (h : n < 256) : IntKind.u8.wrap (n : Int) = (n : Int) := by rw [u8w]; omega
theorem wput_l0 (v : api_Value) : ∀ (d i fuel : Nat) (acc : List Int), i + d = 8 → d < fuel → acc.length + 8 * d ≤ 140737488355328 → wire_put.l0 v fuel acc (i : Int) = some (acc ++ (v.H.list.drop i).flatMap (bigS · 8))
  | 0, i, fuel + 1, acc, h, _, hl => by
    rw [wire_put.l0, if_neg (by simp; omega), List.drop_of_length_le (by simp [Arr8.list]; omega)]; simp
  | d + 1, i, fuel + 1, acc, h, hf, hl => by
    have hlen : v.H.list.length = 8 := rfl
    obtain ⟨x, hx, ex⟩ := getE (l := v.H.list) (i := i) (by omega)
    have e8 : wire_big acc x 8 = some (acc ++ bigS x 8) := wire_big_eq acc x (k := 8) (Nat.le_refl _) (by omega)
    rw [wire_put.l0, if_pos (by simp; omega), Arr8.ix, ix_of hx, Option.bind_some, e8, Option.bind_some, w64_nat i (by omega), wput_l0 v d (i + 1) fuel _ (by omega) (by omega) (by simp [bigS_len]; omega), ex]
    simp
theorem wput_eq {b : List Int} {v : api_Value} (h : validS v = true) (hl : b.length + 65 ≤ 140737488355328) : wire_put b v = some (b ++ valS v) := by
  unfold wire_put valS
  have hv := h
  unfold validS at hv
  have e8 : wire_big b v.N 8 = some (b ++ bigS v.N 8) := wire_big_eq b v.N (k := 8) (Nat.le_refl _) (by omega)
  by_cases h1 : v.Kind = 1
  · rw [if_pos (by simpa using h1), if_pos h1, e8]; rfl
  · rw [if_neg (by simpa using h1), if_neg h1]
    rw [if_neg h1] at hv
    by_cases h2 : v.Kind = 2
    · rw [if_pos h2] at hv
      simp only [decide_eq_true_eq] at hv
      have := sbytes_len v.S
      rw [if_pos (by simpa using h2), if_pos h2, sz1 _ (by omega), apd_of (by simp; omega), Option.bind_some, apd_of (by simp; omega), Option.bind_some]
      simp
    · rw [if_neg (by simpa using h2), if_neg h2]
      rw [if_neg h2] at hv
      by_cases h3 : v.Kind = 3
      · rw [if_pos h3] at hv
        simp only [decide_eq_true_eq] at hv
        rw [if_pos (by simpa using h3), if_pos h3, apd_of (by simp; omega), Option.bind_some, u8w]
        have : v.N % 256 = v.N := by omega
        rw [this]
      · rw [if_neg (by simpa using h3), if_neg h3, histB_list]
        exact wput_l0 v 8 0 _ b rfl (by decide) (by omega)
def putS (b : List Int) (v : api_Value) : List Int × Int := if validS v = true then (b ++ valS v, 0) else ([], 10)
theorem wPut_eq {b : List Int} {v : api_Value} (hl : b.length + 65 ≤ 140737488355328) : wire_Put b v = some (putS b v) := by
  unfold wire_Put putS slices_Clone_byte_byte
  rw [valid_eq, Option.bind_some]
  by_cases h : validS v = true
  · rw [if_neg (by simp [h]), if_pos h, apd_of (by simp; omega), Option.bind_some, Option.bind_some, List.nil_append, wput_eq h hl]; rfl
  · rw [if_pos (by simpa using h), if_neg h]
end Go.Proofs.YtchgiggipimigaaGreatDoor.M
end
section
namespace Go.Proofs.YtchgiggipimigaaGreatDoor.M
open Go Go.Eng Go.Proofs Go.RowKit
set_option maxRecDepth 100000
set_option linter.unusedVariables false
set_option linter.unusedSimpArgs false
def dval (l : List UInt8) : Nat := l.foldl (fun a b => a * 10 + (b.toNat - 48)) 0
theorem dig_nat {d : Nat} (h : d < 10) : (UInt8.ofNat (48 + d)).toNat = 48 + d := by rw [UInt8.toNat_ofNat']; omega
theorem dval_dec (u : Nat) : dval (Lib.decDigits u) = u := by
  induction u using Nat.strongRecOn with
  | _ u ih =>
    rw [Lib.decDigits]
    by_cases h : u < 10
    · rw [dif_pos h]; simp only [dval, List.foldl_cons, List.foldl_nil, dig_nat h]; omega
    · rw [dif_neg h]
      have := ih (u / 10) (by omega)
      unfold dval at *
      rw [List.foldl_append, this]
      simp only [List.foldl_cons, List.foldl_nil, dig_nat (show u % 10 < 10 by omega)]
      omega
theorem dec_inj {u w : Nat} (h : Lib.decDigits u = Lib.decDigits w) : u = w := by rw [← dval_dec u, h, dval_dec]
theorem dec_mem (u : Nat) : ∀ b ∈ Lib.decDigits u, 48 ≤ b.toNat ∧ b.toNat ≤ 57 := by
  induction u using Nat.strongRecOn with
  | _ u ih =>
    intro b hb
    rw [Lib.decDigits] at hb
    by_cases h : u < 10
    · rw [dif_pos h] at hb
      simp only [List.mem_singleton] at hb
      subst hb
      rw [dig_nat h]; omega
    · rw [dif_neg h] at hb
      rcases List.mem_append.1 hb with hb | hb
      · exact ih (u / 10) (by omega) b hb
      · simp only [List.mem_singleton] at hb
        subst hb
        rw [dig_nat (by omega)]; omega
theorem itoa_mem (n : Int) : ∀ b ∈ Lib.itoa n, b.toNat = 45 ∨ (48 ≤ b.toNat ∧ b.toNat ≤ 57) := by
  intro b hb
  unfold Lib.itoa at hb
  split at hb
  · rcases List.mem_cons.1 hb with rfl | hb
    · exact Or.inl rfl
    · exact Or.inr (dec_mem _ b hb)
  · exact Or.inr (dec_mem _ b hb)
theorem itoa_inj {n m : Int} (h : Lib.itoa n = Lib.itoa m) : n = m := by
  unfold Lib.itoa at h
  have hd : ∀ (u w : Nat), (45 : UInt8) :: Lib.decDigits u ≠ Lib.decDigits w := fun u w e => by
    have := dec_mem w 45 (by rw [← e]; exact List.mem_cons_self ..)
    have e45 : (45 : UInt8).toNat = 45 := rfl
    omega
  split at h
  · split at h
    · have := dec_inj (List.cons.inj h).2; omega
    · exact absurd h (hd _ _)
  · split at h
    · exact absurd h.symm (hd _ _)
    · have := dec_inj h; omega
end Go.Proofs.YtchgiggipimigaaGreatDoor.M
end
section
namespace Go.Proofs.YtchgiggipimigaaGreatDoor.M
open Go Go.Eng Go.Proofs Go.RowKit
set_option maxRecDepth 100000
set_option linter.unusedVariables false
set_option linter.unusedSimpArgs false
theorem index_iff (sub : List UInt8) : ∀ s : List UInt8, 0 ≤ Lib.index s sub ↔ sub <:+: s
  | [] => by
    unfold Lib.index
    cases sub with
    | nil => simp
    | cons a r => simp
  | b :: l => by
    have ih := index_iff sub l
    have hg := Lib.index_ge l sub
    unfold Lib.index
    rw [List.infix_cons_iff]
    by_cases h : sub.isPrefixOf (b :: l) = true
    · rw [if_pos h]
      exact ⟨fun _ => Or.inl (List.isPrefixOf_iff_prefix.1 h), fun _ => by omega⟩
    · rw [if_neg h]
      have hp : ¬ sub <+: b :: l := fun hp => h (List.isPrefixOf_iff_prefix.2 hp)
      by_cases h1 : Lib.index l sub = -1
      · rw [if_pos (by simp [h1])]
        have : ¬ sub <:+: l := fun hi => by have := ih.2 hi; omega
        constructor
        · intro h; omega
        · rintro (h | h)
          · exact absurd h hp
          · exact absurd h this
      · rw [if_neg (by simpa using h1)]
        constructor
        · intro _; exact Or.inr (ih.1 (by omega))
        · rintro (h | h)
          · exact absurd h hp
          · have := ih.2 h; omega
theorem contains_iff (s sub : List UInt8) : Lib.contains s sub = true ↔ sub <:+: s := by
  unfold Lib.contains
  rw [decide_eq_true_eq]; exact index_iff sub s
def spaced (ws : List (List UInt8)) : List UInt8 := 32 :: ws.flatMap fun w => w ++ [32]
theorem infix_app {p x y : List UInt8} {a : UInt8} {r : List UInt8} (hp : p = a :: r) (hx : a ∉ x) : p <:+: x ++ y ↔ p <:+: y := by
  induction x with
  | nil => simp
  | cons b x ih =>
    simp only [List.mem_cons, not_or] at hx
    rw [List.cons_append, List.infix_cons_iff, ih hx.2]
    constructor
    · rintro (h | h)
      · subst hp
        rw [List.cons_prefix_cons] at h
        exact absurd h.1 hx.1
      · exact h
    · exact Or.inr
theorem pre_word {w v y : List UInt8} (hw : (32 : UInt8) ∉ w) (hv : (32 : UInt8) ∉ v) : w ++ [32] <+: v ++ 32 :: y ↔ w = v := by
  induction w generalizing v with
  | nil =>
    cases v with
    | nil => simp
    | cons c v =>
      simp only [List.mem_cons, not_or] at hv
      simp only [List.nil_append, List.cons_append, List.cons_prefix_cons, List.nil_prefix, and_true]
      exact ⟨fun h => absurd h hv.1, fun h => by cases h⟩
  | cons c w ih =>
    simp only [List.mem_cons, not_or] at hw
    cases v with
    | nil =>
      simp only [List.nil_append, List.cons_append, List.cons_prefix_cons]
      exact ⟨fun h => absurd h.1.symm hw.1, fun h => by cases h⟩
    | cons d v =>
      simp only [List.mem_cons, not_or] at hv
      simp only [List.cons_append, List.cons_prefix_cons, ih hw.2 hv.2, List.cons.injEq]
theorem word_in {w : List UInt8} (hw : (32 : UInt8) ∉ w) : ∀ (ws : List (List UInt8)), (∀ v ∈ ws, (32 : UInt8) ∉ v) → (32 :: w ++ [32] <:+: spaced ws ↔ w ∈ ws)
  | [], _ => by
    unfold spaced
    simp only [List.flatMap_nil, List.not_mem_nil, iff_false]
    intro h
    have := h.length_le
    simp at this
  | v :: ws, h => by
    have hv := h v (by simp)
    have ih := word_in hw ws (fun u hu => h u (by simp [hu]))
    have e : spaced (v :: ws) = 32 :: (v ++ spaced ws) := by unfold spaced; simp
    rw [e, List.infix_cons_iff, List.cons_append, List.cons_prefix_cons, infix_app (a := 32) (r := w ++ [32]) rfl hv]
    rw [List.cons_append] at ih
    rw [ih]
    unfold spaced
    rw [pre_word hw hv, List.mem_cons]
    simp
def takenW : List ByteArray := [(⟨#[102, 101, 116, 99, 104]⟩ : ByteArray), (⟨#[102, 114, 111, 109]⟩ : ByteArray), (⟨#[116, 111]⟩ : ByteArray), (⟨#[119, 104, 101, 114, 101]⟩ : ByteArray), (⟨#[107, 101, 101, 112]⟩ : ByteArray), (⟨#[97, 108, 105, 103, 110]⟩ : ByteArray), (⟨#[103, 114, 111, 117, 112]⟩ : ByteArray), (⟨#[116, 111, 112]⟩ : ByteArray), (⟨#[98, 121]⟩ : ByteArray), (⟨#[106, 111, 105, 110]⟩ : ByteArray), (⟨#[117, 110, 105, 111, 110]⟩ : ByteArray), (⟨#[97, 110, 100]⟩ : ByteArray), (⟨#[111, 114]⟩ : ByteArray), (⟨#[110, 111, 116]⟩ : ByteArray), (⟨#[104, 97, 115]⟩ : ByteArray), (⟨#[116, 114, 117, 101]⟩ : ByteArray), (⟨#[102, 97, 108, 115, 101]⟩ : ByteArray), (⟨#[99, 111, 117, 110, 116]⟩ : ByteArray), (⟨#[115, 117, 109]⟩ : ByteArray), (⟨#[109, 105, 110]⟩ : ByteArray), (⟨#[109, 97, 120]⟩ : ByteArray), (⟨#[109, 101, 97, 110]⟩ : ByteArray), (⟨#[109, 101, 114, 103, 101]⟩ : ByteArray), (⟨#[116, 105, 109, 101]⟩ : ByteArray)]
def notin (s : ByteArray) (ws : List ByteArray) : Bool := ws.all fun w => decide (s ≠ w)
theorem notin_iff {s : ByteArray} {ws : List ByteArray} : notin s ws = true ↔ s ∉ ws := by
  unfold notin
  simp only [List.all_eq_true, decide_eq_true_eq]
  exact ⟨fun h hm => h s hm rfl, fun h w hw e => h (e ▸ hw)⟩
def wordS (s : ByteArray) : Bool := nameS s && (sbytes s).all (fun c => decide (c ≠ 35)) && notin s takenW
theorem name_size {s : ByteArray} (h : nameS s = true) : s.size ≤ 24 := by
  unfold nameS at h
  split at h
  · cases h
  · simp only [Bool.and_eq_true, decide_eq_true_eq] at h; exact h.2
theorem name_nm {s : ByteArray} (h : nameS s = true) : ∀ c ∈ sbytes s, nm c = true := by
  unfold nameS at h
  split at h
  · cases h
  · rename_i c r e
    simp only [Bool.and_eq_true, decide_eq_true_eq, List.all_eq_true] at h
    rw [e]
    intro x hx
    cases hx with
    | head => have := h.1.1; unfold az at this; unfold nm; simp only [decide_eq_true_eq] at *; omega
    | tail _ hx => exact h.1.2 x hx
theorem mem_sb {s : ByteArray} {b : UInt8} : b ∈ s.data.toList ↔ (b.toNat : Int) ∈ sbytes s := by
  unfold sbytes
  rw [List.mem_map]
  constructor
  · intro h; exact ⟨b, h, rfl⟩
  · rintro ⟨c, h1, h2⟩
    have : c = b := UInt8.toNat_inj.1 (by exact_mod_cast h2)
    rw [← this]; exact h1
theorem ba_inj {s t : ByteArray} (h : s.data.toList = t.data.toList) : s = t := by
  obtain ⟨⟨x⟩⟩ := s
  obtain ⟨⟨y⟩⟩ := t
  simp at h; subst h; rfl
theorem con_eq {s t : ByteArray} (h : s.size < 4294967281) : strings_Contains s t = some (Lib.contains s.data.toList t.data.toList) := by
  unfold strings_Contains; rw [if_pos h]
theorem hash_eq (s : ByteArray) : Lib.contains s.data.toList (⟨#[35]⟩ : ByteArray).data.toList = !((sbytes s).all fun c => decide (c ≠ 35)) := by
  have h1 : (⟨#[35]⟩ : ByteArray).data.toList = [35] := rfl
  rw [h1, Bool.eq_iff_iff, contains_iff]
  have h2 : [(35 : UInt8)] <:+: s.data.toList ↔ (35 : UInt8) ∈ s.data.toList := by
    generalize s.data.toList = l
    induction l with
    | nil => simp
    | cons a l ih => rw [List.infix_cons_iff, ih, List.cons_prefix_cons, List.mem_cons]; simp
  rw [h2, mem_sb]
  simp only [Bool.not_eq_true', List.all_eq_false, decide_eq_true_eq, ne_eq, Decidable.not_not, exists_eq_right]
  rfl
def takenL : ByteArray := ⟨#[32, 102, 101, 116, 99, 104, 32, 102, 114, 111, 109, 32, 116, 111, 32, 119, 104, 101, 114, 101, 32, 107, 101, 101, 112, 32, 97, 108, 105, 103, 110, 32, 103, 114, 111, 117, 112, 32, 116, 111, 112, 32, 98, 121, 32, 106, 111, 105, 110, 32, 117, 110, 105, 111, 110, 32, 97, 110, 100, 32, 111, 114, 32, 110, 111, 116, 32, 104, 97, 115, 32, 116, 114, 117, 101, 32, 102, 97, 108, 115, 101, 32, 99, 111, 117, 110, 116, 32, 115, 117, 109, 32, 109, 105, 110, 32, 109, 97, 120, 32, 109, 101, 97, 110, 32, 109, 101, 114, 103, 101, 32, 116, 105, 109, 101, 32]⟩
theorem takenL_eq : takenL.data.toList = spaced (takenW.map fun w => w.data.toList) := by decide +kernel
theorem taken_no : ∀ v ∈ takenW.map (fun w => w.data.toList), (32 : UInt8) ∉ v := by decide +kernel
theorem word_eq {s : ByteArray} (hn : s.size < 4611686018427387904) : schema_Word s = some (wordS s) := by
  unfold schema_Word wordS
  rw [name_eq hn, Option.bind_some]
  by_cases h : nameS s = true
  · have hs := name_size h
    rw [if_pos h, con_eq (by omega), Option.bind_some, hash_eq, h]
    simp only [Bool.not_not, Bool.true_and]
    by_cases h2 : ((sbytes s).all fun c => decide (c ≠ 35)) = true
    · have hno : (32 : UInt8) ∉ s.data.toList := fun hm => by
        have := name_nm h _ (mem_sb.1 hm)
        unfold nm at this
        simp at this
      have e : (((⟨#[32]⟩ : ByteArray) ++ s) ++ (⟨#[32]⟩ : ByteArray)).data.toList = 32 :: s.data.toList ++ [32] := by
        rw [ByteArray.data_append, ByteArray.data_append]; simp
      have key : Lib.contains takenL.data.toList ((((⟨#[32]⟩ : ByteArray) ++ s) ++ (⟨#[32]⟩ : ByteArray)).data.toList) = !notin s takenW := by
        rw [e, takenL_eq, Bool.eq_iff_iff]
        have := (contains_iff (spaced (takenW.map fun w => w.data.toList)) (32 :: s.data.toList ++ [32])).trans (word_in hno _ taken_no)
        rw [this, Bool.not_eq_true', ← Bool.not_eq_true, notin_iff, List.mem_map]
        constructor
        · rintro ⟨t, h4, h5⟩ h3
          rw [ba_inj h5] at h4; exact h3 h4
        · intro h3
          exact Classical.byContradiction fun h4 => h3 fun h5 => h4 ⟨s, h5, rfl⟩
      have ek := con_eq (s := takenL) (t := ((⟨#[32]⟩ : ByteArray) ++ s) ++ (⟨#[32]⟩ : ByteArray)) (by decide +kernel)
      rw [key] at ek
      unfold takenL at ek
      rw [if_pos h2, if_pos (by rw [decide_eq_true_eq]; show 1 + s.size ≤ _; omega), if_pos (by rw [decide_eq_true_eq, ByteArray.size_append]; show 1 + s.size + 1 ≤ _; omega), ek, Option.bind_some, h2]
      simp
    · rw [if_neg h2]
      have h2' : ((sbytes s).all fun c => decide (c ≠ 35)) = false := by simpa using h2
      rw [h2']; rfl
  · rw [if_neg h]
    have h' : nameS s = false := by simpa using h
    rw [h']; rfl
end Go.Proofs.YtchgiggipimigaaGreatDoor.M
end
section
namespace Go.Proofs.YtchgiggipimigaaGreatDoor.M
open Go Go.Eng Go.Proofs Go.RowKit
set_option maxRecDepth 100000
set_option linter.unusedVariables false
set_option linter.unusedSimpArgs false
structure szS (s : api_Schema) : Prop where
  n : s.Name.size ≤ 140737488351232
  k : s.Keys.length * 24 ≤ 140737488351232
  v : s.Vals.length * 24 ≤ 140737488351232
  kn : ∀ c ∈ s.Keys, c.Name.size ≤ 140737488351232
  vn : ∀ c ∈ s.Vals, c.Name.size ≤ 140737488351232
theorem szS_of {s : api_Schema} (h : ok_api_Schema s) : szS s := by
  obtain ⟨h1, ⟨h2, h3⟩, h4, h5⟩ := h
  exact ⟨h1, h2, h4, fun c hc => (h3 c hc).1, fun c hc => (h5 c hc).1⟩
def szL (l : List api_Schema) : Prop := l.length < 4611686018427387904 ∧ ∀ s ∈ l, szS s
def findSc (l : List api_Schema) (name : ByteArray) : api_Schema × Bool := match l.find? (fun s => decide (s.Name = name)) with
  | some s => (s, true)
  | none => (⟨⟨#[]⟩, [], []⟩, false)
theorem findSc_cons (s : api_Schema) (l : List api_Schema) (name : ByteArray) : findSc (s :: l) name = if s.Name = name then (s, true) else findSc l name := by
  unfold findSc
  rw [List.find?_cons]
  by_cases h : s.Name = name <;> simp [h]
theorem find_l0' {l : List api_Schema} {name : ByteArray} (hn : l.length < 4611686018427387904) : ∀ (fuel i : Nat), i ≤ l.length → l.length < i + fuel → schema_Find.l0 l name fuel (i : Int) = some (findSc (l.drop i) name)
  | 0, i, _, h => by omega
  | fuel + 1, i, h1, h2 => by
    rw [schema_Find.l0]
    by_cases hi : i < l.length
    · obtain ⟨x, hx, ex⟩ := getE hi
      rw [if_pos (dlt hi), ix_of hx, Option.bind_some, str_eq, ex, findSc_cons, w64_nat i (by omega), find_l0' hn fuel (i + 1) (by omega) (by omega)]
      by_cases e : x.Name = name <;> simp [e]
    · rw [if_neg (dnl (by omega)), List.drop_of_length_le (by omega)]; rfl
theorem fnd_eq {l : List api_Schema} {name : ByteArray} (hn : l.length < 4611686018427387904) : schema_Find l name = some (findSc l name) := by
  unfold schema_Find
  rw [fuel_nat]
  exact find_l0' hn _ 0 (Nat.zero_le _) (by omega)
theorem findSc_mem {l : List api_Schema} {name : ByteArray} (h : (findSc l name).2 = true) : (findSc l name).1 ∈ l ∧ (findSc l name).1.Name = name := by
  unfold findSc at *
  split
  · rename_i s hs
    have := List.find?_some hs
    exact ⟨List.mem_of_find?_eq_some hs, by simpa using this⟩
  · rename_i hs; rw [hs] at h; cases h
theorem all1_l1 {kl : Int → Option Bool} {xs : List (List api_Col)} {j : Int} {l : List api_Col} (hn : l.length < 4611686018427387904) (hs : ∀ c ∈ l, c.Name.size < 4611686018427387904) : ∀ (fuel i : Nat), i ≤ l.length → l.length < i + fuel →
    schema_all_f_schema_one_1.l1 kl xs j l fuel (i : Int) = if ((l.drop i).all fun c => wordS c.Name) = true then kl (IntKind.i64.wrap (j + 1)) else some false
  | 0, i, _, h => by omega
  | fuel + 1, i, h1, h2 => by
    rw [schema_all_f_schema_one_1.l1]
    by_cases hi : i < l.length
    · obtain ⟨x, hx, ex⟩ := getE hi
      unfold schema_one_1
      rw [if_pos (dlt hi), ix_of hx, Option.bind_some, word_eq (hs x (List.mem_of_getElem? hx)), Option.bind_some, Option.bind_some, ex, List.all_cons, w64_nat i (by omega), all1_l1 hn hs fuel (i + 1) (by omega) (by omega)]
      cases wordS x.Name <;> simp
    · rw [if_neg (dnl (by omega)), List.drop_of_length_le (by omega)]; rfl
theorem all1_l0 {xs : List (List api_Col)} (hx : xs.length ≤ 100) (hn : ∀ l ∈ xs, l.length < 4611686018427387904 ∧ ∀ c ∈ l, c.Name.size < 4611686018427387904) : ∀ (fuel i : Nat), i ≤ xs.length → xs.length < i + fuel →
    schema_all_f_schema_one_1.l0 xs fuel (i : Int) = some ((xs.drop i).all fun l => l.all fun c => wordS c.Name)
  | 0, i, _, h => by omega
  | fuel + 1, i, h1, h2 => by
    rw [schema_all_f_schema_one_1.l0]
    by_cases hi : i < xs.length
    · obtain ⟨l, hl, el⟩ := getE hi
      obtain ⟨n1, n2⟩ := hn l (List.mem_of_getElem? hl)
      rw [if_pos (dlt hi), ix_of hl, Option.bind_some, fuel_nat, show (0 : Int) = ((0 : Nat) : Int) from rfl, all1_l1 n1 n2 _ 0 (Nat.zero_le _) (by omega), w64_nat i (by omega), all1_l0 hx hn fuel (i + 1) (by omega) (by omega), el, List.drop_zero, List.all_cons]
      cases (l.all fun c => wordS c.Name) <;> simp
    · rw [if_neg (dnl (by omega)), List.drop_of_length_le (by omega)]; rfl
theorem all1_eq {xs : List (List api_Col)} (hx : xs.length ≤ 100) (hn : ∀ l ∈ xs, l.length < 4611686018427387904 ∧ ∀ c ∈ l, c.Name.size < 4611686018427387904) : schema_all_f_schema_one_1 xs = some (xs.all fun l => l.all fun c => wordS c.Name) := by
  unfold schema_all_f_schema_one_1
  rw [fuel_nat]
  exact all1_l0 hx hn _ 0 (Nat.zero_le _) (by omega)
theorem all2_l1 {kl : Int → Option Bool} {xs : List (List api_Col)} {j : Int} {l : List api_Col} (hn : l.length < 4611686018427387904) : ∀ (fuel i : Nat), i ≤ l.length → l.length < i + fuel →
    schema_all_f_schema_one_2.l1 kl xs j l fuel (i : Int) = if ((l.drop i).all fun c => decide (c.Kind ≠ 4)) = true then kl (IntKind.i64.wrap (j + 1)) else some false
  | 0, i, _, h => by omega
  | fuel + 1, i, h1, h2 => by
    rw [schema_all_f_schema_one_2.l1]
    by_cases hi : i < l.length
    · obtain ⟨x, hx, ex⟩ := getE hi
      unfold schema_one_2
      rw [if_pos (dlt hi), ix_of hx, Option.bind_some, Option.bind_some, ex, List.all_cons, w64_nat i (by omega), all2_l1 hn fuel (i + 1) (by omega) (by omega)]
      by_cases e : x.Kind = 4 <;> simp [e]
    · rw [if_neg (dnl (by omega)), List.drop_of_length_le (by omega)]; rfl
theorem all2_eq {l : List api_Col} (hn : l.length < 4611686018427387904) : schema_all_f_schema_one_2 [l] = some (l.all fun c => decide (c.Kind ≠ 4)) := by
  unfold schema_all_f_schema_one_2
  have e0 : ix [l] 0 = some l := rfl
  have e1 : ((([l] : List (List api_Col)).length : Int) - 0).toNat + 1 = 0 + 1 + 1 := rfl
  have l1 : ((([l] : List (List api_Col)).length : Nat) : Int) = 1 := rfl
  have w0 : IntKind.i64.wrap (0 + 1) = 1 := by decide
  rw [e1, schema_all_f_schema_one_2.l0, l1, if_pos (by decide), e0, Option.bind_some, fuel_nat, show schema_all_f_schema_one_2.l1 (schema_all_f_schema_one_2.l0 [l] (0 + 1)) [l] 0 l (l.length + 1) 0 = schema_all_f_schema_one_2.l1 (schema_all_f_schema_one_2.l0 [l] (0 + 1)) [l] 0 l (l.length + 1) ((0 : Nat) : Int) from rfl, all2_l1 hn _ 0 (Nat.zero_le _) (by omega), List.drop_zero, w0]
  by_cases hq : (l.all fun c => decide (c.Kind ≠ 4)) = true
  · rw [if_pos hq, hq, schema_all_f_schema_one_2.l0, l1]; rfl
  · rw [if_neg hq]
    simp only [Bool.not_eq_true] at hq
    rw [hq]
theorem concatC2 {xs ys : List api_Col} (h : (xs.length + ys.length) * 24 ≤ 140737488355328) : slices_Concat_api_Col_api_Col [xs, ys] = some (xs ++ ys) := by
  unfold slices_Concat_api_Col_api_Col
  have e0 : ix [xs, ys] 0 = some xs := rfl
  have e1 : ix [xs, ys] 1 = some ys := rfl
  have f : ((([xs, ys] : List (List api_Col)).length : Int) - 0).toNat + 1 = 0 + 1 + 1 + 1 := rfl
  have w0 : IntKind.i64.wrap (0 + 1) = 1 := by decide
  have w1 : IntKind.i64.wrap (1 + 1) = 2 := by decide
  have a1 : IntKind.i64.wrap (0 + (xs.length : Int)) = xs.length := by rw [w64 (by omega) (by omega)]; omega
  have a2 : IntKind.i64.wrap ((xs.length : Int) + (ys.length : Int)) = ((xs.length + ys.length : Nat) : Int) := by rw [w64 (by omega) (by omega)]; omega
  have l2 : ((([xs, ys] : List (List api_Col)).length : Nat) : Int) = 2 := rfl
  rw [f]
  rw [slices_Concat_api_Col_api_Col.l0, l2, e0, w0, if_pos (by decide), Option.bind_some, a1, if_neg (by simp), slices_Concat_api_Col_api_Col.l0, l2, e1, w1, if_pos (by decide), Option.bind_some, a2, if_neg (by simp; omega), slices_Concat_api_Col_api_Col.l0, l2, if_neg (by decide)]
  unfold slices_Grow_api_Col_api_Col grow0
  rw [if_pos (by omega), Option.bind_some, show ((2 : Int) - 0).toNat + 1 = 0 + 1 + 1 + 1 from rfl, slices_Concat_api_Col_api_Col.l1, l2, e0, w0, if_pos (by decide), Option.bind_some, apd_of (by simp; omega), Option.bind_some, slices_Concat_api_Col_api_Col.l1, l2, e1, w1, if_pos (by decide), Option.bind_some, apd_of (by simpa using h), Option.bind_some, slices_Concat_api_Col_api_Col.l1, l2, if_neg (by decide), List.nil_append]
theorem concatC3 {xs ys zs : List api_Col} (h : (xs.length + ys.length + zs.length) * 24 ≤ 140737488355328) : slices_Concat_api_Col_api_Col [xs, ys, zs] = some (xs ++ ys ++ zs) := by
  unfold slices_Concat_api_Col_api_Col
  have e0 : ix [xs, ys, zs] 0 = some xs := rfl
  have e1 : ix [xs, ys, zs] 1 = some ys := rfl
  have e2 : ix [xs, ys, zs] 2 = some zs := rfl
  have f : ((([xs, ys, zs] : List (List api_Col)).length : Int) - 0).toNat + 1 = 0 + 1 + 1 + 1 + 1 := rfl
  have w0 : IntKind.i64.wrap (0 + 1) = 1 := by decide
  have w1 : IntKind.i64.wrap (1 + 1) = 2 := by decide
  have w2 : IntKind.i64.wrap (2 + 1) = 3 := by decide
  have a1 : IntKind.i64.wrap (0 + (xs.length : Int)) = xs.length := by rw [w64 (by omega) (by omega)]; omega
  have a2 : IntKind.i64.wrap ((xs.length : Int) + (ys.length : Int)) = ((xs.length + ys.length : Nat) : Int) := by rw [w64 (by omega) (by omega)]; omega
  have a3 : IntKind.i64.wrap (((xs.length + ys.length : Nat) : Int) + (zs.length : Int)) = ((xs.length + ys.length + zs.length : Nat) : Int) := by rw [w64 (by omega) (by omega)]; omega
  have l2 : ((([xs, ys, zs] : List (List api_Col)).length : Nat) : Int) = 3 := rfl
  rw [f]
  rw [slices_Concat_api_Col_api_Col.l0, l2, e0, w0, if_pos (by decide), Option.bind_some, a1, if_neg (by simp), slices_Concat_api_Col_api_Col.l0, l2, e1, w1, if_pos (by decide), Option.bind_some, a2, if_neg (by simp; omega), slices_Concat_api_Col_api_Col.l0, l2, e2, w2, if_pos (by decide), Option.bind_some, a3, if_neg (by simp; omega), slices_Concat_api_Col_api_Col.l0, l2, if_neg (by decide)]
  unfold slices_Grow_api_Col_api_Col grow0
  rw [if_pos (by omega), Option.bind_some, show ((3 : Int) - 0).toNat + 1 = 0 + 1 + 1 + 1 + 1 from rfl, slices_Concat_api_Col_api_Col.l1, l2, e0, w0, if_pos (by decide), Option.bind_some, apd_of (by simp; omega), Option.bind_some, slices_Concat_api_Col_api_Col.l1, l2, e1, w1, if_pos (by decide), Option.bind_some, apd_of (by simp; omega), Option.bind_some, slices_Concat_api_Col_api_Col.l1, l2, e2, w2, if_pos (by decide), Option.bind_some, apd_of (by simp; omega), Option.bind_some, slices_Concat_api_Col_api_Col.l1, l2, if_neg (by decide), List.nil_append]
def few (s : api_Schema) : Bool := decide (1 ≤ s.Keys.length ∧ s.Keys.length ≤ 4 ∧ 1 ≤ s.Vals.length ∧ s.Vals.length ≤ 4)
def oneS (s : api_Schema) : Bool := few s && wordS s.Name && (s.Keys ++ s.Vals).all (fun c => wordS c.Name) && s.Keys.all (fun c => decide (c.Kind ≠ 4)) && colsS (s.Keys ++ s.Vals)
theorem szS.cols {s : api_Schema} (h : szS s) (hf : few s = true) : okCols (s.Keys ++ s.Vals) := by
  unfold few at hf
  simp only [decide_eq_true_eq] at hf
  refine ⟨by rw [List.length_append]; omega, fun c hc => ?_⟩
  rcases List.mem_append.1 hc with hc | hc
  · have := h.kn c hc; omega
  · have := h.vn c hc; omega
theorem sone_eq {s : api_Schema} (h : szS s) : schema_one s = some (oneS s) := by
  have hk := h.k
  have hv := h.v
  have hnn := h.n
  unfold schema_one
  rw [all1_eq (by simp) (fun l hl => by
    simp only [List.mem_cons, List.not_mem_nil, or_false] at hl
    rcases hl with rfl | rfl | rfl
    · exact ⟨by omega, fun c hc => by have := h.kn c hc; omega⟩
    · exact ⟨by omega, fun c hc => by have := h.vn c hc; omega⟩
    · exact ⟨by simp, fun c hc => by rw [List.mem_singleton] at hc; subst hc; show s.Name.size < _; omega⟩), Option.bind_some, all2_eq (by omega), Option.bind_some]
  have e : ([s.Keys, s.Vals, [(⟨s.Name, 0⟩ : api_Col)]].all fun l => l.all fun c => wordS c.Name) = (wordS s.Name && (s.Keys ++ s.Vals).all (fun c => wordS c.Name)) := by
    simp only [List.all_cons, List.all_nil, Bool.and_true, List.all_append]
    cases wordS s.Name <;> cases (s.Keys.all fun c => wordS c.Name) <;> cases (s.Vals.all fun c => wordS c.Name) <;> rfl
  rw [e]
  by_cases hf : few s = true
  · have hf' := hf
    unfold few at hf'
    simp only [decide_eq_true_eq] at hf'
    have hc : table_Check ⟨s.Keys ++ s.Vals, []⟩ = some (checkS ⟨s.Keys ++ s.Vals, []⟩) := check_eq (h.cols hf) ⟨by simp, fun _ h => nomatch h⟩
    rw [if_pos (by simp; omega), if_pos (by simp; omega), if_pos (by simp; omega)]
    have : decide ((s.Vals.length : Int) ≤ 4) = true := by simp; omega
    rw [this]
    unfold schema_one.j0 oneS
    rw [if_pos rfl, concatC2 (by omega), Option.bind_some, hc, Option.bind_some, hf]
    have e2 : (checkS ⟨s.Keys ++ s.Vals, []⟩ == 0) = colsS (s.Keys ++ s.Vals) := by
      unfold checkS
      cases colsS (s.Keys ++ s.Vals) <;> rfl
    rw [e2]
    cases wordS s.Name <;> cases ((s.Keys ++ s.Vals).all fun c => wordS c.Name) <;> cases (s.Keys.all fun c => decide (c.Kind ≠ 4)) <;> simp
  · have hf' : few s = false := by simpa using hf
    unfold oneS
    rw [hf']
    unfold few at hf
    simp only [decide_eq_true_eq] at hf
    simp only [schema_one.j0, Bool.false_and]
    by_cases h1 : 1 ≤ s.Keys.length
    · by_cases h2 : s.Keys.length ≤ 4
      · by_cases h3 : 1 ≤ s.Vals.length
        · rw [if_pos (by simp; omega), if_pos (by simp; omega), if_pos (by simp; omega), if_neg (by simp; omega)]
        · rw [if_pos (by simp; omega), if_pos (by simp; omega), if_neg (by simp only [decide_eq_true_eq]; omega), if_neg (by simp)]
      · rw [if_pos (by simp; omega), if_neg (by simp only [decide_eq_true_eq]; omega), if_neg (by simp)]
    · rw [if_neg (by simp only [decide_eq_true_eq]; omega), if_neg (by simp)]
def namedIn (pre : List api_Schema) (s : api_Schema) : Bool := pre.any fun x => decide (x.Name = s.Name)
def chkL (pre : List api_Schema) : List api_Schema → Bool
  | [] => true
  | s :: r => oneS s && !namedIn pre s && chkL (pre ++ [s]) r
def checkL (l : List api_Schema) : Int := if 1 ≤ l.length ∧ l.length ≤ 8 ∧ chkL [] l = true then 0 else 50
theorem sidx_l0 {l : List api_Schema} {s : api_Schema} (hn : l.length < 4611686018427387904) : ∀ (fuel i : Nat), i ≤ l.length → l.length < i + fuel → ∃ j : Int, slices_IndexFunc_api_Schema_api_Schema_f_schema_Check_1p.l0 l s fuel (i : Int) = some j ∧ (decide (j ≥ 0)) = namedIn (l.drop i) s
  | 0, i, _, h => by omega
  | fuel + 1, i, h1, h2 => by
    rw [slices_IndexFunc_api_Schema_api_Schema_f_schema_Check_1p.l0]
    by_cases hi : i < l.length
    · obtain ⟨x, hx, ex⟩ := getE hi
      unfold schema_Check_1_cp
      rw [if_pos (dlt hi), ix_of hx, Option.bind_some, Option.bind_some, str_eq, ex]
      by_cases e : x.Name = s.Name
      · exact ⟨(i : Int), by rw [if_pos (by simpa using e)], by simp [namedIn, e]⟩
      · obtain ⟨j, h3, h4⟩ := sidx_l0 (s := s) hn fuel (i + 1) (by omega) (by omega)
        exact ⟨j, by rw [if_neg (by simpa using e), w64_nat i (by omega), h3], by rw [h4]; simp [namedIn, e]⟩
    · exact ⟨-1, by rw [if_neg (dnl (by omega))], by rw [List.drop_of_length_le (by omega)]; rfl⟩
theorem conf_eq {l : List api_Schema} {s : api_Schema} (hn : l.length < 4611686018427387904) : slices_ContainsFunc_api_Schema_api_Schema_f_schema_Check_1p l s = some (namedIn l s) := by
  unfold slices_ContainsFunc_api_Schema_api_Schema_f_schema_Check_1p slices_IndexFunc_api_Schema_api_Schema_f_schema_Check_1p
  obtain ⟨j, h1, h2⟩ := sidx_l0 (s := s) hn (l.length + 1) 0 (Nat.zero_le _) (by omega)
  rw [fuel_nat, show (0 : Int) = ((0 : Nat) : Int) from rfl, h1, Option.bind_some]
  rw [List.drop_zero] at h2
  rw [← h2]; rfl
theorem chkS_l1 {l : List api_Schema} (h : szL l) : ∀ (fuel i : Nat), i ≤ l.length → l.length < i + fuel → schema_Check.l1 l fuel (i : Int) = some (if chkL (l.take i) (l.drop i) = true then 0 else 50)
  | 0, i, _, h => by omega
  | fuel + 1, i, h1, h2 => by
    have hn := h.1
    rw [schema_Check.l1]
    by_cases hi : i < l.length
    · obtain ⟨x, hx, ex⟩ := getE hi
      have ih := chkS_l1 h fuel (i + 1) (by omega) (by omega)
      have et : l.take (i + 1) = l.take i ++ [x] := by rw [List.take_add_one, hx]; rfl
      have ec : cut l 0 (i : Int) = some (l.take i) := by rw [cut_of (by omega) (by omega) (by omega)]; simp
      rw [if_pos (dlt hi), ix_of hx, Option.bind_some, sone_eq (h.2 x (List.mem_of_getElem? hx)), Option.bind_some, ec, Option.bind_some, conf_eq (by rw [List.length_take]; omega), Option.bind_some, ex, chkL]
      simp only [schema_Check.j2, w64_nat i (by omega), ih, et]
      cases oneS x
      · simp
      · cases namedIn (l.take i) x <;> simp
    · rw [if_neg (dnl (by omega)), List.drop_of_length_le (by omega)]; rfl
theorem chkS_eq {l : List api_Schema} (h : szL l) : schema_Check l = some (checkL l) := by
  have h0 := chkS_l1 h (l.length + 1) 0 (Nat.zero_le _) (by omega)
  rw [List.take_zero, List.drop_zero, show ((0 : Nat) : Int) = 0 from rfl] at h0
  unfold schema_Check checkL schema_Check.j0
  rw [fuel_nat, h0]
  by_cases h1 : l.length < 1
  · rw [if_pos (by simp only [decide_eq_true_eq]; omega), if_pos rfl, if_neg (by omega)]
  · rw [if_neg (by simp only [decide_eq_true_eq]; omega)]
    by_cases h2 : l.length > 8
    · rw [if_pos (by simp only [decide_eq_true_eq]; omega), if_neg (by omega)]
    · rw [if_neg (by simp only [decide_eq_true_eq]; omega)]
      by_cases h3 : chkL [] l = true
      · rw [if_pos h3, if_pos ⟨by omega, by omega, h3⟩]
      · rw [if_neg h3, if_neg (fun h => h3 h.2.2)]
theorem fit_l0 {l : List api_Value} {cs : List api_Col} (hn : l.length < 4611686018427387904) (hl : l.length = cs.length) : ∀ (fuel i : Nat), i ≤ l.length → l.length < i + fuel →
    slices_EqualFunc_api_Value_api_Col_api_Value_api_Col_f_schema_fit_1.l0 l cs fuel (i : Int) = some (rowOk (l.drop i) (cs.drop i))
  | 0, i, _, h => by omega
  | fuel + 1, i, h1, h2 => by
    rw [slices_EqualFunc_api_Value_api_Col_api_Value_api_Col_f_schema_fit_1.l0]
    by_cases hi : i < l.length
    · obtain ⟨v, hv, ev⟩ := getE hi
      obtain ⟨c, hc, ec⟩ := getE (l := cs) (i := i) (by omega)
      unfold schema_fit_1
      rw [if_pos (dlt hi), ix_of hv, Option.bind_some, ix_of hc, Option.bind_some, valid_eq, Option.bind_some, w64_nat i (by omega), fit_l0 hn hl fuel (i + 1) (by omega) (by omega), ev, ec, rowOk]
      by_cases e : v.Kind = c.Kind
      · cases validS v <;> simp [e]
      · simp [e]
    · rw [if_neg (dnl (by omega)), List.drop_of_length_le (by omega), List.drop_of_length_le (by omega)]; rfl
theorem fit_eq {l : List api_Value} {cs : List api_Col} (hn : l.length < 4611686018427387904) : schema_fit l cs = some (rowOk l cs) := by
  unfold schema_fit slices_EqualFunc_api_Value_api_Col_api_Value_api_Col_f_schema_fit_1
  by_cases hl : l.length = cs.length
  · have := fit_l0 hn hl (l.length + 1) 0 (Nat.zero_le _) (by omega)
    rw [if_neg (by simp [hl]), fuel_nat, show (0 : Int) = ((0 : Nat) : Int) from rfl, this]; rfl
  · rw [if_pos (by simp; omega), Option.bind_some]
    cases h : rowOk l cs with
    | false => rfl
    | true => exact absurd (rowOk_len h) hl
def fitsS (l : List api_Schema) (p : api_Point) : Int :=
  if (findSc l p.Schema).2 = false then 50 else if rowOk p.Keys (findSc l p.Schema).1.Keys = true ∧ rowOk p.Vals (findSc l p.Schema).1.Vals = true ∧ 0 ≤ p.Time ∧ p.Time < 1099511627776 then 0 else 51
structure szP (p : api_Point) : Prop where
  k : p.Keys.length < 4611686018427387904
  v : p.Vals.length < 4611686018427387904
theorem szP_of {p : api_Point} (h : ok_api_Point p) : szP p := by
  obtain ⟨h1, ⟨h2, h3⟩, h4, h5, h6⟩ := h
  exact ⟨by omega, by omega⟩
theorem fits_eq {l : List api_Schema} {p : api_Point} (hl : l.length < 4611686018427387904) (hp : szP p) : schema_Fits l p = some (fitsS l p) := by
  unfold schema_Fits fitsS
  rw [fnd_eq hl, Option.bind_some]
  cases hf : (findSc l p.Schema).2
  · rw [if_pos (by simp), if_pos rfl]
  · rw [if_neg (show ¬ ((!true) = true) by decide), fit_eq hp.k, Option.bind_some]
    simp only [schema_Fits.j0, schema_Fits.j1, schema_Fits.j2]
    cases rowOk p.Keys (findSc l p.Schema).1.Keys
    · simp
    · rw [if_neg (show ¬ ((!true) = true) by decide), fit_eq hp.v, Option.bind_some]
      cases rowOk p.Vals (findSc l p.Schema).1.Vals
      · simp
      · rw [if_neg (show ¬ ((!true) = true) by decide)]
        by_cases h1 : p.Time < 0
        · have h1' : decide (p.Time < 0) = true := by simpa using h1
          rw [if_pos h1', if_pos h1', if_neg (by decide), if_neg (fun h => by omega)]
        · have h1' : ¬ decide (p.Time < 0) = true := by simpa using h1
          rw [if_neg h1']
          by_cases h2 : p.Time < 1099511627776
          · have h2' : ¬ decide (p.Time ≥ 1099511627776) = true := by simpa using h2
            rw [if_neg h2', if_neg (by decide), if_pos ⟨rfl, rfl, by omega, h2⟩]
          · have h2' : decide (p.Time ≥ 1099511627776) = true := by simpa using h2
            rw [if_pos h2', if_neg (by decide), if_neg (fun h => h2 h.2.2.2)]
def timeC : api_Col := ⟨⟨#[116, 105, 109, 101]⟩, 1⟩
def colsOf (s : api_Schema) : List api_Col := timeC :: (s.Keys ++ s.Vals)
theorem cols_eq {s : api_Schema} (h : (s.Keys.length + s.Vals.length + 1) * 24 ≤ 140737488355328) : schema_Cols s = some (colsOf s) := by
  unfold schema_Cols
  rw [concatC3 (by simp only [List.length_singleton]; omega), Option.bind_some]
  unfold colsOf timeC; simp
def load0 : api_Schema := ⟨⟨#[108, 111, 97, 100]⟩, [⟨⟨#[104, 111, 115, 116]⟩, 2⟩], [⟨⟨#[110]⟩, 1⟩]⟩
theorem szS_B {s : api_Schema} (h : (decide (s.Name.size ≤ 1000) && decide (s.Keys.length ≤ 1000) && decide (s.Vals.length ≤ 1000) && s.Keys.all (fun c => decide (c.Name.size ≤ 1000)) && s.Vals.all (fun c => decide (c.Name.size ≤ 1000))) = true) : szS s := by
  simp only [Bool.and_eq_true, decide_eq_true_eq, List.all_eq_true] at h
  obtain ⟨⟨⟨⟨h1, h2⟩, h3⟩, h4⟩, h5⟩ := h
  exact ⟨by omega, by omega, by omega, fun c hc => by have := h4 c hc; omega, fun c hc => by have := h5 c hc; omega⟩
theorem sz_load : szS load0 := szS_B (by decide +kernel)
theorem szL_of {l : List api_Schema} (h : l.length * 64 ≤ 140737488351232 ∧ ∀ x ∈ l, ok_api_Schema x) : szL l := ⟨by omega, fun s hs => szS_of (h.2 s hs)⟩
theorem szL.take {l : List api_Schema} (h : szL l) (n : Nat) : szL (l.take n) := ⟨by have := h.1; rw [List.length_take]; omega, fun s hs => h.2 s (List.mem_of_mem_take hs)⟩
theorem namedIn_iff {pre : List api_Schema} {s : api_Schema} : namedIn pre s = true ↔ s.Name ∈ pre.map (·.Name) := by
  unfold namedIn
  rw [List.any_eq_true]
  simp [List.mem_map]
theorem chkL_iff : ∀ (l pre : List api_Schema), chkL pre l = true ↔ (∀ s ∈ l, oneS s = true) ∧ (l.map (·.Name)).Nodup ∧ ∀ s ∈ l, s.Name ∉ pre.map (·.Name)
  | [], pre => by simp [chkL]
  | s :: r, pre => by
    simp only [chkL, Bool.and_eq_true, Bool.not_eq_true', ← Bool.not_eq_true, namedIn_iff, chkL_iff r (pre ++ [s]), List.map_cons, List.nodup_cons, List.mem_cons, forall_eq_or_imp, List.map_append, List.map_nil, List.mem_append, List.not_mem_nil, or_false, not_or]
    constructor
    · rintro ⟨⟨h1, h2⟩, h3, h4, h5⟩
      refine ⟨⟨h1, h3⟩, ⟨fun hm => ?_, h4⟩, h2, fun x hx => (h5 x hx).1⟩
      obtain ⟨x, hx, e⟩ := List.mem_map.1 hm
      exact (h5 x hx).2 e
    · rintro ⟨⟨h1, h3⟩, ⟨hm, h4⟩, h2, h5⟩
      exact ⟨⟨h1, h2⟩, h3, h4, fun x hx => ⟨h5 x hx, fun e => hm (e ▸ List.mem_map.2 ⟨x, hx, rfl⟩)⟩⟩
theorem checkL_zero {l : List api_Schema} : checkL l = 0 ↔ 1 ≤ l.length ∧ l.length ≤ 8 ∧ (∀ s ∈ l, oneS s = true) ∧ (l.map (·.Name)).Nodup := by
  unfold checkL
  have := chkL_iff l []
  by_cases h : 1 ≤ l.length ∧ l.length ≤ 8 ∧ chkL [] l = true
  · rw [if_pos h]
    have h2 := this.1 h.2.2
    exact ⟨fun _ => ⟨h.1, h.2.1, h2.1, h2.2.1⟩, fun _ => rfl⟩
  · rw [if_neg h]
    exact ⟨fun h => by simp at h, fun hh => absurd ⟨hh.1, hh.2.1, this.2 ⟨hh.2.2.1, hh.2.2.2, by simp⟩⟩ h⟩
theorem oneS_few {s : api_Schema} (h : oneS s = true) : few s = true := by
  unfold oneS at h
  simp only [Bool.and_eq_true] at h
  exact h.1.1.1.1
theorem few_of {s : api_Schema} (h : few s = true) : 1 ≤ s.Keys.length ∧ s.Keys.length ≤ 4 ∧ 1 ≤ s.Vals.length ∧ s.Vals.length ≤ 4 := by
  unfold few at h; simpa using h
theorem fits_zero {l : List api_Schema} {p : api_Point} (h : fitsS l p = 0) : (findSc l p.Schema).2 = true ∧ rowOk p.Keys (findSc l p.Schema).1.Keys = true ∧ rowOk p.Vals (findSc l p.Schema).1.Vals = true := by
  unfold fitsS at h
  split at h
  · simp at h
  · rename_i h1
    split at h
    · rename_i h2; exact ⟨by simpa using h1, h2.1, h2.2.1⟩
    · simp at h
end Go.Proofs.YtchgiggipimigaaGreatDoor.M
end
section
namespace Go.Proofs.YtchgiggipimigaaGreatDoor.M
open Go Go.Eng Go.Proofs Go.RowKit
set_option maxRecDepth 100000
set_option linter.unusedVariables false
set_option linter.unusedSimpArgs false
abbrev Stm := ByteArray × List api_Value
def digB (n : Nat) : ByteArray := ⟨(Lib.itoa (n : Int)).toArray⟩
def keyB (k : api_Value) : List Int := k.Kind :: valS k
def keysB (ks : List api_Value) : List Int := ks.flatMap keyB
def headB (n : ByteArray) : List Int := sbytes ((digB n.size ++ (⟨#[32]⟩ : ByteArray)) ++ n)
def markB (q : Stm) : ByteArray := bstr (headB q.1 ++ keysB q.2)
def allV (ks : List api_Value) : Bool := ks.all validS
def okQ (q : Stm) : Prop := q.1.size ≤ 1048576 ∧ q.2.length ≤ 1048576 ∧ ∀ v ∈ q.2, wfV v
theorem itoa_len {n : Int} (h1 : 0 ≤ n) (h2 : n ≤ 9223372036854775807) : (Lib.itoa n).length ≤ 21 := by
  have hd : ∀ (k u : Nat), u < 10 ^ k → (Lib.decDigits u).length ≤ k + 1 := by
    intro k
    induction k with
    | zero => intro u hu; rw [Lib.decDigits, dif_pos (by omega)]; simp
    | succ k ih =>
      intro u hu
      rw [Lib.decDigits]
      split
      · simp
      · have := ih (u / 10) (by rw [Nat.pow_succ] at hu; omega)
        simp; omega
  unfold Lib.itoa
  rw [if_neg (by omega)]
  have := hd 19 n.toNat (by
    have : (10 : Nat) ^ 19 = 10000000000000000000 := by decide
    omega)
  omega
theorem sbytes_app (a b : ByteArray) : sbytes (a ++ b) = sbytes a ++ sbytes b := by
  simp [sbytes, ByteArray.data_append]
theorem kind_u8 {v : api_Value} (h : validS v = true) : IntKind.u8.wrap v.Kind = v.Kind := by
  rw [u8w]; have := validS_kind h; omega
theorem byts_keyB {v : api_Value} (h : validS v = true) : Byts (keyB v) := Byts.cons.2 ⟨by have := validS_kind h; omega, byts_valS h⟩
theorem byts_keysB {ks : List api_Value} (h : allV ks = true) : Byts (keysB ks) := by
  intro x hx
  obtain ⟨v, hv, hx⟩ := List.mem_flatMap.1 hx
  exact byts_keyB (List.all_eq_true.1 h v hv) x hx
theorem digB_size (n : Nat) : (digB n).size = (Lib.itoa (n : Int)).length := by
  show (Lib.itoa (n : Int)).toArray.size = _
  exact List.size_toArray ..
theorem headB_len (n : ByteArray) (h : n.size ≤ 1048576) : (headB n).length ≤ 1048576 + 22 := by
  have := itoa_len (n := (n.size : Int)) (by omega) (by omega)
  have e : (digB n.size).size = (Lib.itoa (n.size : Int)).length := digB_size n.size
  have e1 : (⟨#[32]⟩ : ByteArray).size = 1 := rfl
  simp only [headB, sbytes_app, List.length_append, sbytes_len]
  omega
theorem mark_l0 {ks : List api_Value} (hl : ks.length ≤ 1048576) : ∀ (fuel i : Nat) (acc : List Int), i ≤ ks.length → ks.length < i + fuel → acc.length + 66 * (ks.length - i) ≤ 140000000 →
    streams_mark.l0 ks fuel acc (i : Int) = some (if allV (ks.drop i) = true then (bstr (acc ++ keysB (ks.drop i)), true) else ((⟨#[]⟩ : ByteArray), false))
  | 0, i, _, _, h, _ => by omega
  | fuel + 1, i, acc, h1, h2, h3 => by
    rw [streams_mark.l0]
    by_cases hi : i < ks.length
    · obtain ⟨x, hx, ex⟩ := getE hi
      rw [if_pos (dlt hi), ix_of hx, Option.bind_some, wPut_eq (Nat.le_of_ble_eq_true rfl), Option.bind_some, ex]
      unfold putS
      by_cases hv : validS x = true
      · have := valS_len hv
        have ea : allV (x :: ks.drop (i + 1)) = allV (ks.drop (i + 1)) := by simp [allV, hv]
        rw [if_pos hv, if_neg (by simp), kind_u8 hv, apd_of (by simp; omega), Option.bind_some]
        simp only [List.nil_append]
        rw [apd_of (by simp; omega), Option.bind_some, w64_nat i (by omega), mark_l0 hl fuel (i + 1) _ (by omega) (by omega) (by simp; omega), ea]
        simp [keysB, keyB]
      · have ea : allV (x :: ks.drop (i + 1)) = false := by simp [allV, hv]
        rw [if_neg hv, if_pos (by simp), ea]
        rfl
    · rw [if_neg (dnl (by omega)), List.drop_of_length_le (by omega)]
      simp [allV, keysB]
theorem mark_eq {n : ByteArray} {ks : List api_Value} (h : okQ (n, ks)) : streams_mark n ks = some (if allV ks = true then (markB (n, ks), true) else ((⟨#[]⟩ : ByteArray), false)) := by
  obtain ⟨h1, h2, h3⟩ := h
  simp only at h1 h2 h3
  have hlen := itoa_len (n := (n.size : Int)) (by omega) (by omega)
  have e : (digB n.size).size = (Lib.itoa (n.size : Int)).length := digB_size n.size
  have e1 : (⟨#[32]⟩ : ByteArray).size = 1 := rfl
  have hd : strconv_Itoa (n.size : Int) = some (digB n.size) := by unfold strconv_Itoa; rw [if_pos (by omega)]; rfl
  have hh := headB_len n h1
  unfold streams_mark
  rw [hd, Option.bind_some, if_pos (by rw [decide_eq_true_eq]; omega), if_pos (by rw [decide_eq_true_eq, ByteArray.size_append]; omega)]
  rw [if_pos (by rw [decide_eq_true_eq]; show (headB n).length * 1 ≤ _; omega), fuel_nat]
  exact mark_l0 h2 _ 0 _ (Nat.zero_le _) (by omega) (by show (headB n).length + _ ≤ _; omega)
theorem word_injI {p : Int → Bool} : ∀ {a a' : List Int} {s s' : Int} {r r' : List Int}, (∀ b ∈ a, p b = true) → (∀ b ∈ a', p b = true) → p s = false → p s' = false → a ++ s :: r = a' ++ s' :: r' → a = a' ∧ s = s' ∧ r = r'
  | [], [], s, s', r, r', _, _, _, _, h => by
    simp only [List.nil_append, List.cons.injEq] at h
    exact ⟨rfl, h.1, h.2⟩
  | [], b :: a', s, s', r, r', _, h2, h3, _, h => by
    simp only [List.nil_append, List.cons_append, List.cons.injEq] at h
    have := h2 b (List.mem_cons_self ..)
    rw [← h.1, h3] at this; cases this
  | b :: a, [], s, s', r, r', h1, _, _, h4, h => by
    simp only [List.nil_append, List.cons_append, List.cons.injEq] at h
    have := h1 b (List.mem_cons_self ..)
    rw [h.1, h4] at this; cases this
  | b :: a, c :: a', s, s', r, r', h1, h2, h3, h4, h => by
    simp only [List.cons_append, List.cons.injEq] at h
    obtain ⟨e1, e2, e3⟩ := word_injI (fun x hx => h1 x (List.mem_cons_of_mem _ hx)) (fun x hx => h2 x (List.mem_cons_of_mem _ hx)) h3 h4 h.2
    exact ⟨by rw [h.1, e1], e2, e3⟩
def inN (b : Int) : Bool := decide (b = 45 ∨ (48 ≤ b ∧ b ≤ 57))
theorem dig_in (n : Nat) : ∀ b ∈ sbytes (digB n), inN b = true := by
  intro b hb
  simp only [sbytes, digB, List.mem_map] at hb
  obtain ⟨c, hc, rfl⟩ := hb
  have := itoa_mem (n : Int) c (by simpa using hc)
  simp only [inN, decide_eq_true_eq]
  omega
theorem keysB_inj : ∀ {a b : List api_Value}, allV a = true → allV b = true → (∀ v ∈ a, wfV v) → (∀ v ∈ b, wfV v) → keysB a = keysB b → a = b
  | [], [], _, _, _, _, _ => rfl
  | [], _ :: _, _, _, _, _, h => by simp [keysB, keyB] at h
  | _ :: _, [], _, _, _, _, h => by simp [keysB, keyB] at h
  | v :: a, w :: b, h1, h2, h3, h4, h => by
    unfold allV at h1 h2
    rw [List.all_cons, Bool.and_eq_true] at h1 h2
    simp only [keysB, List.flatMap_cons, keyB, List.cons_append, List.cons.injEq] at h
    have e1 := take_put h1.1 (h3 v (List.mem_cons_self ..)) (a.flatMap keyB)
    have e2 := take_put h2.1 (h4 w (List.mem_cons_self ..)) (b.flatMap keyB)
    have hk := h.1
    have hr := h.2
    have hr' : valS v ++ a.flatMap keyB = valS w ++ b.flatMap keyB := hr
    rw [hr', hk, e2] at e1
    simp only [Option.some.injEq, Prod.mk.injEq] at e1
    rw [e1.1, keysB_inj h1.2 h2.2 (fun x hx => h3 x (List.mem_cons_of_mem _ hx)) (fun x hx => h4 x (List.mem_cons_of_mem _ hx)) e1.2.symm]
def good (q : Stm) : Prop := okQ q ∧ allV q.2 = true
theorem headB_eq (n : ByteArray) : headB n = sbytes (digB n.size) ++ 32 :: sbytes n := by
  simp only [headB, sbytes_app, List.append_assoc]; rfl
theorem markB_inj {p q : Stm} (hp : good p) (hq : good q) (h : markB p = markB q) : p = q := by
  have hb : ∀ r : Stm, good r → Byts (headB r.1 ++ keysB r.2) := fun r hr => Byts.append.2 ⟨byts_sbytes _, byts_keysB hr.2⟩
  have e := bstr_inj (hb p hp) (hb q hq) h
  rw [headB_eq, headB_eq, List.append_assoc, List.append_assoc] at e
  obtain ⟨e1, _, e2⟩ := word_injI (p := inN) (dig_in _) (dig_in _) rfl rfl e
  have e3 := sbytes_inj e1
  have e4 : p.1.size = q.1.size := by
    have : Lib.itoa (p.1.size : Int) = Lib.itoa (q.1.size : Int) := by
      have := congrArg (fun b : ByteArray => b.data.toList) e3
      simpa [digB] using this
    have := itoa_inj this
    omega
  obtain ⟨e5, e6⟩ := List.append_inj e2 (by rw [sbytes_len, sbytes_len, e4])
  exact Prod.ext (sbytes_inj e5) (keysB_inj hp.2 hq.2 hp.1.2.2 hq.1.2.2 e6)
def posF (i : Nat) : List Stm → Stm → Option Int
  | [], _ => none
  | p :: r, q => if p = q then some (i : Int) else posF (i + 1) r q
def pos (S : List Stm) (q : Stm) : Option Int := posF 0 S q
def idsF (i : Nat) : List Stm → List (ByteArray × Int)
  | [] => []
  | p :: r => (markB p, (i : Int)) :: idsF (i + 1) r
theorem mget_ids {q : Stm} (hq : good q) : ∀ (S : List Stm) (i : Nat), (∀ p ∈ S, good p) → mget (idsF i S) (markB q) = posF i S q
  | [], i, _ => rfl
  | p :: r, i, h => by
    simp only [idsF, mget, posF]
    by_cases e : p = q
    · rw [if_pos (by rw [e]), if_pos e]
    · rw [if_neg (fun hm => e (markB_inj (h p (List.mem_cons_self ..)) hq hm)), if_neg e]
      exact mget_ids hq r (i + 1) (fun x hx => h x (List.mem_cons_of_mem _ hx))
theorem mset_ids {q : Stm} (hq : good q) : ∀ (S : List Stm) (i : Nat), (∀ p ∈ S, good p) → posF i S q = none → mset (idsF i S) (markB q) ((i + S.length : Nat) : Int) = idsF i (S ++ [q])
  | [], i, _, _ => by simp [idsF, mset]
  | p :: r, i, h, hn => by
    simp only [posF] at hn
    by_cases e : p = q
    · rw [if_pos e] at hn; cases hn
    · rw [if_neg e] at hn
      have := mset_ids hq r (i + 1) (fun x hx => h x (List.mem_cons_of_mem _ hx)) hn
      simp only [idsF, mset, List.cons_append]
      rw [if_neg (fun hm => e (markB_inj (h p (List.mem_cons_self ..)) hq hm))]
      rw [← this]
      simp only [List.length_cons]
      rw [show i + (r.length + 1) = i + 1 + r.length by omega]
theorem posF_some {q : Stm} : ∀ (S : List Stm) (i : Nat) {k : Int}, posF i S q = some k → ∃ j : Nat, k = ((i + j : Nat) : Int) ∧ S[j]? = some q
  | [], _, _, h => by cases h
  | p :: r, i, k, h => by
    simp only [posF] at h
    by_cases e : p = q
    · rw [if_pos e] at h
      cases h
      exact ⟨0, rfl, by rw [e]; rfl⟩
    · rw [if_neg e] at h
      obtain ⟨j, h1, h2⟩ := posF_some r (i + 1) h
      exact ⟨j + 1, by rw [h1]; congr 1; omega, by simpa using h2⟩
theorem posF_none {q : Stm} : ∀ (S : List Stm) (i : Nat), posF i S q = none ↔ q ∉ S
  | [], _ => by simp [posF]
  | p :: r, i => by
    simp only [posF]
    by_cases e : p = q
    · rw [if_pos e]; simp [e]
    · rw [if_neg e, posF_none r (i + 1)]
      simp [Ne.symm e]
def DS (most : Int) (S : List Stm) : streams_Dict := ⟨most, S.map fun p => ⟨p.1, p.2⟩, idsF 0 S⟩
structure OkS (S : List Stm) : Prop where
  len : S.length ≤ 1000
  good : ∀ p ∈ S, good p
def findA (S : List Stm) (q : Stm) : Int × Bool := ((pos S q).getD 0, (pos S q).isSome)
def addA (most : Int) (S : List Stm) (q : Stm) : Int × Int × List Stm :=
  if allV q.2 = true then (match pos S q with
    | some i => (i, 0, S)
    | none => if (S.length : Int) ≥ most then (0, 80, S) else ((S.length : Int), 0, S ++ [q])) else (0, 10, S)
theorem pos_bad {S : List Stm} (hS : OkS S) {q : Stm} (h : ¬ allV q.2 = true) : pos S q = none := (posF_none S 0).2 fun hm => h (hS.good q hm).2
theorem find1_eq (v : api_Value) : streams_Dict_Find_1 v = some (!validS v) := by unfold streams_Dict_Find_1; rw [valid_eq, Option.bind_some]
theorem didx_l0 {ks : List api_Value} (hl : ks.length ≤ 1048576) : ∀ (fuel i : Nat), i ≤ ks.length → ks.length < i + fuel →
    ∃ r, slices_IndexFunc_api_Value_api_Value_f_streams_Dict_Find_1.l0 ks fuel (i : Int) = some r ∧ decide (r ≥ 0) = !allV (ks.drop i)
  | 0, i, _, h => by omega
  | fuel + 1, i, h1, h2 => by
    rw [slices_IndexFunc_api_Value_api_Value_f_streams_Dict_Find_1.l0]
    by_cases hi : i < ks.length
    · obtain ⟨x, hx, ex⟩ := getE hi
      rw [if_pos (dlt hi), ix_of hx, Option.bind_some, find1_eq, Option.bind_some, ex]
      by_cases hv : validS x = true
      · obtain ⟨r, e1, e2⟩ := didx_l0 hl fuel (i + 1) (by omega) (by omega)
        refine ⟨r, by rw [if_neg (by simp [hv]), w64_nat i (by omega), e1], ?_⟩
        rw [e2]; simp [allV, hv]
      · refine ⟨(i : Int), by rw [if_pos (by simpa using hv)], ?_⟩
        simp [allV, hv]
    · refine ⟨-1, by rw [if_neg (dnl (by omega))], ?_⟩
      rw [List.drop_of_length_le (by omega)]
      simp [allV]
theorem contains_eq {ks : List api_Value} (hl : ks.length ≤ 1048576) : slices_ContainsFunc_api_Value_api_Value_f_streams_Dict_Find_1 ks = some (!allV ks) := by
  unfold slices_ContainsFunc_api_Value_api_Value_f_streams_Dict_Find_1 slices_IndexFunc_api_Value_api_Value_f_streams_Dict_Find_1
  rw [fuel_nat]
  obtain ⟨r, e1, e2⟩ := didx_l0 hl (ks.length + 1) 0 (Nat.zero_le _) (by omega)
  rw [show ((0 : Nat) : Int) = 0 from rfl] at e1
  rw [e1, Option.bind_some, e2]
  rfl
theorem dfind_eq {most : Int} {S : List Stm} (hS : OkS S) {n : ByteArray} {ks : List api_Value} (h : okQ (n, ks)) : streams_Dict_Find (DS most S) n ks = some (findA S (n, ks)) := by
  unfold streams_Dict_Find
  rw [contains_eq h.2.1, Option.bind_some]
  by_cases hv : allV ks = true
  · rw [if_neg (by simp [hv]), mark_eq h, if_pos hv, Option.bind_some]
    show some ((mget (idsF 0 S) (markB (n, ks))).getD 0, (mget (idsF 0 S) (markB (n, ks))).isSome) = _
    rw [mget_ids ⟨h, hv⟩ S 0 hS.good]
    rfl
  · rw [if_pos (by simpa using hv)]
    unfold findA
    rw [pos_bad hS (q := (n, ks)) hv]
    rfl
theorem cpy_rep {α : Type} (z : α) (ys : List α) : cpy (List.replicate ys.length z) ys = ys := by
  unfold cpy
  rw [List.length_replicate, Nat.min_self, List.take_of_length_le (Nat.le_refl _), List.drop_of_length_le (by simp), List.append_nil]
theorem dadd_eq {most : Int} {S : List Stm} (hS : OkS S) {n : ByteArray} {ks : List api_Value} (h : okQ (n, ks)) :
    streams_Dict_Add (DS most S) n ks = some ((addA most S (n, ks)).1, (addA most S (n, ks)).2.1, DS most (addA most S (n, ks)).2.2) := by
  unfold streams_Dict_Add
  rw [mark_eq h, Option.bind_some]
  unfold addA
  simp only
  by_cases hv : allV ks = true
  · rw [if_pos hv, if_pos hv, if_neg (by simp)]
    show (if (mget (idsF 0 S) (markB (n, ks))).isSome = true then _ else _) = _
    rw [mget_ids ⟨h, hv⟩ S 0 hS.good]
    show (if (pos S (n, ks)).isSome = true then _ else _) = _
    cases hp : pos S (n, ks) with
    | some i =>
      rw [if_pos (show (some i).isSome = true from rfl)]
      show some ((mget (idsF 0 S) (markB (n, ks))).getD 0, 0, _) = _
      rw [mget_ids ⟨h, hv⟩ S 0 hS.good, show posF 0 S (n, ks) = some i from hp]
      rfl
    | none =>
      have hlen := hS.len
      rw [if_neg (by simp)]
      have el : ((DS most S).l.length : Int) = (S.length : Int) := by simp [DS]
      rw [el]
      by_cases hm : (S.length : Int) ≥ most
      · rw [if_pos (by simpa [DS] using hm)]
        simp only [if_pos hm]
      · rw [if_neg (by simpa [DS] using hm)]
        have h2 : ks.length ≤ 1048576 := h.2.1
        have emk : ∀ z : api_Value, mkS 96 (ks.length : Int) z = some (List.replicate ks.length z) := fun z => by
          unfold mkS
          rw [if_pos (by omega), if_pos (by omega)]
          simp
        rw [emk, Option.bind_some, cpy_rep, apd_of (by simp [DS]; omega), Option.bind_some]
        simp only [if_neg hm]
        congr 1
        refine Prod.ext ?_ (Prod.ext rfl ?_)
        · simp only [DS, List.length_append, List.length_map, List.length_cons, List.length_nil]
          rw [w64 (by omega) (by omega)]; omega
        · simp only [DS, streams_Dict.mk.injEq, List.map_append, List.map_cons, List.map_nil, true_and]
          have := mset_ids (q := (n, ks)) ⟨h, hv⟩ S 0 hS.good hp
          rw [Nat.zero_add] at this
          rw [this]
  · rw [if_neg hv, if_neg hv, if_pos (by simp)]
theorem addA_ok {most : Int} {S : List Stm} (hS : OkS S) (hl : S.length < 1000) {q : Stm} (h : okQ q) : OkS (addA most S q).2.2 := by
  unfold addA
  split
  · rename_i hv
    split
    · exact hS
    · split
      · exact hS
      · exact ⟨by simp; omega, fun p hp => by
          rcases List.mem_append.1 hp with hp | hp
          · exact hS.good p hp
          · simp only [List.mem_singleton] at hp
            subst hp
            exact ⟨h, hv⟩⟩
  · exact hS
end Go.Proofs.YtchgiggipimigaaGreatDoor.M
end
section
namespace Go.Proofs.YtchgiggipimigaaGreatDoor.M
open Go Go.Eng Go.Proofs Go.RowKit
set_option maxRecDepth 100000
set_option linter.unusedVariables false
set_option linter.unusedSimpArgs false
def ofF (n : ByteArray) : Nat → List Stm → List Int
  | _, [] => []
  | i, p :: r => if p.1 = n then (i : Int) :: ofF n (i + 1) r else ofF n (i + 1) r
theorem ofF_len (n : ByteArray) : ∀ (S : List Stm) (i : Nat), (ofF n i S).length ≤ S.length
  | [], _ => by simp [ofF]
  | p :: r, i => by
    have := ofF_len n r (i + 1)
    simp only [ofF]
    split <;> simp <;> omega
theorem map_get {α β : Type} {f : α → β} {l : List α} {i : Nat} {x : α} (h : l[i]? = some x) : (l.map f)[i]? = some (f x) := by simp [h]
theorem of_l0 {most : Int} {S : List Stm} (hS : S.length ≤ 1000) (n : ByteArray) : ∀ (fuel i : Nat) (acc : List Int), i ≤ S.length → S.length < i + fuel → acc.length ≤ i →
    streams_Dict_Of.l0 (DS most S) n fuel acc (i : Int) = some (acc ++ ofF n i (S.drop i))
  | 0, i, _, _, h, _ => by omega
  | fuel + 1, i, acc, h1, h2, h3 => by
    have hl : (DS most S).l.length = S.length := by simp [DS]
    rw [streams_Dict_Of.l0, hl]
    by_cases hi : i < S.length
    · obtain ⟨x, hx, ex⟩ := getE hi
      rw [if_pos (dlt hi), ix_of (show (DS most S).l[i]? = some ⟨x.1, x.2⟩ from map_get hx), Option.bind_some, ex]
      simp only [str_eq, decide_eq_true_eq, streams_Dict_Of.j1, ofF]
      by_cases hn : x.1 = n
      · rw [if_pos hn, if_pos hn, apd_of (by simp; omega), Option.bind_some, w64_nat i (by omega), of_l0 hS n fuel (i + 1) _ (by omega) (by omega) (by simp; omega)]
        simp
      · rw [if_neg hn, if_neg hn, w64_nat i (by omega), of_l0 hS n fuel (i + 1) _ (by omega) (by omega) (by omega)]
    · rw [if_neg (dnl (by omega)), List.drop_of_length_le (by omega)]
      simp [ofF]
theorem of_eq {most : Int} {S : List Stm} (hS : S.length ≤ 1000) (n : ByteArray) : streams_Dict_Of (DS most S) n = some (ofF n 0 S) := by
  unfold streams_Dict_Of
  rw [show (DS most S).l.length = S.length by simp [DS], fuel_nat]
  exact of_l0 hS n _ 0 [] (Nat.zero_le _) (by omega) (by simp)
theorem keys_in {most : Int} {S : List Stm} (hS : OkS S) {i : Nat} {x : Stm} (hx : S[i]? = some x) : streams_Dict_Keys (DS most S) (i : Int) = some (x.1, x.2, true) := by
  have hi := (List.getElem?_eq_some_iff.1 hx).1
  have hg := (hS.good x (List.mem_of_getElem? hx)).1
  unfold streams_Dict_Keys streams_Dict_Keys.j0 slices_Clone_api_Value_api_Value
  rw [if_neg (by simp), show (DS most S).l.length = S.length by simp [DS], if_neg (dng hi), ix_of (show (DS most S).l[i]? = some ⟨x.1, x.2⟩ from map_get hx), Option.bind_some, Option.bind_some, apd_of (by have := hg.2.1; simp; omega)]
  simp
theorem step {S S' : List Stm} {q : Stm} {a e : Int} (h : addA 2 S q = (a, e, S')) (hS : OkS S) (hq : okQ q) (hl : S.length < 1000) : streams_Dict_Add (DS 2 S) q.1 q.2 = some (a, e, DS 2 S') ∧ OkS S' := by
  have h1 := dadd_eq (most := 2) hS (n := q.1) (ks := q.2) hq
  have h2 := addA_ok (most := 2) hS hl hq
  have h' : addA 2 S (q.1, q.2) = (a, e, S') := h
  rw [h'] at h1
  rw [h] at h2
  exact ⟨h1, h2⟩
end Go.Proofs.YtchgiggipimigaaGreatDoor.M
end
section
namespace Go.Proofs.YtchgiggipimigaaGreatDoor.M
open Go Go.Eng Go.Proofs Go.RowKit
set_option maxRecDepth 100000
set_option linter.unusedVariables false
set_option linter.unusedSimpArgs false
theorem rword_l1 {s : ByteArray} (hn : s.size < 4611686018427387904) : ∀ (fuel i : Nat), i ≤ s.size → s.size < i + fuel → ref05_Word.l1 s fuel (i : Int) = some (((sbytes s).drop i).all (fun c => decide (c ≠ 35)) && nameS s)
  | 0, i, _, h => by omega
  | fuel + 1, i, h1, h2 => by
    have hl := sbytes_len s
    rw [ref05_Word.l1]
    by_cases hi : i < s.size
    · obtain ⟨c, hc, ec⟩ := getE (l := sbytes s) (i := i) (by omega)
      rw [if_pos (dlt hi), ixs_of hc, Option.bind_some, ec, List.all_cons, w64_nat i (by omega), rword_l1 hn fuel (i + 1) (by omega) (by omega)]
      by_cases e : c = 35 <;> simp [e]
    · rw [if_neg (dnl (by omega)), List.drop_of_length_le (by omega), rname_eq hn, Option.bind_some]; simp
theorem rword_l0 {s : ByteArray} {ws : List ByteArray} (hn : s.size < 4611686018427387904) (hw : ws.length ≤ 1000) : ∀ (fuel i : Nat), i ≤ ws.length → ws.length < i + fuel → ref05_Word.l0 s fuel ws (i : Int) = some (notin s (ws.drop i) && ((sbytes s).all (fun c => decide (c ≠ 35)) && nameS s))
  | 0, i, _, h => by omega
  | fuel + 1, i, h1, h2 => by
    rw [ref05_Word.l0]
    by_cases hi : i < ws.length
    · obtain ⟨c, hc, ec⟩ := getE hi
      rw [if_pos (dlt hi), ix_of hc, Option.bind_some, str_eq, ec, w64_nat i (by omega), rword_l0 hn hw fuel (i + 1) (by omega) (by omega)]
      by_cases e : s = c <;> simp [notin, e]
    · have := rword_l1 hn (s.size + 1) 0 (Nat.zero_le _) (by omega)
      rw [if_neg (dnl (by omega)), List.drop_of_length_le (by omega), fuel_nat, show (0 : Int) = ((0 : Nat) : Int) from rfl, this]
      simp [notin]
theorem rword_eq {s : ByteArray} (hn : s.size < 4611686018427387904) : ref05_Word s = some (wordS s) := by
  have := rword_l0 (ws := takenW) hn (by decide) 25 0 (Nat.zero_le _) (by decide)
  rw [List.drop_zero] at this
  have e : ref05_Word s = ref05_Word.l0 s 25 takenW ((0 : Nat) : Int) := rfl
  rw [e, this]
  unfold wordS
  congr 1
  cases nameS s <;> cases (sbytes s).all (fun c => decide (c ≠ 35)) <;> cases notin s takenW <;> rfl
theorem rfnd_l0 {l : List api_Schema} {name : ByteArray} (hn : l.length < 4611686018427387904) : ∀ (fuel i : Nat), i ≤ l.length → l.length < i + fuel → ref05_Find.l0 l name fuel (i : Int) = some (findSc (l.drop i) name)
  | 0, i, _, h => by omega
  | fuel + 1, i, h1, h2 => by
    rw [ref05_Find.l0]
    by_cases hi : i < l.length
    · obtain ⟨x, hx, ex⟩ := getE hi
      rw [if_pos (dlt hi), ix_of hx, Option.bind_some, Option.bind_some, str_eq, ex, findSc_cons, w64_nat i (by omega), rfnd_l0 hn fuel (i + 1) (by omega) (by omega)]
      by_cases e : x.Name = name <;> simp [e]
    · rw [if_neg (dnl (by omega)), List.drop_of_length_le (by omega)]; rfl
theorem rfnd_eq {l : List api_Schema} {name : ByteArray} (hn : l.length < 4611686018427387904) : ref05_Find l name = some (findSc l name) := by
  unfold ref05_Find
  rw [fuel_nat]
  exact rfnd_l0 hn _ 0 (Nat.zero_le _) (by omega)
theorem rone_l1 {s : api_Schema} {cs : List api_Col} (hc : okCols cs) : ∀ (fuel i : Nat), i ≤ cs.length → cs.length < i + fuel →
    ref05_One.l1 s cs fuel (i : Int) = some ((cs.drop i).all (fun c => wordS c.Name) && ((cs.take s.Keys.length).drop i).all (fun c => decide (c.Kind ≠ 4)) && colsS cs)
  | 0, i, _, h => by omega
  | fuel + 1, i, h1, h2 => by
    have hn := hc.1
    rw [ref05_One.l1]
    by_cases hi : i < cs.length
    · obtain ⟨x, hx, ex⟩ := getE hi
      have ih := rone_l1 (s := s) hc fuel (i + 1) (by omega) (by omega)
      rw [if_pos (dlt hi), ix_of hx, Option.bind_some, rword_eq (hc.2 x (List.mem_of_getElem? hx)), Option.bind_some, Option.bind_some, ex, List.all_cons]
      simp only [ref05_One.j2, w64_nat i (by omega), ih]
      by_cases hk : i < s.Keys.length
      · have et : (cs.take s.Keys.length).drop i = x :: (cs.take s.Keys.length).drop (i + 1) := by
          have hg : (cs.take s.Keys.length)[i]? = some x := by rw [List.getElem?_take, if_pos hk, hx]
          obtain ⟨y, hy, ey⟩ := getE (l := cs.take s.Keys.length) (i := i) (List.getElem?_eq_some_iff.1 hg).1
          rw [hg] at hy; rw [ey, Option.some.inj hy]
        rw [et, List.all_cons]
        cases wordS x.Name
        · simp
        · by_cases e : x.Kind = 4
          · simp [e, hk]
          · simp [e, hk]
      · have et : ∀ j, s.Keys.length ≤ j → (cs.take s.Keys.length).drop j = [] := fun j hj => List.drop_of_length_le (by rw [List.length_take]; omega)
        rw [et i (by omega), et (i + 1) (by omega)]
        cases wordS x.Name
        · simp
        · simp [hk]
    · rw [if_neg (dnl (by omega)), List.drop_of_length_le (by omega), List.drop_of_length_le (by rw [List.length_take]; omega), rcols_eq hc, Option.bind_some]; rfl
theorem rone_eq {s : api_Schema} (h : szS s) : ref05_One s = some (oneS s) := by
  have hk := h.k
  have hv := h.v
  have hnn := h.n
  have hj : ref05_One.j0 s true = some false := by unfold ref05_One.j0; rw [if_pos rfl]
  unfold ref05_One
  rw [rword_eq (by omega), Option.bind_some, hj]
  by_cases hf : few s = true
  · have hf' := hf
    unfold few at hf'
    simp only [decide_eq_true_eq] at hf'
    have hw := rone_l1 (s := s) (h.cols hf) ((s.Keys ++ s.Vals).length + 1) 0 (Nat.zero_le _) (by omega)
    rw [List.drop_zero, List.drop_zero, List.take_left, show ((0 : Nat) : Int) = 0 from rfl] at hw
    have hj2 : ref05_One.j0 s (decide ((s.Vals.length : Int) > 4)) = some ((s.Keys ++ s.Vals).all (fun c => wordS c.Name) && s.Keys.all (fun c => decide (c.Kind ≠ 4)) && colsS (s.Keys ++ s.Vals)) := by
      unfold ref05_One.j0
      rw [if_neg (by simp; omega), apd_of (by simp; omega), Option.bind_some, List.nil_append, apd_of (by omega), Option.bind_some, fuel_nat, hw]
    rw [hj2, if_neg (by simp; omega : ¬ decide ((s.Keys.length : Int) < 1) = true), if_neg (by simp; omega : ¬ decide ((s.Keys.length : Int) > 4) = true), if_neg (by simp; omega : ¬ decide ((s.Vals.length : Int) < 1) = true)]
    unfold oneS
    rw [hf]
    cases wordS s.Name <;> simp
  · have hf' : few s = false := by simpa using hf
    have e : oneS s = false := by unfold oneS; rw [hf']; rfl
    rw [e]
    unfold few at hf
    simp only [decide_eq_true_eq] at hf
    cases wordS s.Name
    · rfl
    · rw [if_neg (by simp)]
      by_cases h1 : s.Keys.length < 1
      · rw [if_pos (by simp only [decide_eq_true_eq]; omega)]
      · rw [if_neg (by simp only [decide_eq_true_eq]; omega)]
        by_cases h2 : s.Keys.length > 4
        · rw [if_pos (by simp only [decide_eq_true_eq]; omega)]
        · rw [if_neg (by simp only [decide_eq_true_eq]; omega)]
          by_cases h3 : s.Vals.length < 1
          · rw [if_pos (by simp only [decide_eq_true_eq]; omega)]
          · have : decide ((s.Vals.length : Int) > 4) = true := by simp only [decide_eq_true_eq]; omega
            rw [if_neg (by simp only [decide_eq_true_eq]; omega), this, hj]
theorem rchk_l2 {l : List api_Schema} {kl : Int → Option Int} {i : Nat} {s : api_Schema} (hi : l[i]? = some s) (hn : l.length < 4611686018427387904) : ∀ (fuel k : Nat), k ≤ i → i < k + fuel →
    ref05_Check.l2 kl l (i : Int) fuel (k : Int) = if namedIn ((l.take i).drop k) s = true then some 50 else kl (IntKind.i64.wrap ((i : Int) + 1))
  | 0, k, _, h => by omega
  | fuel + 1, k, h1, h2 => by
    have hl := (List.getElem?_eq_some_iff.1 hi).1
    rw [ref05_Check.l2]
    by_cases hk : k < i
    · have hg : (l.take i)[k]? = l[k]? := by rw [List.getElem?_take, if_pos hk]
      obtain ⟨x, hx, ex⟩ := getE (l := l.take i) (i := k) (by rw [List.length_take]; omega)
      rw [hg] at hx
      rw [if_pos (by simpa using hk), ix_of hx, Option.bind_some, ix_of hi, Option.bind_some, str_eq, w64_nat k (by omega), rchk_l2 hi hn fuel (k + 1) (by omega) (by omega), ex]
      by_cases e : x.Name = s.Name <;> simp [namedIn, e]
    · rw [if_neg (by simpa using hk), List.drop_of_length_le (by rw [List.length_take]; omega)]; rfl
theorem rchkL_l1 {l : List api_Schema} (h : szL l) : ∀ (fuel i : Nat), i ≤ l.length → l.length < i + fuel → ref05_Check.l1 l fuel (i : Int) = some (if chkL (l.take i) (l.drop i) = true then 0 else 50)
  | 0, i, _, h => by omega
  | fuel + 1, i, h1, h2 => by
    have hn := h.1
    rw [ref05_Check.l1]
    by_cases hi : i < l.length
    · obtain ⟨x, hx, ex⟩ := getE hi
      have ih := rchkL_l1 h fuel (i + 1) (by omega) (by omega)
      have et : l.take (i + 1) = l.take i ++ [x] := by rw [List.take_add_one, hx]; rfl
      rw [if_pos (dlt hi), ix_of hx, Option.bind_some, rone_eq (h.2 x (List.mem_of_getElem? hx)), Option.bind_some, ex, chkL]
      have h2 := rchk_l2 (kl := ref05_Check.l1 l fuel) hx hn (((i : Int) - 0).toNat + 1) 0 (Nat.zero_le _) (by omega)
      rw [List.drop_zero, w64_nat i (by omega), ih, et, show ((0 : Nat) : Int) = 0 from rfl] at h2
      rw [h2]
      cases oneS x
      · simp
      · cases namedIn (l.take i) x <;> simp
    · rw [if_neg (dnl (by omega)), List.drop_of_length_le (by omega)]; rfl
theorem rchkS_eq {l : List api_Schema} (h : szL l) : ref05_Check l = some (checkL l) := by
  have h0 := rchkL_l1 h (l.length + 1) 0 (Nat.zero_le _) (by omega)
  rw [List.take_zero, List.drop_zero, show ((0 : Nat) : Int) = 0 from rfl] at h0
  unfold ref05_Check checkL ref05_Check.j0
  rw [fuel_nat, h0]
  by_cases h1 : l.length < 1
  · rw [if_pos (by simp only [decide_eq_true_eq]; omega), if_pos rfl, if_neg (by omega)]
  · rw [if_neg (by simp only [decide_eq_true_eq]; omega)]
    by_cases h2 : l.length > 8
    · rw [if_pos (by simp only [decide_eq_true_eq]; omega), if_neg (by omega)]
    · rw [if_neg (by simp only [decide_eq_true_eq]; omega)]
      by_cases h3 : chkL [] l = true
      · rw [if_pos h3, if_pos ⟨by omega, by omega, h3⟩]
      · rw [if_neg h3, if_neg (fun h => h3 h.2.2)]
theorem rfit_l0 {l : List api_Value} {cs : List api_Col} (hn : l.length < 4611686018427387904) (hl : l.length = cs.length) : ∀ (fuel i : Nat), i ≤ l.length → l.length < i + fuel →
    ref05_fits.l0 l cs fuel (i : Int) = some (rowOk (l.drop i) (cs.drop i))
  | 0, i, _, h => by omega
  | fuel + 1, i, h1, h2 => by
    rw [ref05_fits.l0]
    by_cases hi : i < l.length
    · obtain ⟨v, hv, ev⟩ := getE hi
      obtain ⟨c, hc, ec⟩ := getE (l := cs) (i := i) (by omega)
      rw [if_pos (dlt hi), ix_of hv, Option.bind_some, ix_of hc, Option.bind_some, Option.bind_some, rvalid_eq, Option.bind_some, ev, ec, rowOk]
      simp only [ref05_fits.j1, w64_nat i (by omega), rfit_l0 hn hl fuel (i + 1) (by omega) (by omega)]
      by_cases e : v.Kind = c.Kind
      · cases validS v <;> simp [e]
      · simp [e]
    · rw [if_neg (dnl (by omega)), List.drop_of_length_le (by omega), List.drop_of_length_le (by omega)]; rfl
theorem rfit_eq {l : List api_Value} {cs : List api_Col} (hn : l.length < 4611686018427387904) : ref05_fits l cs = some (rowOk l cs) := by
  unfold ref05_fits
  by_cases hl : l.length = cs.length
  · have := rfit_l0 hn hl (l.length + 1) 0 (Nat.zero_le _) (by omega)
    rw [if_neg (by simp [hl]), fuel_nat, show (0 : Int) = ((0 : Nat) : Int) from rfl, this]; rfl
  · rw [if_pos (by simp; omega)]
    cases h : rowOk l cs with
    | false => rfl
    | true => exact absurd (rowOk_len h) hl
theorem rfits_eq {l : List api_Schema} {p : api_Point} (hl : l.length < 4611686018427387904) (hp : szP p) : ref05_Fits l p = some (fitsS l p) := by
  unfold ref05_Fits fitsS
  rw [rfnd_eq hl, Option.bind_some]
  cases hf : (findSc l p.Schema).2
  · rw [if_pos (by simp), if_pos rfl]
  · rw [if_neg (show ¬ ((!true) = true) by decide), rfit_eq hp.k, Option.bind_some]
    simp only [ref05_Fits.j0]
    cases rowOk p.Keys (findSc l p.Schema).1.Keys
    · simp
    · rw [if_neg (show ¬ ((!true) = true) by decide), rfit_eq hp.v, Option.bind_some]
      cases rowOk p.Vals (findSc l p.Schema).1.Vals
      · simp
      · rw [if_neg (show ¬ ((!true) = true) by decide)]
        by_cases h1 : p.Time < 0
        · have h1' : decide (p.Time < 0) = true := by simpa using h1
          rw [if_pos h1', if_pos trivial, if_neg (by decide), if_neg (fun h => by omega)]
        · have h1' : ¬ decide (p.Time < 0) = true := by simpa using h1
          rw [if_neg h1']
          by_cases h2 : p.Time < 1099511627776
          · have h2' : ¬ decide (p.Time ≥ 1099511627776) = true := by simpa using h2
            rw [if_neg h2', if_neg (by decide), if_pos ⟨rfl, rfl, by omega, h2⟩]
          · have h2' : decide (p.Time ≥ 1099511627776) = true := by simpa using h2
            rw [if_pos h2', if_neg (by decide), if_neg (fun h => h2 h.2.2.2)]
theorem rcolsOf_eq {s : api_Schema} (h : (s.Keys.length + s.Vals.length + 1) * 24 ≤ 140737488355328) : ref05_Cols s = some (colsOf s) := by
  unfold ref05_Cols
  rw [apd_of (by simp only [List.length_singleton]; omega), Option.bind_some, apd_of (by simp only [List.length_append, List.length_singleton]; omega), Option.bind_some]
  unfold colsOf timeC; simp
theorem dclone_eq {most : Int} {S : List Stm} (hS : S.length ≤ 1000) : streams_Dict_Clone (DS most S) = some (DS most S) := by
  unfold streams_Dict_Clone slices_Clone_streams_stream_streams_stream maps_Clone_map_string_int_string_int
  rw [apd_of (by simp [DS]; omega)]
  simp
end Go.Proofs.YtchgiggipimigaaGreatDoor.M
end
section
namespace Go.Proofs.YtchgiggipimigaaGreatDoor.M
open Go Go.Eng Go.Proofs Go.RowKit
set_option maxRecDepth 100000
set_option linter.unusedVariables false
set_option linter.unusedSimpArgs false
abbrev Sm := api_Sample
def Inc (l : List Sm) : Prop := l.Pairwise fun a b => a.Time < b.Time
def lb (l : List Sm) (t : Int) : Nat := (l.takeWhile fun x => decide (x.Time < t)).length
def okS (x : Sm) : Prop := x.Vals.length * 96 ≤ 140737488351232
theorem lb_le (l : List Sm) (t : Int) : lb l t ≤ l.length := by
  unfold lb
  exact (List.takeWhile_sublist _).length_le
theorem lb_lt : ∀ {l : List Sm} {t : Int}, Inc l → ∀ {h : Nat} {x : Sm}, l[h]? = some x → (x.Time < t ↔ h < lb l t)
  | [], t, _, h, x, hx => by simp at hx
  | y :: r, t, hl, h, x, hx => by
    obtain ⟨h1, h2⟩ := List.pairwise_cons.1 hl
    unfold lb
    rw [List.takeWhile_cons]
    by_cases hy : y.Time < t
    · simp only [hy, decide_true, if_true, List.length_cons]
      cases h with
      | zero => simp at hx; subst hx; simp [hy]
      | succ h =>
        have := lb_lt (t := t) h2 (by simpa using hx)
        unfold lb at this
        omega
    · simp only [hy, decide_false, Bool.false_eq_true, if_false, List.length_nil, Nat.not_lt_zero, iff_false]
      cases h with
      | zero => simp at hx; subst hx; exact hy
      | succ h =>
        have := h1 x (List.mem_of_getElem? (by simpa using hx))
        omega
theorem cmp_eq (x : Sm) (t : Int) : runs_Run_place_1 x t = some (if x.Time < t then -1 else if x.Time > t then 1 else 0) := by
  unfold runs_Run_place_1 cmp_Compare_int cmp_isNaN_int
  have e : ∀ z : Int, (z != z) = false := fun z => by simp
  simp only [e, Option.bind_some, Bool.false_eq_true, if_false, decide_eq_true_eq]
  by_cases h1 : x.Time < t
  · simp [h1]
  · by_cases h2 : x.Time > t
    · simp [h1, h2]
    · simp [h1, h2]
theorem mid_eq (i j : Nat) (h : i + j < 4611686018427387904) : IntKind.i64.wrap ((IntKind.u64.wrap (IntKind.i64.wrap ((i : Int) + (j : Int)))).fdiv (2 ^ (min (1 : Int).toNat 64))) = (((i + j) / 2 : Nat) : Int) := by
  rw [w64 (x := (i : Int) + (j : Int)) (by omega) (by omega)]
  have e1 : IntKind.u64.wrap ((i : Int) + (j : Int)) = (i : Int) + (j : Int) := by
    simp only [IntKind.wrap, IntKind.bits, IntKind.signed, Bool.false_and, Bool.false_eq_true, if_false]
    omega
  have e2 : (2 : Int) ^ (min (1 : Int).toNat 64) = 2 := by decide
  rw [e1, e2, Int.fdiv_eq_ediv_of_nonneg _ (by decide), w64 (by omega) (by omega)]
  omega
def hasAt (l : List Sm) (t : Int) : Bool := match l[lb l t]? with
  | some x => x.Time == t
  | none => false
theorem bs_l0 {l : List Sm} {t : Int} (hl : Inc l) (hn : l.length < 2305843009213693952) : ∀ (fuel i j : Nat), i ≤ lb l t → lb l t ≤ j → j ≤ l.length → j - i < fuel →
    slices_BinarySearchFunc_api_Sample_api_Sample_int_f_runs_Run_place_1.l0 l t fuel (i : Int) (j : Int) = some ((lb l t : Int), hasAt l t)
  | 0, i, j, _, _, _, h => by omega
  | fuel + 1, i, j, h1, h2, h3, h4 => by
    rw [slices_BinarySearchFunc_api_Sample_api_Sample_int_f_runs_Run_place_1.l0]
    by_cases hij : i < j
    · have hd : decide ((i : Int) < (j : Int)) = true := by simpa using hij
      rw [if_pos hd, mid_eq i j (by omega)]
      have hm : (i + j) / 2 < l.length := by omega
      have hx := List.getElem?_eq_getElem hm
      rw [ix_of hx]
      simp only [Option.bind_some, cmp_eq]
      have hlt := lb_lt (t := t) hl hx
      by_cases hc : (l[(i + j) / 2]).Time < t
      · simp only [hc, if_true, decide_true, show decide ((-1 : Int) < 0) = true from rfl, slices_BinarySearchFunc_api_Sample_api_Sample_int_f_runs_Run_place_1.j1]
        have := hlt.1 hc
        rw [w64_nat _ (by omega)]
        exact bs_l0 hl hn fuel _ j (by omega) h2 h3 (by omega)
      · have hz : decide ((if (l[(i + j) / 2]).Time > t then (1 : Int) else 0) < 0) = false := by split <;> rfl
        have := mt hlt.2 hc
        simp only [hc, if_false, hz, Bool.false_eq_true, slices_BinarySearchFunc_api_Sample_api_Sample_int_f_runs_Run_place_1.j1]
        exact bs_l0 hl hn fuel i _ h1 (by omega) (by omega) (by omega)
    · have hd : ¬ (decide ((i : Int) < (j : Int)) = true) := by simpa using hij
      have hi : i = lb l t := by omega
      subst hi
      rw [if_neg hd]
      by_cases hi : lb l t < l.length
      · have hx := List.getElem?_eq_getElem hi
        have hlt := lb_lt (t := t) hl hx
        have hnt : ¬ (l[lb l t]).Time < t := fun h => by have := hlt.1 h; omega
        rw [if_pos (by simpa using hi), ix_of hx]
        simp only [Option.bind_some, cmp_eq, hasAt, hx, hnt, if_false]
        congr 2
        by_cases he : (l[lb l t]).Time > t
        · have : ¬ (l[lb l t]).Time = t := by omega
          simp [he, this]
        · have : (l[lb l t]).Time = t := by omega
          simp [he, this]
      · rw [if_neg (by simpa using hi)]
        have : l[lb l t]? = none := List.getElem?_eq_none (by omega)
        simp [hasAt, this]
theorem place_eq {l : List Sm} {t : Int} (hl : Inc l) (hn : l.length < 2305843009213693952) : runs_Run_place ⟨l⟩ t = some ((lb l t : Int), hasAt l t) := by
  unfold runs_Run_place slices_BinarySearchFunc_api_Sample_api_Sample_int_f_runs_Run_place_1
  have := bs_l0 (t := t) hl hn (((l.length : Int) - 0).toNat + 1) 0 l.length (Nat.zero_le _) (lb_le l t) (Nat.le_refl _) (by omega)
  rw [show ((0 : Nat) : Int) = 0 from rfl] at this
  rw [this]; rfl
theorem hasAt_iff {l : List Sm} {t : Int} (hl : Inc l) : hasAt l t = true ↔ ∃ x ∈ l, x.Time = t := by
  constructor
  · intro h
    unfold hasAt at h
    split at h
    · rename_i x hx
      exact ⟨x, List.mem_of_getElem? hx, by simpa using h⟩
    · cases h
  · rintro ⟨x, hx, rfl⟩
    obtain ⟨h, hh, e⟩ := List.getElem_of_mem hx
    have hg : l[h]? = some x := by rw [List.getElem?_eq_getElem hh, e]
    have h1 : ¬ h < lb l x.Time := fun h' => by have := (lb_lt (t := x.Time) hl hg).2 h'; omega
    have h2 : lb l x.Time = h := by
      rcases Nat.lt_or_ge (lb l x.Time) h with h3 | h3
      · have hlt : lb l x.Time < l.length := by omega
        have := (List.pairwise_iff_getElem.1 hl) (lb l x.Time) h hlt hh h3
        rw [e] at this
        have := (lb_lt (t := x.Time) hl (List.getElem?_eq_getElem hlt)).1 this
        omega
      · omega
    simp [hasAt, h2, hg]
theorem rclone_eq {v : List api_Value} (h : v.length * 96 ≤ 140737488351232) : slices_Clone_api_Value_api_Value v = some v := by
  unfold slices_Clone_api_Value_api_Value
  rw [apd_of (by simp only [List.length_nil, Nat.zero_add]; omega)]; simp
def put (l : List Sm) (s : Sm) : List Sm := l.take (lb l s.Time) ++ (s :: l.drop (lb l s.Time))
theorem put_perm (l : List Sm) (s : Sm) : (put l s).Perm (s :: l) := by
  unfold put
  refine List.perm_middle.trans ?_
  rw [List.take_append_drop]
theorem put_inc {l : List Sm} {s : Sm} (hl : Inc l) (h : hasAt l s.Time = false) : Inc (put l s) := by
  have hno : ∀ x ∈ l, x.Time ≠ s.Time := fun x hx e => by
    have := (hasAt_iff (t := s.Time) hl).2 ⟨x, hx, e⟩
    rw [h] at this; cases this
  have hA : ∀ x ∈ l.take (lb l s.Time), x.Time < s.Time := fun x hx => by
    obtain ⟨i, hi, e⟩ := List.getElem_of_mem hx
    rw [List.getElem_take] at e
    simp only [List.length_take] at hi
    exact (lb_lt hl (h := i) (by rw [List.getElem?_eq_getElem (by omega), e])).2 (by omega)
  have hB : ∀ x ∈ l.drop (lb l s.Time), s.Time < x.Time := fun x hx => by
    obtain ⟨i, hi, e⟩ := List.getElem_of_mem hx
    rw [List.getElem_drop] at e
    simp only [List.length_drop] at hi
    have h1 := mt (lb_lt (t := s.Time) hl (h := lb l s.Time + i) (x := x) (by rw [List.getElem?_eq_getElem (by omega), e])).1 (by omega)
    have h2 := hno x (List.mem_of_mem_drop hx)
    omega
  unfold put Inc
  refine List.pairwise_append.2 ⟨hl.sublist (List.take_sublist _ _), List.pairwise_cons.2 ⟨hB, hl.sublist (List.drop_sublist _ _)⟩, fun x hx y hy => ?_⟩
  cases hy with
  | head => exact hA x hx
  | tail _ hy => have := hA x hx; have := hB y hy; omega
theorem runadd_eq {l : List Sm} {t : Int} {v : List api_Value} (hl : Inc l) (hn : l.length < 1000000) (hv : v.length * 96 ≤ 140737488351232) :
    runs_Run_Add ⟨l⟩ t v = some (if hasAt l t then (false, ⟨l⟩) else (true, ⟨put l ⟨t, v⟩⟩)) := by
  unfold runs_Run_Add
  rw [place_eq hl (by omega)]
  simp only [Option.bind_some]
  cases hh : hasAt l t with
  | true => simp
  | false =>
    simp only [Bool.false_eq_true, if_false, rclone_eq hv, Option.bind_some, slices_Insert_api_Sample_api_Sample, ins]
    have := lb_le l t
    rw [if_pos (by omega), if_pos (by omega), if_pos (by simp only [List.length_cons, List.length_nil]; omega)]
    simp [put]
def fr (l : List Sm) (a b : Int) : List Sm := l.filter fun x => decide (a ≤ x.Time) && decide (x.Time ≤ b)
theorem range_l0 {b : Int} {l : List Sm} (hn : l.length < 1000000) (hok : ∀ x ∈ l, okS x) : ∀ (fuel i : Nat) (acc : List Sm), i ≤ l.length → l.length - i < fuel → acc.length ≤ i →
    runs_Run_Range.l0 b l fuel acc (i : Int) = some (acc ++ (l.drop i).takeWhile fun x => decide (x.Time ≤ b))
  | 0, i, acc, _, h, _ => by omega
  | fuel + 1, i, acc, h1, h2, h3 => by
    rw [runs_Run_Range.l0]
    by_cases hi : i < l.length
    · have hx := List.getElem?_eq_getElem hi
      rw [if_pos (by simpa using hi), ix_of hx]
      simp only [Option.bind_some]
      rw [List.drop_eq_getElem_cons hi, List.takeWhile_cons]
      by_cases hc : (l[i]).Time ≤ b
      · have hc' : decide ((l[i]).Time > b) = false := by simp; omega
        have hk := hok _ (List.getElem_mem hi)
        unfold okS at hk
        rw [hc', rclone_eq hk]
        simp only [Bool.false_eq_true, if_false, Option.bind_some, hc, decide_true, if_true]
        rw [apd_of (by simp only [List.length_cons, List.length_nil]; omega)]
        simp only [Option.bind_some]
        rw [w64_nat _ (by omega), range_l0 hn hok fuel (i + 1) _ (by omega) (by omega) (by simp; omega)]
        simp
      · have hc' : decide ((l[i]).Time > b) = true := by simp; omega
        rw [hc']
        simp [hc]
    · rw [if_neg (by simpa using hi)]
      have : i = l.length := by omega
      subst this
      simp
theorem fr_eq : ∀ {l : List Sm} (a b : Int), Inc l → (l.drop (lb l a)).takeWhile (fun x => decide (x.Time ≤ b)) = fr l a b
  | [], a, b, _ => rfl
  | y :: r, a, b, hl => by
    obtain ⟨h1, h2⟩ := List.pairwise_cons.1 hl
    have ih := fr_eq a b h2
    by_cases hy : y.Time < a
    · have e1 : lb (y :: r) a = lb r a + 1 := by simp [lb, List.takeWhile_cons, hy]
      have e2 : ¬ a ≤ y.Time := by omega
      rw [e1, List.drop_succ_cons, ih]
      simp [fr, e2]
    · have e1 : lb (y :: r) a = 0 := by simp [lb, List.takeWhile_cons, hy]
      have e3 : lb r a = 0 := by
        cases r with
        | nil => rfl
        | cons z q =>
          have := h1 z (by simp)
          have hz : ¬ z.Time < a := by omega
          simp [lb, List.takeWhile_cons, hz]
      rw [e3, List.drop_zero] at ih
      rw [e1, List.drop_zero, List.takeWhile_cons]
      have e2 : a ≤ y.Time := by omega
      by_cases hb : y.Time ≤ b
      · simp only [hb, decide_true, if_true, ih]
        simp [fr, e2, hb]
      · simp only [hb, decide_false, Bool.false_eq_true, if_false]
        symm
        unfold fr
        rw [List.filter_eq_nil_iff]
        intro x hx
        cases hx with
        | head => simp [hb]
        | tail _ hx => have := h1 x hx; simp; intro _; omega
theorem range_eq {l : List Sm} {a b : Int} (hl : Inc l) (hn : l.length < 1000000) (hok : ∀ x ∈ l, okS x) : runs_Run_Range ⟨l⟩ a b = some (fr l a b) := by
  unfold runs_Run_Range
  rw [place_eq hl (by omega)]
  simp only [Option.bind_some]
  have := lb_le l a
  rw [cut_of (by omega) (by omega) (by omega)]
  simp only [Option.bind_some]
  have e : (l.drop ((lb l a : Int).toNat)).take ((l.length : Int).toNat - (lb l a : Int).toNat) = l.drop (lb l a) := by
    rw [Int.toNat_natCast, Int.toNat_natCast]
    exact List.take_of_length_le (by rw [List.length_drop]; omega)
  rw [e]
  have h0 := range_l0 (b := b) (l := l.drop (lb l a)) (by rw [List.length_drop]; omega) (fun x hx => hok x (List.mem_of_mem_drop hx)) ((((l.drop (lb l a)).length : Int) - 0).toNat + 1) 0 [] (Nat.zero_le _) (by omega) (Nat.le_refl _)
  rw [show ((0 : Nat) : Int) = 0 from rfl] at h0
  rw [h0, List.drop_zero, List.nil_append, fr_eq a b hl]
theorem fr_len (l : List Sm) (a b : Int) : (fr l a b).length ≤ l.length := List.length_filter_le _ _
end Go.Proofs.YtchgiggipimigaaGreatDoor.M
end
section
namespace Go.Proofs.YtchgiggipimigaaGreatDoor.M
open Go Go.Eng Go.Proofs Go.RowKit
set_option maxRecDepth 100000
set_option linter.unusedVariables false
set_option linter.unusedSimpArgs false
abbrev SR := Stm × List Sm
def mrF : Nat → List SR → List (Int × runs_Run)
  | _, [] => []
  | i, x :: r => ((i : Int), ⟨x.2⟩) :: mrF (i + 1) r
theorem mget_mr : ∀ (Q : List SR) (i j : Nat), mget (mrF i Q) ((i + j : Nat) : Int) = (Q[j]?).map (fun x => (⟨x.2⟩ : runs_Run))
  | [], i, j => by simp [mrF, mget]
  | x :: r, i, 0 => by simp [mrF, mget]
  | x :: r, i, j + 1 => by
    simp only [mrF, mget]
    rw [if_neg (by omega), show i + (j + 1) = (i + 1) + j by omega, mget_mr r (i + 1) j]
    simp
theorem mset_mr {x : SR} {l : List Sm} : ∀ (Q : List SR) (i j : Nat), Q[j]? = some x → mset (mrF i Q) ((i + j : Nat) : Int) ⟨l⟩ = mrF i (Q.set j (x.1, l))
  | [], i, j, h => by simp at h
  | y :: r, i, 0, h => by simp [mrF, mset]
  | y :: r, i, j + 1, h => by
    simp only [mrF, mset, List.set_cons_succ]
    rw [if_neg (by omega), show i + (j + 1) = (i + 1) + j by omega, mset_mr r (i + 1) j (by simpa using h)]
theorem mset_mr_new {q : Stm} {l : List Sm} : ∀ (Q : List SR) (i : Nat), mset (mrF i Q) ((i + Q.length : Nat) : Int) ⟨l⟩ = mrF i (Q ++ [(q, l)])
  | [], i => by simp [mrF, mset]
  | y :: r, i => by
    simp only [List.length_cons, List.cons_append, mrF, mset]
    rw [if_neg (by omega), show i + (r.length + 1) = (i + 1) + r.length by omega, mset_mr_new r (i + 1)]
def tot (Q : List SR) : Nat := (Q.map fun x => x.2.length).sum
def ptOf (q : Stm) (s : Sm) : api_Point := ⟨q.1, q.2, s.Time, s.Vals⟩
def ptsOf (Q : List SR) : List api_Point := Q.flatMap fun x => x.2.map (ptOf x.1)
theorem pts_len (Q : List SR) : (ptsOf Q).length = tot Q := by
  unfold ptsOf tot
  rw [List.length_flatMap]
  simp
def LF (sch : List api_Schema) (room : Int) (Q : List SR) : leaf_Leaf := ⟨sch, room, (tot Q : Int), DS room (Q.map (·.1)), mrF 0 Q⟩
structure GoodP (sch : List api_Schema) (p : api_Point) : Prop where
  fit : fitsS sch p = 0
  kw : ∀ v ∈ p.Keys, wfV v
structure WF (sch : List api_Schema) (Q : List SR) : Prop where
  sc : checkL sch = 0
  nd : (Q.map (·.1)).Nodup
  inc : ∀ x ∈ Q, Inc x.2
  ne : ∀ x ∈ Q, x.2 ≠ []
  pt : ∀ p ∈ ptsOf Q, GoodP sch p
  few : tot Q ≤ 1000
theorem sch_len {sch : List api_Schema} (h : checkL sch = 0) : sch.length ≤ 8 := (checkL_zero.1 h).2.1
theorem sch_one {sch : List api_Schema} (h : checkL sch = 0) {s : api_Schema} (hs : s ∈ sch) : oneS s = true := (checkL_zero.1 h).2.2.1 s hs
theorem oneS_name {s : api_Schema} (h : oneS s = true) : s.Name.size ≤ 24 := by
  unfold oneS at h
  simp only [Bool.and_eq_true] at h
  have h1 := h.1.1.1.2
  unfold wordS at h1
  simp only [Bool.and_eq_true] at h1
  exact name_size h1.1.1
theorem rowOk_valid : ∀ {r : List api_Value} {cs : List api_Col}, rowOk r cs = true → ∀ v ∈ r, validS v = true
  | [], _, _ => by simp
  | v :: r, [], h => by simp [rowOk] at h
  | v :: r, c :: cs, h => by
    simp only [rowOk, Bool.and_eq_true] at h
    intro w hw
    rcases List.mem_cons.1 hw with rfl | hw
    · exact h.1.2
    · exact rowOk_valid h.2 w hw
structure FitS (sch : List api_Schema) (p : api_Point) : Prop where
  s : (findSc sch p.Schema).2 = true
  n : (findSc sch p.Schema).1.Name = p.Schema
  o : oneS (findSc sch p.Schema).1 = true
  k : rowOk p.Keys (findSc sch p.Schema).1.Keys = true
  v : rowOk p.Vals (findSc sch p.Schema).1.Vals = true
  nl : p.Schema.size ≤ 24
  kl : p.Keys.length ≤ 4
  vl : p.Vals.length ≤ 4
  av : allV p.Keys = true
  vv : ∀ v ∈ p.Vals, validS v = true
theorem fitS_of {sch : List api_Schema} (hc : checkL sch = 0) {p : api_Point} (h : fitsS sch p = 0) : FitS sch p := by
  obtain ⟨h1, h2, h3⟩ := fits_zero h
  obtain ⟨h4, h5⟩ := findSc_mem h1
  have h6 := sch_one hc h4
  obtain ⟨a1, a2, a3, a4⟩ := few_of (oneS_few h6)
  exact ⟨h1, h5, h6, h2, h3, by rw [← h5]; exact oneS_name h6, by rw [rowOk_len h2]; exact a2, by rw [rowOk_len h3]; exact a4, by unfold allV; rw [List.all_eq_true]; exact rowOk_valid h2, rowOk_valid h3⟩
theorem FitS.q {sch : List api_Schema} {p : api_Point} (h : FitS sch p) (hw : ∀ v ∈ p.Keys, wfV v) : okQ (p.Schema, p.Keys) := ⟨by have := h.nl; show p.Schema.size ≤ _; omega, by have := h.kl; show p.Keys.length ≤ _; omega, hw⟩
theorem len_tot : ∀ {Q : List SR}, (∀ x ∈ Q, x.2 ≠ []) → Q.length ≤ tot Q
  | [], _ => by simp
  | x :: r, h => by
    have h1 := len_tot (Q := r) fun y hy => h y (List.mem_cons_of_mem _ hy)
    have h2 := List.length_pos_iff.2 (h x (List.mem_cons_self ..))
    unfold tot at *
    simp only [List.map_cons, List.sum_cons, List.length_cons]
    omega
theorem mem_pts {Q : List SR} {p : api_Point} : p ∈ ptsOf Q ↔ ∃ x ∈ Q, ∃ s ∈ x.2, ptOf x.1 s = p := by
  unfold ptsOf
  simp [List.mem_flatMap, List.mem_map]
theorem WF.okS {sch : List api_Schema} {Q : List SR} (h : WF sch Q) : OkS (Q.map (·.1)) := by
  refine ⟨by have := len_tot h.ne; have := h.few; rw [List.length_map]; omega, fun q hq => ?_⟩
  obtain ⟨x, hx, rfl⟩ := List.mem_map.1 hq
  obtain ⟨s, r, e⟩ := List.exists_cons_of_ne_nil (h.ne x hx)
  have hg := h.pt (ptOf x.1 s) (mem_pts.2 ⟨x, hx, s, by rw [e]; exact List.mem_cons_self .., rfl⟩)
  have hf := fitS_of h.sc hg.fit
  exact ⟨hf.q hg.kw, hf.av⟩
theorem le_sum {x : Nat} : ∀ {l : List Nat}, x ∈ l → x ≤ l.sum
  | y :: r, h => by
    rw [List.sum_cons]
    rcases List.mem_cons.1 h with rfl | h
    · omega
    · have := le_sum h; omega
theorem WF.run_len {sch : List api_Schema} {Q : List SR} (h : WF sch Q) {x : SR} (hx : x ∈ Q) : x.2.length ≤ 1000 := by
  have h1 := h.few
  have : x.2.length ≤ tot Q := by
    unfold tot
    exact le_sum (List.mem_map.2 ⟨x, hx, rfl⟩)
  omega
theorem WF.run_ok {sch : List api_Schema} {Q : List SR} (h : WF sch Q) {x : SR} (hx : x ∈ Q) : ∀ s ∈ x.2, Go.Proofs.YtchgiggipimigaaGreatDoor.M.okS s := fun s hs => by
  have hg := h.pt (ptOf x.1 s) (mem_pts.2 ⟨x, hx, s, hs, rfl⟩)
  have := (fitS_of h.sc hg.fit).vl
  unfold Go.Proofs.YtchgiggipimigaaGreatDoor.M.okS
  have e : (ptOf x.1 s).Vals = s.Vals := rfl
  rw [e] at this
  omega
theorem lnew_l0 {sch : List api_Schema} {room : Int} (h : szL sch) (hl : sch.length ≤ 8) : ∀ (fuel i : Nat), i ≤ sch.length → sch.length < i + fuel →
    leaf_New.l0 sch room fuel (sch.take i) (i : Int) = some (some (LF sch room []), 0)
  | 0, i, _, h => by omega
  | fuel + 1, i, h1, h2 => by
    rw [leaf_New.l0]
    by_cases hi : i < sch.length
    · obtain ⟨x, hx, ex⟩ := getE hi
      have hz := h.2 x (List.mem_of_getElem? hx)
      rw [if_pos (dlt hi), ix_of hx, Option.bind_some, cloneC_eq (by have := hz.k; omega), Option.bind_some, cloneC_eq (by have := hz.v; omega), Option.bind_some, apd_of (by simp only [List.length_take, List.length_singleton]; omega), Option.bind_some, w64_nat i (by omega)]
      have e : sch.take i ++ [⟨x.Name, x.Keys, x.Vals⟩] = sch.take (i + 1) := by rw [List.take_add_one, hx]; rfl
      rw [e]
      exact lnew_l0 h hl fuel (i + 1) (by omega) (by omega)
    · rw [if_neg (dnl (by omega)), List.take_of_length_le (by omega)]
      rfl
theorem lnew_eq {sch : List api_Schema} {room : Int} (h : szL sch) : leaf_New sch room = some (if checkL sch = 0 then (some (LF sch room []), 0) else (none, checkL sch)) := by
  unfold leaf_New
  rw [chkS_eq h, Option.bind_some]
  by_cases hc : checkL sch = 0
  · rw [if_neg (by simp [hc]), if_pos hc, fuel_nat]
    exact lnew_l0 h (sch_len hc) _ 0 (Nat.zero_le _) (by omega)
  · rw [if_pos (by simpa using hc), if_neg hc]
theorem WF.nil {sch : List api_Schema} (h : checkL sch = 0) : WF sch [] := ⟨h, by simp, by simp, by simp, by simp [ptsOf], by simp [tot]⟩
end Go.Proofs.YtchgiggipimigaaGreatDoor.M
end
section
namespace Go.Proofs.YtchgiggipimigaaGreatDoor.M
open Go Go.Eng Go.Proofs Go.RowKit
set_option maxRecDepth 100000
set_option linter.unusedVariables false
set_option linter.unusedSimpArgs false
def qOf (p : api_Point) : Stm := (p.Schema, p.Keys)
def smOf (p : api_Point) : Sm := ⟨p.Time, p.Vals⟩
def sameP (x y : api_Point) : Prop := x.Schema = y.Schema ∧ x.Keys = y.Keys ∧ x.Time = y.Time
instance (x y : api_Point) : Decidable (sameP x y) := by unfold sameP; infer_instance
def dupP (P : List api_Point) (p : api_Point) : Prop := ∃ x ∈ P, sameP x p
instance (P : List api_Point) (p : api_Point) : Decidable (dupP P p) := by unfold dupP; infer_instance
theorem qsm (p : api_Point) : ptOf (qOf p) (smOf p) = p := rfl
theorem get_has {l : List Sm} {t : Int} (hl : Inc l) (hn : l.length < 1000000) (hok : ∀ s ∈ l, Go.Proofs.YtchgiggipimigaaGreatDoor.M.okS s) : ∃ v, runs_Run_Get ⟨l⟩ t = some (v, hasAt l t) := by
  unfold runs_Run_Get
  rw [place_eq hl (by omega), Option.bind_some]
  by_cases h : hasAt l t = true
  · have h' := h
    unfold hasAt at h'
    split at h'
    · rename_i x hx
      have hv := hok x (List.mem_of_getElem? hx)
      unfold Go.Proofs.YtchgiggipimigaaGreatDoor.M.okS at hv
      rw [if_neg (by simp [h]), ix_of hx, Option.bind_some, clone_eq (by omega), Option.bind_some, h]
      exact ⟨_, rfl⟩
    · cases h'
  · rw [if_pos (by simpa using h)]
    have e : hasAt l t = false := by simpa using h
    rw [e]; exact ⟨_, rfl⟩
theorem pos_get {Q : List SR} {q : Stm} {c : Int} (h : pos (Q.map (·.1)) q = some c) : ∃ (j : Nat) (x : SR), c = (j : Int) ∧ Q[j]? = some x ∧ x.1 = q := by
  obtain ⟨j, hc, hj⟩ := posF_some _ 0 h
  rw [List.getElem?_map] at hj
  cases hx : Q[j]? with
  | none => rw [hx] at hj; simp at hj
  | some x =>
    rw [hx] at hj
    exact ⟨j, x, by rw [hc]; simp, hx, by simpa using hj⟩
theorem map_inj {Q : List SR} (hd : (Q.map (·.1)).Nodup) {x y : SR} (hx : x ∈ Q) (hy : y ∈ Q) (h : x.1 = y.1) : x = y := by
  induction Q with
  | nil => cases hx
  | cons z r ih =>
    rw [List.map_cons, List.nodup_cons] at hd
    rcases List.mem_cons.1 hx with e1 | hx1
    · rcases List.mem_cons.1 hy with e2 | hy1
      · rw [e1, e2]
      · exact (hd.1 (List.mem_map.2 ⟨y, hy1, by rw [← h, e1]⟩)).elim
    · rcases List.mem_cons.1 hy with e2 | hy1
      · exact (hd.1 (List.mem_map.2 ⟨x, hx1, by rw [h, e2]⟩)).elim
      · exact ih hd.2 hx1 hy1
theorem dup_iff {sch : List api_Schema} {Q : List SR} (h : WF sch Q) {p : api_Point} {x : SR} (hx : x ∈ Q) (hq : x.1 = qOf p) : dupP (ptsOf Q) p ↔ hasAt x.2 p.Time = true := by
  rw [hasAt_iff (h.inc x hx)]
  constructor
  · rintro ⟨y, hy, h1, h2, h3⟩
    obtain ⟨z, hz, s, hs, rfl⟩ := mem_pts.1 hy
    have e : z = x := map_inj h.nd hz hx (by rw [hq]; exact Prod.ext h1 h2)
    subst e
    exact ⟨s, hs, h3⟩
  · rintro ⟨s, hs, e⟩
    refine ⟨ptOf x.1 s, mem_pts.2 ⟨x, hx, s, hs, rfl⟩, ?_, ?_, e⟩
    · show x.1.1 = _; rw [hq]; rfl
    · show x.1.2 = _; rw [hq]; rfl
theorem dup_none {Q : List SR} {p : api_Point} (h : pos (Q.map (·.1)) (qOf p) = none) : ¬ dupP (ptsOf Q) p := by
  rintro ⟨y, hy, h1, h2, h3⟩
  obtain ⟨z, hz, s, hs, rfl⟩ := mem_pts.1 hy
  exact (posF_none _ 0).1 h (List.mem_map.2 ⟨z, hz, Prod.ext h1 h2⟩)
def writeS (sch : List api_Schema) (room : Int) (Q : List SR) (p : api_Point) : Bool × Int × List SR :=
  if fitsS sch p ≠ 0 then (false, fitsS sch p, Q) else
  if dupP (ptsOf Q) p then (false, 0, Q) else
  if room ≤ (tot Q : Int) then (false, 80, Q) else
  match pos (Q.map (·.1)) (qOf p) with
  | some c => (true, 0, Q.modify c.toNat fun x => (x.1, put x.2 (smOf p)))
  | none => (true, 0, Q ++ [(qOf p, [smOf p])])
theorem modify_set {α : Type} {f : α → α} : ∀ {l : List α} {j : Nat} {x : α}, l[j]? = some x → l.modify j f = l.set j (f x)
  | [], j, x, h => by simp at h
  | y :: r, 0, x, h => by simp at h; subst h; simp
  | y :: r, j + 1, x, h => by
    have := modify_set (f := f) (l := r) (j := j) (by simpa using h)
    simp [this]
theorem set_split {α : Type} {l : List α} {j : Nat} {x y : α} (h : l[j]? = some x) : l = l.take j ++ x :: l.drop (j + 1) ∧ l.set j y = l.take j ++ y :: l.drop (j + 1) := by
  have hj := (List.getElem?_eq_some_iff.1 h).1
  have hx := (List.getElem?_eq_some_iff.1 h).2
  constructor
  · rw [← hx, List.getElem_cons_drop, List.take_append_drop]
  · rw [List.set_eq_take_append_cons_drop, if_pos hj]
theorem pts_app (Q T : List SR) : ptsOf (Q ++ T) = ptsOf Q ++ ptsOf T := by simp [ptsOf]
theorem pts_cons (x : SR) (T : List SR) : ptsOf (x :: T) = x.2.map (ptOf x.1) ++ ptsOf T := by simp [ptsOf]
theorem pts_set {Q : List SR} {j : Nat} {x : SR} {p : api_Point} (h : Q[j]? = some x) (hq : x.1 = qOf p) : (ptsOf (Q.set j (x.1, put x.2 (smOf p)))).Perm (p :: ptsOf Q) := by
  obtain ⟨e1, e2⟩ := set_split (y := (x.1, put x.2 (smOf p))) h
  rw [e2]
  conv => rhs; rw [e1]
  rw [pts_app, pts_app, pts_cons, pts_cons]
  have hp : ((put x.2 (smOf p)).map (ptOf x.1)).Perm (p :: x.2.map (ptOf x.1)) := by
    have := (put_perm x.2 (smOf p)).map (ptOf x.1)
    rw [List.map_cons, hq, qsm] at this
    rw [hq]; exact this
  refine ((hp.append_right _).append_left _).trans ?_
  exact List.perm_middle
theorem writeS_perm {sch : List api_Schema} {room : Int} {Q : List SR} {p : api_Point} : (writeS sch room Q p).1 = true → (ptsOf (writeS sch room Q p).2.2).Perm (p :: ptsOf Q) := by
  unfold writeS
  split
  · simp
  split
  · simp
  split
  · simp
  split
  · rename_i c hc
    intro _
    obtain ⟨j, x, rfl, hx, hq⟩ := pos_get hc
    rw [show ((j : Int)).toNat = j by omega]
    dsimp only
    rw [modify_set hx]
    exact pts_set hx hq
  · intro _
    dsimp only
    rw [pts_app, pts_cons]
    simp only [List.map_cons, List.map_nil, qsm, ptsOf, List.flatMap_nil, List.append_nil]
    exact List.perm_append_comm
theorem writeS_same {sch : List api_Schema} {room : Int} {Q : List SR} {p : api_Point} : (writeS sch room Q p).1 = false → (writeS sch room Q p).2.2 = Q := by
  unfold writeS
  split
  · simp
  split
  · simp
  split
  · simp
  split <;> simp
theorem writeS_true {sch : List api_Schema} {room : Int} {Q : List SR} {p : api_Point} : (writeS sch room Q p).1 = true ↔ fitsS sch p = 0 ∧ ¬ dupP (ptsOf Q) p ∧ (tot Q : Int) < room := by
  unfold writeS
  split
  · rename_i h; simp [h]
  rename_i h0
  split
  · rename_i h; simp [h]
  rename_i h1
  split
  · rename_i h; simp; omega
  rename_i h2
  have e0 : fitsS sch p = 0 := by omega
  split <;> simp [e0, h1] <;> omega
theorem writeS_code {sch : List api_Schema} {room : Int} {Q : List SR} {p : api_Point} : (writeS sch room Q p).2.1 = if fitsS sch p ≠ 0 then fitsS sch p else if dupP (ptsOf Q) p then 0 else if room ≤ (tot Q : Int) then 80 else 0 := by
  unfold writeS
  split
  · rfl
  split
  · rfl
  split
  · rfl
  split <;> rfl
theorem put_ne (l : List Sm) (s : Sm) : put l s ≠ [] := by unfold put; simp
theorem set_map {Q : List SR} {j : Nat} {x : SR} {l : List Sm} (h : Q[j]? = some x) : (Q.set j (x.1, l)).map (·.1) = Q.map (·.1) := by
  rw [List.map_set]
  refine List.ext_getElem? fun i => ?_
  rw [List.getElem?_set]
  split
  · rename_i e; subst e
    split
    · rw [List.getElem?_map, h]; rfl
    · rename_i hl
      rw [List.getElem?_eq_none (by omega)]
  · rfl
theorem writeS_wf {sch : List api_Schema} {room : Int} {Q : List SR} (h : WF sch Q) (hl : tot Q < 1000) {p : api_Point} (hw : ∀ v ∈ p.Keys, wfV v) : WF sch (writeS sch room Q p).2.2 := by
  by_cases ht : (writeS sch room Q p).1 = true
  · have hp := writeS_perm ht
    obtain ⟨f0, f1, f2⟩ := writeS_true.1 ht
    have hpt : ∀ x ∈ ptsOf (writeS sch room Q p).2.2, GoodP sch x := fun x hx => by
      rcases List.mem_cons.1 (hp.mem_iff.1 hx) with rfl | hx
      · exact ⟨f0, hw⟩
      · exact h.pt x hx
    have hfew : tot (writeS sch room Q p).2.2 ≤ 1000 := by
      have := hp.length_eq
      rw [pts_len, List.length_cons, pts_len] at this
      omega
    revert hpt hfew
    unfold writeS
    rw [if_neg (by simp [f0]), if_neg f1, if_neg (by omega)]
    split
    · rename_i c hc
      obtain ⟨j, x, rfl, hx, hq⟩ := pos_get hc
      rw [show ((j : Int)).toNat = j by omega]
      dsimp only
      rw [modify_set hx]
      intro hpt hfew
      have hxm := List.mem_of_getElem? hx
      have hmem : ∀ y ∈ Q.set j (x.1, put x.2 (smOf p)), y ∈ Q ∨ y = (x.1, put x.2 (smOf p)) := fun y hy => List.mem_or_eq_of_mem_set hy
      refine ⟨h.sc, by rw [set_map hx]; exact h.nd, fun y hy => ?_, fun y hy => ?_, hpt, hfew⟩
      · rcases hmem y hy with hy | rfl
        · exact h.inc y hy
        · refine put_inc (h.inc x hxm) ?_
          have := mt (dup_iff h hxm hq).2 f1
          show hasAt x.2 p.Time = false
          simpa using this
      · rcases hmem y hy with hy | rfl
        · exact h.ne y hy
        · exact put_ne _ _
    · rename_i hc
      dsimp only
      intro hpt hfew
      refine ⟨h.sc, ?_, fun y hy => ?_, fun y hy => ?_, hpt, hfew⟩
      · rw [List.map_append, List.nodup_append]
        refine ⟨h.nd, by simp, fun a ha b hb => ?_⟩
        simp only [List.map_cons, List.map_nil, List.mem_singleton] at hb
        subst hb
        rintro rfl
        exact (posF_none _ 0).1 hc ha
      · rcases List.mem_append.1 hy with hy | hy
        · exact h.inc y hy
        · simp only [List.mem_singleton] at hy; subst hy; exact List.pairwise_singleton _ _
      · rcases List.mem_append.1 hy with hy | hy
        · exact h.ne y hy
        · simp only [List.mem_singleton] at hy; subst hy; simp
  · rw [writeS_same (by simpa using ht)]; exact h
theorem write_eq {sch : List api_Schema} {room : Int} {Q : List SR} (h : WF sch Q) (hl : tot Q < 1000) {p : api_Point} (hz : szP p) (hw : ∀ v ∈ p.Keys, wfV v) :
    leaf_Leaf_Write (LF sch room Q) p = some ((writeS sch room Q p).1, (writeS sch room Q p).2.1, LF sch room (writeS sch room Q p).2.2) := by
  have hs := h.okS
  have hd : (LF sch room Q).dict = DS room (Q.map (·.1)) := rfl
  have hr : (LF sch room Q).runs = mrF 0 Q := rfl
  unfold leaf_Leaf_Write
  rw [show (LF sch room Q).schemas = sch from rfl, fits_eq (by have := sch_len h.sc; omega) hz, Option.bind_some]
  by_cases hf : fitsS sch p = 0
  · have hF := fitS_of h.sc hf
    have hq := hF.q hw
    have hvl : p.Vals.length * 96 ≤ 140737488351232 := by have := hF.vl; omega
    rw [if_neg (by simp [hf]), hd, dfind_eq hs hq, Option.bind_some]
    have hj0 : ¬ dupP (ptsOf Q) p → leaf_Leaf_Write.j0 (LF sch room Q) p = some ((writeS sch room Q p).1, (writeS sch room Q p).2.1, LF sch room (writeS sch room Q p).2.2) := by
      intro hdu
      unfold leaf_Leaf_Write.j0 writeS
      rw [show (LF sch room Q).points = (tot Q : Int) from rfl, show (LF sch room Q).room = room from rfl]
      rw [if_neg (show ¬ (fitsS sch p ≠ 0) by simp [hf]), if_neg hdu]
      by_cases hrm : room ≤ (tot Q : Int)
      · rw [if_pos (by simpa using hrm), if_pos hrm]
      · rw [if_neg (by simpa using hrm), if_neg hrm, hd, hr, dadd_eq hs hq, Option.bind_some]
        unfold addA
        rw [if_pos hF.av]
        cases hc : pos (Q.map (·.1)) (p.Schema, p.Keys) with
        | some c =>
          have hc' : pos (Q.map (·.1)) (qOf p) = some c := hc
          obtain ⟨j, x, rfl, hx, hqx⟩ := pos_get hc'
          have hxm := List.mem_of_getElem? hx
          have hm : mget (mrF 0 Q) (j : Int) = some ⟨x.2⟩ := by
            have := mget_mr Q 0 j
            rw [hx] at this
            simpa using this
          have hno : hasAt x.2 p.Time = false := by
            have := mt (dup_iff h hxm hqx).2 hdu
            simpa using this
          have hst := mset_mr (l := put x.2 (smOf p)) Q 0 j hx
          rw [show ((0 + j : Nat) : Int) = (j : Int) by simp] at hst
          rw [hc']
          dsimp only
          rw [if_neg (by rw [hm]; simp), hm, Option.bind_some, runadd_eq (h.inc x hxm) (by have := h.run_len hxm; omega) hvl, Option.bind_some, hno]
          simp only [Bool.false_eq_true, if_false]
          have hlen := (pts_set hx hqx).length_eq
          rw [pts_len, List.length_cons, pts_len] at hlen
          rw [show ((j : Int)).toNat = j by omega, modify_set hx]
          unfold LF
          rw [hlen, set_map hx, w64 (by omega) (by omega), show (⟨put x.2 ⟨p.Time, p.Vals⟩⟩ : runs_Run) = ⟨put x.2 (smOf p)⟩ from rfl, hst]
          simp
        | none =>
          have hc' : pos (Q.map (·.1)) (qOf p) = none := hc
          have hlt := len_tot h.ne
          rw [hc']
          dsimp only
          rw [List.length_map, if_neg (show ¬ ((Q.length : Int) ≥ room) by omega)]
          dsimp only
          have hm : mget (mrF 0 Q) (Q.length : Int) = none := by
            have := mget_mr Q 0 Q.length
            rw [List.getElem?_eq_none (Nat.le_refl _)] at this
            simpa using this
          have hn0 := mset_mr_new (q := qOf p) (l := []) Q 0
          rw [show ((0 + Q.length : Nat) : Int) = (Q.length : Int) by simp] at hn0
          have hm2 : mget (mrF 0 (Q ++ [(qOf p, [])])) (Q.length : Int) = some ⟨[]⟩ := by
            have := mget_mr (Q ++ [(qOf p, [])]) 0 Q.length
            simpa using this
          have hst := mset_mr (x := (qOf p, [])) (l := [smOf p]) (Q ++ [(qOf p, [])]) 0 Q.length (by simp)
          rw [show ((0 + Q.length : Nat) : Int) = (Q.length : Int) by simp] at hst
          rw [if_pos (by rw [hm]; simp)]
          unfold runs_New
          rw [Option.bind_some, hn0, hm2, Option.bind_some, runadd_eq (l := []) (by exact List.Pairwise.nil) (by simp) hvl, Option.bind_some]
          have e1 : hasAt [] p.Time = false := rfl
          have e2 : put [] ⟨p.Time, p.Vals⟩ = [smOf p] := rfl
          rw [e1, e2]
          simp only [Bool.false_eq_true, if_false]
          rw [hst]
          have e3 : (Q ++ [(qOf p, [])]).set Q.length ((qOf p, ([] : List Sm)).1, [smOf p]) = Q ++ [(qOf p, [smOf p])] := by simp
          rw [e3]
          have hlen : tot (Q ++ [(qOf p, [smOf p])]) = tot Q + 1 := by simp [tot]
          unfold LF
          rw [hlen, w64 (by omega) (by omega)]
          simp [qOf]
    unfold findA
    cases hc : pos (Q.map (·.1)) (p.Schema, p.Keys) with
    | none =>
      simp only [Option.isSome_none, Bool.false_eq_true, if_false]
      exact hj0 (dup_none hc)
    | some c =>
      obtain ⟨j, x, rfl, hx, hqx⟩ := pos_get (q := qOf p) hc
      have hxm := List.mem_of_getElem? hx
      have hm : mget (mrF 0 Q) (j : Int) = some ⟨x.2⟩ := by
        have := mget_mr Q 0 j
        rw [hx] at this
        simpa using this
      obtain ⟨v, hg⟩ := get_has (t := p.Time) (h.inc x hxm) (by have := h.run_len hxm; omega) (h.run_ok hxm)
      simp only [Option.isSome_some, if_true, Option.getD_some]
      rw [hr, hm, Option.bind_some, hg, Option.bind_some]
      dsimp only
      by_cases hh : hasAt x.2 p.Time = true
      · have hdu := (dup_iff h hxm hqx).2 hh
        rw [if_pos hh]
        unfold writeS
        rw [if_neg (show ¬ (fitsS sch p ≠ 0) by simp [hf]), if_pos hdu]
      · rw [if_neg hh]
        exact hj0 (mt (dup_iff h hxm hqx).1 hh)
  · rw [if_pos (by simpa using hf)]
    unfold writeS
    rw [if_pos hf]
end Go.Proofs.YtchgiggipimigaaGreatDoor.M
end
section
namespace Go.Proofs.YtchgiggipimigaaGreatDoor.M
open Go Go.Eng Go.Proofs Go.RowKit
set_option maxRecDepth 100000
set_option linter.unusedVariables false
set_option linter.unusedSimpArgs false
theorem concatV3 {xs ys zs : List api_Value} (h : (xs.length + ys.length + zs.length) * 96 ≤ 140737488355328) : slices_Concat_api_Value_api_Value [xs, ys, zs] = some (xs ++ ys ++ zs) := by
  unfold slices_Concat_api_Value_api_Value
  have e0 : ix [xs, ys, zs] 0 = some xs := rfl
  have e1 : ix [xs, ys, zs] 1 = some ys := rfl
  have e2 : ix [xs, ys, zs] 2 = some zs := rfl
  have f : ((([xs, ys, zs] : List (List api_Value)).length : Int) - 0).toNat + 1 = 0 + 1 + 1 + 1 + 1 := rfl
  have w0 : IntKind.i64.wrap (0 + 1) = 1 := by decide
  have w1 : IntKind.i64.wrap (1 + 1) = 2 := by decide
  have w2 : IntKind.i64.wrap (2 + 1) = 3 := by decide
  have a1 : IntKind.i64.wrap (0 + (xs.length : Int)) = xs.length := by rw [w64 (by omega) (by omega)]; omega
  have a2 : IntKind.i64.wrap ((xs.length : Int) + (ys.length : Int)) = ((xs.length + ys.length : Nat) : Int) := by rw [w64 (by omega) (by omega)]; omega
  have a3 : IntKind.i64.wrap (((xs.length + ys.length : Nat) : Int) + (zs.length : Int)) = ((xs.length + ys.length + zs.length : Nat) : Int) := by rw [w64 (by omega) (by omega)]; omega
  have l2 : ((([xs, ys, zs] : List (List api_Value)).length : Nat) : Int) = 3 := rfl
  rw [f]
  rw [slices_Concat_api_Value_api_Value.l0, l2, e0, w0, if_pos (by decide), Option.bind_some, a1, if_neg (by simp), slices_Concat_api_Value_api_Value.l0, l2, e1, w1, if_pos (by decide), Option.bind_some, a2, if_neg (by simp; omega), slices_Concat_api_Value_api_Value.l0, l2, e2, w2, if_pos (by decide), Option.bind_some, a3, if_neg (by simp; omega), slices_Concat_api_Value_api_Value.l0, l2, if_neg (by decide)]
  unfold slices_Grow_api_Value_api_Value grow0
  rw [if_pos (by omega), Option.bind_some, show ((3 : Int) - 0).toNat + 1 = 0 + 1 + 1 + 1 + 1 from rfl, slices_Concat_api_Value_api_Value.l1, l2, e0, w0, if_pos (by decide), Option.bind_some, apd_of (by simp; omega), Option.bind_some, slices_Concat_api_Value_api_Value.l1, l2, e1, w1, if_pos (by decide), Option.bind_some, apd_of (by simp; omega), Option.bind_some, slices_Concat_api_Value_api_Value.l1, l2, e2, w2, if_pos (by decide), Option.bind_some, apd_of (by simp; omega), Option.bind_some, slices_Concat_api_Value_api_Value.l1, l2, if_neg (by decide), List.nil_append]
theorem ofF_get (n : ByteArray) : ∀ (S : List Stm) (i m : Nat) (c : Int), (ofF n i S)[m]? = some c → ∃ j p, c = ((i + j : Nat) : Int) ∧ S[j]? = some p ∧ p.1 = n
  | [], _, _, _, h => by simp [ofF] at h
  | p :: r, i, m, c, h => by
    simp only [ofF] at h
    have next : ∀ m, (ofF n (i + 1) r)[m]? = some c → ∃ j q, c = ((i + j : Nat) : Int) ∧ (p :: r)[j]? = some q ∧ q.1 = n := fun m h => by
      obtain ⟨j, q, h1, h2, h3⟩ := ofF_get n r (i + 1) m c h
      exact ⟨j + 1, q, by rw [h1]; congr 1; omega, by simpa using h2, h3⟩
    split at h
    · rename_i hn
      cases m with
      | zero =>
        simp only [List.getElem?_cons_zero, Option.some.injEq] at h
        exact ⟨0, p, by rw [← h]; rfl, rfl, hn⟩
      | succ m => exact next m (by simpa using h)
    · exact next m h
def timeV (t : Int) : api_Value := ⟨1, t, ⟨#[]⟩, ⟨0, 0, 0, 0, 0, 0, 0, 0⟩⟩
def rowOf (p : api_Point) : List api_Value := timeV p.Time :: (p.Keys ++ p.Vals)
def inT (n : ByteArray) (a b : Int) (p : api_Point) : Bool := decide (p.Schema = n) && (decide (a ≤ p.Time) && decide (p.Time ≤ b))
def rowsOf (P : List api_Point) (n : ByteArray) (a b : Int) : List (List api_Value) := (P.filter (inT n a b)).map rowOf
def scanT (sch : List api_Schema) (P : List api_Point) (n : ByteArray) (a b : Int) : api_Table := canonS ⟨colsOf (findSc sch n).1, rowsOf P n a b⟩
theorem rowsOf_app (P T : List api_Point) (n : ByteArray) (a b : Int) : rowsOf (P ++ T) n a b = rowsOf P n a b ++ rowsOf T n a b := by simp [rowsOf]
theorem rowsOf_perm {P T : List api_Point} (h : P.Perm T) (n : ByteArray) (a b : Int) : (rowsOf P n a b).Perm (rowsOf T n a b) := (h.filter _).map _
def runRows (q : Stm) (l : List Sm) : List (List api_Value) := l.map fun s => rowOf (ptOf q s)
theorem rowsOf_run (q : Stm) (n : ByteArray) (a b : Int) (l : List Sm) : rowsOf (l.map (ptOf q)) n a b = if q.1 = n then runRows q (fr l a b) else [] := by
  unfold rowsOf runRows fr
  rw [List.filter_map, List.map_map]
  by_cases h : q.1 = n
  · rw [if_pos h]
    have e : (inT n a b ∘ ptOf q) = fun x => decide (a ≤ x.Time) && decide (x.Time ≤ b) := by
      funext x
      simp [inT, ptOf, h]
    rw [e]; rfl
  · rw [if_neg h]
    have e : (inT n a b ∘ ptOf q) = fun _ => false := by
      funext x
      simp [inT, ptOf, h]
    rw [e]; simp
def rowsId (Q : List SR) (a b : Int) (c : Int) : List (List api_Value) := match Q[c.toNat]? with
  | some x => runRows x.1 (fr x.2 a b)
  | none => []
theorem rows_ids (Q : List SR) (n : ByteArray) (a b : Int) : ∀ (T pre : List SR), Q = pre ++ T → (ofF n pre.length (T.map (·.1))).flatMap (rowsId Q a b) = rowsOf (ptsOf T) n a b
  | [], pre, _ => rfl
  | x :: r, pre, e => by
    have ih := rows_ids Q n a b r (pre ++ [x]) (by rw [e]; simp)
    rw [List.length_append, List.length_singleton] at ih
    rw [pts_cons, rowsOf_app, rowsOf_run, List.map_cons, ofF]
    by_cases h : x.1.1 = n
    · rw [if_pos h, if_pos h, List.flatMap_cons, ih]
      have e2 : rowsId Q a b (pre.length : Int) = runRows x.1 (fr x.2 a b) := by
        unfold rowsId
        rw [show ((pre.length : Int)).toNat = pre.length by omega, e]
        simp
      rw [e2]
    · rw [if_neg h, if_neg h, ih]; rfl
theorem rows_all (Q : List SR) (n : ByteArray) (a b : Int) : (ofF n 0 (Q.map (·.1))).flatMap (rowsId Q a b) = rowsOf (ptsOf Q) n a b := rows_ids Q n a b Q [] rfl
theorem scan_l1 {kl : List (List api_Value) → Int → Option (api_Table × Int × leaf_Leaf)} {ids : List Int} {m : Int} {nm : ByteArray} {q : Stm} {l : List Sm} (hk : q.2.length ≤ 4) (hv : ∀ s ∈ l, s.Vals.length ≤ 4) (hl : l.length ≤ 1000) : ∀ (fuel i : Nat) (acc : List (List api_Value)), i ≤ l.length → l.length < i + fuel → acc.length ≤ 2000 + i →
    leaf_Leaf_Scan.l1 kl ids m (nm, q.2, true) l fuel acc (i : Int) = kl (acc ++ runRows q (l.drop i)) (IntKind.i64.wrap (m + 1))
  | 0, i, _, _, h, _ => by omega
  | fuel + 1, i, acc, h1, h2, h3 => by
    rw [leaf_Leaf_Scan.l1]
    by_cases hi : i < l.length
    · obtain ⟨x, hx, ex⟩ := getE hi
      have hxv := hv x (List.mem_of_getElem? hx)
      rw [if_pos (dlt hi), ix_of hx, Option.bind_some]
      dsimp only
      rw [concatV3 (by simp only [List.length_singleton]; omega), Option.bind_some, apd_of (by simp only [List.length_singleton]; omega), Option.bind_some, w64_nat i (by omega), scan_l1 hk hv hl fuel (i + 1) _ (by omega) (by omega) (by simp; omega), ex]
      simp [runRows, rowOf, timeV, ptOf]
    · rw [if_neg (dnl (by omega)), List.drop_of_length_le (by omega)]
      simp [runRows]
theorem flat_len (Q : List SR) (n : ByteArray) (a b : Int) : (rowsOf (ptsOf Q) n a b).length ≤ tot Q := by
  unfold rowsOf
  rw [List.length_map, ← pts_len]
  exact List.length_filter_le _ _
theorem WF.szT {sch : List api_Schema} {Q : List SR} (h : WF sch Q) {n : ByteArray} (hn : (findSc sch n).2 = true) (hz : szL sch) (a b : Int) : szT ⟨colsOf (findSc sch n).1, rowsOf (ptsOf Q) n a b⟩ := by
  obtain ⟨h1, h2⟩ := findSc_mem hn
  have h3 := sch_one h.sc h1
  have h4 := hz.2 _ h1
  obtain ⟨a1, a2, a3, a4⟩ := few_of (oneS_few h3)
  refine ⟨?_, fun c hc => ?_, ?_, fun r hr => ?_, fun r hr v hv => ?_⟩
  · show (colsOf (findSc sch n).1).length * 24 ≤ _
    unfold colsOf
    rw [List.length_cons, List.length_append]; omega
  · rcases List.mem_cons.1 hc with rfl | hc
    · show timeC.Name.size ≤ _
      rw [show timeC.Name.size = 4 from rfl]; omega
    · rcases List.mem_append.1 hc with hc | hc
      · exact h4.kn c hc
      · exact h4.vn c hc
  · have := flat_len Q n a b
    have := h.few
    show (rowsOf (ptsOf Q) n a b).length * 24 ≤ _
    omega
  · obtain ⟨p, hp, rfl⟩ := List.mem_map.1 hr
    have hf := fitS_of h.sc (h.pt p ((List.mem_filter.1 hp).1)).fit
    have := hf.kl
    have := hf.vl
    unfold rowOf
    rw [List.length_cons, List.length_append]; omega
  · obtain ⟨p, hp, rfl⟩ := List.mem_map.1 hr
    have hf := fitS_of h.sc (h.pt p ((List.mem_filter.1 hp).1)).fit
    have hval : ∀ w, validS w = true → w.S.size ≤ 140737488351232 := fun w hw => by
      have e0 : (⟨#[]⟩ : ByteArray).size = 0 := rfl
      unfold validS at hw
      split at hw
      · simp only [decide_eq_true_eq] at hw; rw [hw.1, e0]; omega
      split at hw
      · simp only [decide_eq_true_eq] at hw; omega
      split at hw
      · simp only [decide_eq_true_eq] at hw; rw [hw.2.1, e0]; omega
      split at hw
      · simp only [decide_eq_true_eq] at hw; rw [hw.2, e0]; omega
      · cases hw
    rcases List.mem_cons.1 hv with rfl | hv
    · show (⟨#[]⟩ : ByteArray).size ≤ _
      rw [show (⟨#[]⟩ : ByteArray).size = 0 from rfl]; omega
    · rcases List.mem_append.1 hv with hv | hv
      · refine hval v ?_
        have := hf.av
        unfold allV at this
        exact List.all_eq_true.1 this v hv
      · exact hval v (hf.vv v hv)
theorem scan_l0 {sch : List api_Schema} {room : Int} {Q : List SR} (h : WF sch Q) {n : ByteArray} (hn : (findSc sch n).2 = true) (hz : szL sch) {a b : Int} : ∀ (fuel i : Nat) (acc : List (List api_Value)), i ≤ (ofF n 0 (Q.map (·.1))).length → (ofF n 0 (Q.map (·.1))).length < i + fuel → acc.length ≤ 1000 → acc ++ ((ofF n 0 (Q.map (·.1))).drop i).flatMap (rowsId Q a b) = rowsOf (ptsOf Q) n a b →
    leaf_Leaf_Scan.l0 (LF sch room Q) a b (colsOf (findSc sch n).1) (ofF n 0 (Q.map (·.1))) fuel acc (i : Int) = some (scanT sch (ptsOf Q) n a b, 0, LF sch room Q)
  | 0, i, _, _, h, _, _ => by omega
  | fuel + 1, i, acc, h1, h2, h3, h4 => by
    have hlen := ofF_len n (Q.map (·.1)) 0
    have hSl := h.okS.len
    rw [leaf_Leaf_Scan.l0]
    by_cases hi : i < (ofF n 0 (Q.map (·.1))).length
    · obtain ⟨c, hx, ex⟩ := getE hi
      obtain ⟨j, q, e1, e2, e3⟩ := ofF_get n _ _ _ _ hx
      rw [Nat.zero_add] at e1
      subst e1
      rw [List.getElem?_map] at e2
      cases hq : Q[j]? with
      | none => rw [hq] at e2; cases e2
      | some x =>
        rw [hq] at e2
        have e5 : x.1 = q := by simpa using e2
        subst e5
        have hxm := List.mem_of_getElem? hq
        have hm : mget (mrF 0 Q) (j : Int) = some ⟨x.2⟩ := by
          have := mget_mr Q 0 j
          rw [hq] at this
          simpa using this
        have hkey := keys_in (most := room) h.okS (i := j) (x := x.1) (by rw [List.getElem?_map, hq]; rfl)
        have hrow : rowsId Q a b (j : Int) = runRows x.1 (fr x.2 a b) := by
          unfold rowsId
          rw [show ((j : Int)).toNat = j by omega, hq]
        rw [ex, List.flatMap_cons, hrow, ← List.append_assoc] at h4
        have hpts : ∀ s ∈ x.2, FitS sch (ptOf x.1 s) := fun s hs => fitS_of h.sc (h.pt _ (mem_pts.2 ⟨x, hxm, s, hs, rfl⟩)).fit
        have hk4 : x.1.2.length ≤ 4 := by
          obtain ⟨s, r, e⟩ := List.exists_cons_of_ne_nil (h.ne x hxm)
          have hm2 : s ∈ x.2 := by rw [e]; exact List.mem_cons_self ..
          exact (hpts s hm2).kl
        have hv4 : ∀ s ∈ fr x.2 a b, s.Vals.length ≤ 4 := fun s hs => (hpts s ((List.mem_filter.1 hs).1)).vl
        have hfl := fr_len x.2 a b
        have hrl := h.run_len hxm
        rw [if_pos (dlt hi), ix_of hx, Option.bind_some, show (LF sch room Q).dict = DS room (Q.map (·.1)) from rfl, hkey, Option.bind_some, show (LF sch room Q).runs = mrF 0 Q from rfl, hm, Option.bind_some, range_eq (h.inc x hxm) (by omega) (h.run_ok hxm), Option.bind_some, fuel_nat]
        have hl1 := scan_l1 (kl := leaf_Leaf_Scan.l0 (LF sch room Q) a b (colsOf (findSc sch n).1) (ofF n 0 (Q.map (·.1))) fuel) (ids := ofF n 0 (Q.map (·.1))) (m := (i : Int)) (nm := x.1.1) hk4 hv4 (by omega) ((fr x.2 a b).length + 1) 0 acc (Nat.zero_le _) (by omega) (by omega)
        rw [List.drop_zero] at hl1
        rw [show (0 : Int) = ((0 : Nat) : Int) from rfl, hl1, w64_nat i (by omega)]
        refine scan_l0 h hn hz fuel (i + 1) _ (by omega) (by omega) ?_ h4
        have hh := congrArg List.length h4
        rw [List.length_append] at hh
        have := flat_len Q n a b
        have := h.few
        omega
    · rw [List.drop_of_length_le (by omega)] at h4
      simp only [List.flatMap_nil, List.append_nil] at h4
      rw [if_neg (dnl (by omega)), h4, canon_eq (h.szT hn hz a b), Option.bind_some]
      rfl
theorem scan_eq {sch : List api_Schema} {room : Int} {Q : List SR} (h : WF sch Q) (hz : szL sch) (n : ByteArray) (a b : Int) :
    leaf_Leaf_Scan (LF sch room Q) n a b = some (if (findSc sch n).2 = true then (scanT sch (ptsOf Q) n a b, 0, LF sch room Q) else (none2, 50, LF sch room Q)) := by
  unfold leaf_Leaf_Scan
  rw [show (LF sch room Q).schemas = sch from rfl, fnd_eq (by have := sch_len h.sc; omega), Option.bind_some]
  by_cases hn : (findSc sch n).2 = true
  · obtain ⟨h1, h2⟩ := findSc_mem hn
    obtain ⟨a1, a2, a3, a4⟩ := few_of (oneS_few (sch_one h.sc h1))
    rw [if_neg (by simp [hn]), cols_eq (by omega), Option.bind_some, show (LF sch room Q).dict = DS room (Q.map (·.1)) from rfl, of_eq h.okS.len, Option.bind_some, if_pos hn, fuel_nat]
    exact scan_l0 h hn hz _ 0 [] (Nat.zero_le _) (by omega) (by simp) (by rw [List.drop_zero, List.nil_append, rows_all])
  · rw [if_pos (by simpa using hn), if_neg hn]; rfl
end Go.Proofs.YtchgiggipimigaaGreatDoor.M
end
section
namespace Go.Proofs.YtchgiggipimigaaGreatDoor.M
open Go Go.Eng Go.Proofs Go.RowKit
set_option maxRecDepth 100000
set_option linter.unusedVariables false
set_option linter.unusedSimpArgs false
def ldN : ByteArray := ⟨#[108, 111, 97, 100]⟩
def Z8 : Arr8 := ⟨0, 0, 0, 0, 0, 0, 0, 0⟩
def pt (h : ByteArray) (t n : Int) : api_Point := ⟨ldN, [⟨2, 0, h, Z8⟩], t, [⟨1, n, ⟨#[]⟩, Z8⟩]⟩
theorem load_eq : law08_load = some [load0] := rfl
theorem point_eq (h : ByteArray) (t n : Int) : law08_point h t n = some (pt h t n) := rfl
theorem szL_load : szL [load0] := ⟨by simp, fun s hs => by rw [List.mem_singleton] at hs; subst hs; exact sz_load⟩
theorem szL_nil : szL [] := ⟨by simp, fun s hs => nomatch hs⟩
theorem chk_load : checkL [load0] = 0 := by decide +kernel
theorem szP_pt (h : ByteArray) (t n : Int) : szP (pt h t n) := ⟨by simp [pt], by simp [pt]⟩
theorem wf_pt (h : ByteArray) (t n : Int) : ∀ v ∈ (pt h t n).Keys, wfV v := fun v hv => by
  simp only [pt, List.mem_singleton] at hv
  subst hv
  refine ⟨⟨by show _ ≤ (0 : Int); omega, by show (0 : Int) ≤ _; omega⟩, fun x hx => ?_⟩
  have : x = 0 := by simpa [Arr8.list, Z8] using hx
  subst this
  exact ⟨by omega, by omega⟩
theorem writeS_tot {sch : List api_Schema} {room : Int} {Q : List SR} {p : api_Point} : tot (writeS sch room Q p).2.2 = if (writeS sch room Q p).1 = true then tot Q + 1 else tot Q := by
  by_cases h : (writeS sch room Q p).1 = true
  · have := (writeS_perm h).length_eq
    rw [if_pos h]
    rw [pts_len, List.length_cons, pts_len] at this
    exact this
  · rw [if_neg h, writeS_same (by simpa using h)]
theorem wstep {sch : List api_Schema} {room : Int} {Q : List SR} (h : WF sch Q) (hl : tot Q < 1000) {p : api_Point} (hz : szP p) (hw : ∀ v ∈ p.Keys, wfV v) {b : Bool} {e : Int} {Q' : List SR} (he : writeS sch room Q p = (b, e, Q')) :
    leaf_Leaf_Write (LF sch room Q) p = some (b, e, LF sch room Q') ∧ WF sch Q' := by
  have h1 := write_eq (room := room) h hl hz hw
  have h2 := writeS_wf (room := room) h hl hw
  rw [he] at h1 h2
  exact ⟨h1, h2⟩
def bA : ByteArray := ⟨#[97]⟩
def bB : ByteArray := ⟨#[98]⟩
def bC : ByteArray := ⟨#[99]⟩
def key1 (b : ByteArray) : Stm := (ldN, [⟨2, 0, b, Z8⟩])
def sm1 (t n : Int) : Sm := ⟨t, [⟨1, n, ⟨#[]⟩, Z8⟩]⟩
def Q1 : List SR := [(key1 bA, [sm1 5 7])]
def Q2 : List SR := [(key1 bA, [sm1 5 7]), (key1 bB, [sm1 3 1])]
theorem shown_ok : law08_shown = some true := by
  obtain ⟨w1, f1⟩ := wstep (room := 2) (WF.nil chk_load) (by decide) (szP_pt bA 5 7) (wf_pt _ _ _) (show writeS [load0] 2 [] (pt bA 5 7) = (true, 0, Q1) by decide +kernel)
  obtain ⟨w2, _⟩ := wstep (room := 2) f1 (by decide) (szP_pt bA 5 8) (wf_pt _ _ _) (show writeS [load0] 2 Q1 (pt bA 5 8) = (false, 0, Q1) by decide +kernel)
  obtain ⟨w3, f3⟩ := wstep (room := 2) f1 (by decide) (szP_pt bB 3 1) (wf_pt _ _ _) (show writeS [load0] 2 Q1 (pt bB 3 1) = (true, 0, Q2) by decide +kernel)
  obtain ⟨w4, _⟩ := wstep (room := 2) f3 (by decide) (szP_pt bC 1 1) (wf_pt _ _ _) (show writeS [load0] 2 Q2 (pt bC 1 1) = (false, 80, Q2) by decide +kernel)
  have s1 := scan_eq (room := 2) f3 szL_load ldN 0 9
  have s2 := scan_eq (room := 2) f3 szL_load ldN 4 9
  have s3 := scan_eq (room := 2) f3 szL_load ⟨#[120]⟩ 0 9
  rw [if_pos (by decide +kernel)] at s1 s2
  rw [if_neg (by decide +kernel)] at s3
  have r1 : (scanT [load0] (ptsOf Q2) ldN 0 9).Rows = [rowOf (pt bB 3 1), rowOf (pt bA 5 7)] := by
    show sortC cmpR (rowsOf (ptsOf Q2) ldN 0 9) = _
    rw [sortC_isort cmpR_cmp cmpR_zero]
    decide +kernel
  have r2 : (scanT [load0] (ptsOf Q2) ldN 4 9).Rows = [rowOf (pt bA 5 7)] := by
    show sortC cmpR (rowsOf (ptsOf Q2) ldN 4 9) = _
    rw [sortC_isort cmpR_cmp cmpR_zero]
    decide +kernel
  unfold law08_shown
  rw [load_eq, Option.bind_some, lnew_eq szL_load, Option.bind_some, if_pos chk_load, oel_some rfl, lnew_eq szL_nil, Option.bind_some, if_neg (show ¬ checkL [] = 0 by decide +kernel), oel_none rfl, if_neg (by decide)]
  unfold law08_shown.j0
  rw [if_neg (by decide +kernel)]
  rw [show (⟨#[97]⟩ : ByteArray) = bA from rfl, show (⟨#[98]⟩ : ByteArray) = bB from rfl, show (⟨#[99]⟩ : ByteArray) = bC from rfl, show (⟨#[108, 111, 97, 100]⟩ : ByteArray) = ldN from rfl]
  rw [point_eq, Option.bind_some, w1, Option.bind_some, point_eq, Option.bind_some, w2, Option.bind_some, point_eq, Option.bind_some, w3, Option.bind_some, point_eq, Option.bind_some, w4, Option.bind_some, s1, Option.bind_some, s2, Option.bind_some, s3, Option.bind_some]
  simp only [r1, r2]
  rfl
theorem lf_eta (sch : List api_Schema) (room : Int) (Q : List SR) : (⟨(LF sch room Q).schemas, (LF sch room Q).room, (LF sch room Q).points, (⟨(LF sch room Q).dict.most, (LF sch room Q).dict.l, (LF sch room Q).dict.ids⟩ : streams_Dict), (LF sch room Q).runs⟩ : leaf_Leaf) = LF sch room Q := rfl
theorem points_eq (sch : List api_Schema) (room : Int) (Q : List SR) : leaf_Leaf_Points (LF sch room Q) = some ((tot Q : Int), LF sch room Q) := rfl
def okP (p : api_Point) : Prop := szP p ∧ ∀ v ∈ p.Keys, wfV v
theorem okP_of {p : api_Point} (h : ok_api_Point p) : okP p :=
  ⟨szP_of h, fun v hv => ⟨i64_range (h.2.1.2 v hv).2.1, fun y hy => i64_range ((h.2.1.2 v hv).2.2.2 y hy)⟩⟩
end Go.Proofs.YtchgiggipimigaaGreatDoor.M
end
section
namespace Go.Proofs.YtchgiggipimigaaGreatDoor.M
open Go Go.Eng Go.Proofs Go.RowKit
set_option maxRecDepth 100000
set_option linter.unusedVariables false
set_option linter.unusedSimpArgs false
theorem rlnew_eq {sch : List api_Schema} {room : Int} (h : szL sch) : ref08_New sch room = some (if checkL sch = 0 then (some (⟨sch, room, []⟩ : catchmentref08_Leaf), 0) else (none, checkL sch)) := by
  unfold ref08_New
  rw [rchkS_eq h, Option.bind_some]
  by_cases hc : checkL sch = 0
  · rw [if_neg (by simp [hc]), if_pos hc]
  · rw [if_pos (by simpa using hc), if_neg hc]
def rwriteS (sch : List api_Schema) (room : Int) (P : List api_Point) (p : api_Point) : Bool × Int × List api_Point :=
  if fitsS sch p ≠ 0 then (false, fitsS sch p, P) else if dupP P p then (false, 0, P) else if room ≤ (P.length : Int) then (false, 80, P) else (true, 0, P ++ [p])
theorem dup_cons {x : api_Point} {T : List api_Point} {p : api_Point} : dupP (x :: T) p ↔ sameP x p ∨ dupP T p := by simp [dupP]
theorem dup_perm {P T : List api_Point} (h : P.Perm T) {p : api_Point} : dupP P p ↔ dupP T p :=
  ⟨fun ⟨x, hx, hs⟩ => ⟨x, h.mem_iff.1 hx, hs⟩, fun ⟨x, hx, hs⟩ => ⟨x, h.mem_iff.2 hx, hs⟩⟩
theorem rw_l0 {sch : List api_Schema} {room : Int} {P : List api_Point} {p : api_Point} (hP : ∀ x ∈ P, okRow x.Keys) (hl : P.length ≤ 1000) (hk : p.Keys.length * 96 ≤ 140737488355328) (hv : p.Vals.length * 96 ≤ 140737488355328) : ∀ (fuel i : Nat), i ≤ P.length → P.length < i + fuel →
    ref08_Leaf_Write.l0 ⟨sch, room, P⟩ p fuel (i : Int) = some (if dupP (P.drop i) p then (false, 0, ⟨sch, room, P⟩) else if room ≤ (P.length : Int) then (false, 80, ⟨sch, room, P⟩) else (true, 0, ⟨sch, room, P ++ [p]⟩))
  | 0, i, _, h => by omega
  | fuel + 1, i, h1, h2 => by
    rw [ref08_Leaf_Write.l0]
    dsimp only
    by_cases hi : i < P.length
    · obtain ⟨x, hx, ex⟩ := getE hi
      have hxr := hP x (List.mem_of_getElem? hx)
      have ih := rw_l0 (sch := sch) (room := room) hP hl hk hv fuel (i + 1) (by omega) (by omega)
      rw [if_pos (dlt hi), ix_of hx, Option.bind_some, ex]
      unfold ref08_Leaf_Write.j1
      simp only [str_eq, decide_eq_true_eq, beq_iff_eq, Bool.false_eq_true, if_false, w64_nat i (show i < 9223372036854775807 by omega), ih]
      by_cases hs : x.Schema = p.Schema
      · by_cases ht : x.Time = p.Time
        · rw [if_pos hs, if_pos ht, refRow_eq hxr, Option.bind_some]
          by_cases hkk : x.Keys = p.Keys
          · rw [if_pos (by rw [hkk]; exact cmpR_self _), if_pos (dup_cons.2 (Or.inl ⟨hs, hkk, ht⟩))]
          · have hne : ¬ cmpR x.Keys p.Keys = 0 := fun e => hkk (cmpR_zero _ _ e)
            rw [if_neg hne]
            have hd : dupP (x :: P.drop (i + 1)) p ↔ dupP (P.drop (i + 1)) p := by
              rw [dup_cons]
              exact ⟨fun h => h.elim (fun e => (hkk e.2.1).elim) id, Or.inr⟩
            simp only [hd]
        · rw [if_pos hs, if_neg ht]
          have hd : dupP (x :: P.drop (i + 1)) p ↔ dupP (P.drop (i + 1)) p := by
            rw [dup_cons]
            exact ⟨fun h => h.elim (fun e => (ht e.2.2).elim) id, Or.inr⟩
          simp only [hd]
      · rw [if_neg hs]
        have hd : dupP (x :: P.drop (i + 1)) p ↔ dupP (P.drop (i + 1)) p := by
          rw [dup_cons]
          exact ⟨fun h => h.elim (fun e => (hs e.1).elim) id, Or.inr⟩
        simp only [hd]
    · have hnd : ¬ dupP [] p := by simp [dupP]
      rw [if_neg (dnl (by omega)), List.drop_of_length_le (by omega)]
      by_cases hr : room ≤ (P.length : Int)
      · rw [if_pos (by simpa using hr), if_neg hnd, if_pos hr]
      · rw [if_neg (by simpa using hr), if_neg hnd, if_neg hr, apd_of (by simpa using hk), Option.bind_some, apd_of (by simpa using hv), Option.bind_some, apd_of (by simp only [List.length_singleton]; omega), Option.bind_some]
        rfl
theorem rwrite_eq {sch : List api_Schema} {room : Int} {P : List api_Point} {p : api_Point} (hc : sch.length < 4611686018427387904) (hP : ∀ x ∈ P, okRow x.Keys) (hl : P.length ≤ 1000) (hz : szP p) (hk : p.Keys.length * 96 ≤ 140737488355328) (hv : p.Vals.length * 96 ≤ 140737488355328) :
    ref08_Leaf_Write ⟨sch, room, P⟩ p = some ((rwriteS sch room P p).1, (rwriteS sch room P p).2.1, ⟨sch, room, (rwriteS sch room P p).2.2⟩) := by
  unfold ref08_Leaf_Write rwriteS
  rw [rfits_eq hc hz, Option.bind_some]
  by_cases hf : fitsS sch p = 0
  · rw [if_neg (by simp [hf]), if_neg (show ¬ (fitsS sch p ≠ 0) by simp [hf]), fuel_nat]
    have := rw_l0 (sch := sch) (room := room) (p := p) hP hl hk hv (P.length + 1) 0 (Nat.zero_le _) (by omega)
    rw [List.drop_zero] at this
    refine Eq.trans this ?_
    by_cases hd : dupP P p
    · rw [if_pos hd, if_pos hd]
    · rw [if_neg hd, if_neg hd]
      by_cases hr : room ≤ (P.length : Int)
      · rw [if_pos hr, if_pos hr]
      · rw [if_neg hr, if_neg hr]
  · rw [if_pos (by simpa using hf), if_pos hf]
theorem write_same {sch : List api_Schema} {room : Int} {Q : List SR} {P : List api_Point} (hp : (ptsOf Q).Perm P) (p : api_Point) :
    (writeS sch room Q p).1 = (rwriteS sch room P p).1 ∧ (writeS sch room Q p).2.1 = (rwriteS sch room P p).2.1 ∧ (ptsOf (writeS sch room Q p).2.2).Perm (rwriteS sch room P p).2.2 := by
  have hl : tot Q = P.length := by rw [← pts_len]; exact hp.length_eq
  have hd := dup_perm hp (p := p)
  have ht := writeS_true (sch := sch) (room := room) (Q := Q) (p := p)
  have hc := writeS_code (sch := sch) (room := room) (Q := Q) (p := p)
  have hs := writeS_same (sch := sch) (room := room) (Q := Q) (p := p)
  have hq := writeS_perm (sch := sch) (room := room) (Q := Q) (p := p)
  unfold rwriteS
  by_cases hf : fitsS sch p = 0
  · rw [if_neg (by simp [hf])] at hc ⊢
    by_cases h1 : dupP P p
    · have hb : (writeS sch room Q p).1 = false := by
        cases hb : (writeS sch room Q p).1 with
        | false => rfl
        | true => exact ((ht.1 hb).2.1 (hd.2 h1)).elim
      rw [if_pos (hd.2 h1)] at hc
      rw [if_pos h1, hs hb]
      exact ⟨hb, hc, hp⟩
    · rw [if_neg (mt hd.1 h1)] at hc
      rw [if_neg h1]
      by_cases h2 : room ≤ (P.length : Int)
      · have hb : (writeS sch room Q p).1 = false := by
          cases hb : (writeS sch room Q p).1 with
          | false => rfl
          | true => have := (ht.1 hb).2.2; omega
        rw [if_pos (by rw [hl]; exact h2)] at hc
        rw [if_pos h2, hs hb]
        exact ⟨hb, hc, hp⟩
      · have hb : (writeS sch room Q p).1 = true := ht.2 ⟨hf, mt hd.1 h1, by rw [hl]; omega⟩
        rw [if_neg (by rw [hl]; exact h2)] at hc
        rw [if_neg h2]
        exact ⟨hb, hc, ((hq hb).trans (hp.cons p)).trans (List.perm_append_comm (l₁ := [p]))⟩
  · have hb : (writeS sch room Q p).1 = false := by
      cases hb : (writeS sch room Q p).1 with
      | false => rfl
      | true => exact (hf (ht.1 hb).1).elim
    rw [if_pos hf] at hc ⊢
    rw [hs hb]
    exact ⟨hb, hc, hp⟩
theorem rscan_l0 {sch : List api_Schema} {room : Int} {P : List api_Point} {n : ByteArray} {a b : Int} {cols : List api_Col} (hl : P.length ≤ 1000) (hk : ∀ p ∈ P, p.Keys.length ≤ 4 ∧ p.Vals.length ≤ 4) (hc : cols.length * 24 ≤ 140737488355328) (hz : Sz (rowsOf P n a b)) : ∀ (fuel i : Nat) (acc : List (List api_Value)), i ≤ P.length → P.length < i + fuel → acc.length ≤ i → acc ++ rowsOf (P.drop i) n a b = rowsOf P n a b →
    ref08_Leaf_Scan.l0 ⟨sch, room, P⟩ n a b cols fuel acc (i : Int) = some (canonS ⟨cols, rowsOf P n a b⟩, 0, ⟨sch, room, P⟩)
  | 0, i, _, _, h, _, _ => by omega
  | fuel + 1, i, acc, h1, h2, h3, h4 => by
    rw [ref08_Leaf_Scan.l0]
    dsimp only
    by_cases hi : i < P.length
    · obtain ⟨x, hx, ex⟩ := getE hi
      obtain ⟨k1, k2⟩ := hk x (List.mem_of_getElem? hx)
      rw [ex, show x :: P.drop (i + 1) = [x] ++ P.drop (i + 1) from rfl, rowsOf_app, ← List.append_assoc] at h4
      rw [if_pos (dlt hi), ix_of hx, Option.bind_some]
      unfold ref08_Leaf_Scan.j1 ref08_Leaf_Scan.j2
      simp only [str_eq, decide_eq_true_eq, Bool.false_eq_true, if_false, w64_nat i (show i < 9223372036854775807 by omega)]
      by_cases hin : inT n a b x = true
      · have hin' := hin
        unfold inT at hin'
        simp only [Bool.and_eq_true, decide_eq_true_eq] at hin'
        have er : rowsOf [x] n a b = [rowOf x] := by simp [rowsOf, hin]
        rw [er] at h4
        rw [if_pos hin'.1, if_pos hin'.2.1, if_pos hin'.2.2, apd_of (by simp only [List.length_singleton]; omega), Option.bind_some, apd_of (by simp only [List.length_append, List.length_singleton]; omega), Option.bind_some, apd_of (by simp only [List.length_singleton]; omega), Option.bind_some]
        exact rscan_l0 hl hk hc hz fuel (i + 1) _ (by omega) (by omega) (by simp; omega) h4
      · have er : rowsOf [x] n a b = [] := by simp [rowsOf, hin]
        rw [er, List.append_nil] at h4
        have ih := rscan_l0 (sch := sch) (room := room) hl hk hc hz fuel (i + 1) acc (by omega) (by omega) (by omega) h4
        unfold inT at hin
        simp only [Bool.and_eq_true, decide_eq_true_eq] at hin
        by_cases c1 : x.Schema = n
        · by_cases c2 : x.Time ≥ a
          · rw [if_pos c1, if_pos c2, if_neg (fun c3 => hin ⟨c1, c2, c3⟩)]; exact ih
          · rw [if_pos c1, if_neg c2]; exact ih
        · rw [if_neg c1]; exact ih
    · rw [List.drop_of_length_le (by omega)] at h4
      have e0 : rowsOf [] n a b = [] := rfl
      rw [e0, List.append_nil] at h4
      rw [if_neg (dnl (by omega)), h4, rcanon_eq' (t := ⟨cols, rowsOf P n a b⟩) hc hz, Option.bind_some]
theorem rscan_eq {sch : List api_Schema} {room : Int} {Q : List SR} {P : List api_Point} (h : WF sch Q) (hz : szL sch) (hp : (ptsOf Q).Perm P) (n : ByteArray) (a b : Int) :
    ref08_Leaf_Scan ⟨sch, room, P⟩ n a b = some (if (findSc sch n).2 = true then (scanT sch (ptsOf Q) n a b, 0, ⟨sch, room, P⟩) else (none2, 50, ⟨sch, room, P⟩)) := by
  unfold ref08_Leaf_Scan
  dsimp only
  rw [rfnd_eq (by have := sch_len h.sc; omega), Option.bind_some]
  by_cases hn : (findSc sch n).2 = true
  · obtain ⟨h1, h2⟩ := findSc_mem hn
    obtain ⟨a1, a2, a3, a4⟩ := few_of (oneS_few (sch_one h.sc h1))
    have hpl : P.length ≤ 1000 := by rw [← hp.length_eq, pts_len]; exact h.few
    have hst := h.szT hn hz a b
    have hsz : szT ⟨colsOf (findSc sch n).1, rowsOf P n a b⟩ := hst.sub rfl (Nat.le_of_eq (rowsOf_perm hp n a b).symm.length_eq) fun r hr => (rowsOf_perm hp n a b).mem_iff.2 hr
    have e : scanT sch (ptsOf Q) n a b = canonS ⟨colsOf (findSc sch n).1, rowsOf P n a b⟩ := canonS_perm rfl (rowsOf_perm hp n a b)
    rw [if_neg (by simp [hn]), rcolsOf_eq (by omega), Option.bind_some, if_pos hn, fuel_nat, e]
    exact rscan_l0 hpl (fun p hpm => by
      have hf := fitS_of h.sc (h.pt p (hp.mem_iff.2 hpm)).fit
      exact ⟨hf.kl, hf.vl⟩) (by have := hst.c; exact Nat.le_trans this (by decide)) hsz.sz _ 0 [] (Nat.zero_le _) (by omega) (by simp) (by simp)
  · rw [if_pos (by simpa using hn), if_neg hn]; rfl
theorem mrF_mem {p : Int × runs_Run} : ∀ {Q : List SR} {i : Nat}, p ∈ mrF i Q → ∃ x ∈ Q, p.2 = ⟨x.2⟩
  | [], _, h => by simp [mrF] at h
  | x :: r, i, h => by
    simp only [mrF] at h
    rcases List.mem_cons.1 h with rfl | h
    · exact ⟨x, List.mem_cons_self .., rfl⟩
    · obtain ⟨y, hy, e⟩ := mrF_mem h
      exact ⟨y, List.mem_cons_of_mem _ hy, e⟩
theorem lclone_eq {sch : List api_Schema} {room : Int} {Q : List SR} (h : WF sch Q) : leaf_Leaf_Clone (LF sch room Q) = some (LF sch room Q, LF sch room Q) := by
  unfold leaf_Leaf_Clone
  rw [show (LF sch room Q).dict = DS room (Q.map (·.1)) from rfl, dclone_eq h.okS.len, Option.bind_some, if_pos]
  · rfl
  · rw [List.all_eq_true]
    intro p hp
    obtain ⟨x, hx, e⟩ := mrF_mem (show p ∈ mrF 0 Q from hp)
    rw [decide_eq_true_eq, e]
    unfold runs_Run_Clone slices_Clone_api_Sample_api_Sample
    have := h.run_len hx
    rw [apd_of (by simp only [List.length_nil]; omega)]
    rfl
end Go.Proofs.YtchgiggipimigaaGreatDoor.M
end
section
namespace Go.Proofs.YtchgiggipimigaaGreatDoor.M
open Go Go.Eng Go.Proofs Go.RowKit
set_option maxRecDepth 100000
set_option linter.unusedVariables false
set_option linter.unusedSimpArgs false
abbrev KL : Type := List api_Schema → Int → Int → Int → List streams_stream → List (ByteArray × Int) → List (Int × runs_Run) → List api_Schema → Int → List api_Point → Int → Option Bool
theorem szT_none2 : szT none2 := ⟨by simp [none2], by simp [none2], by simp [none2], by simp [none2], by simp [none2]⟩
theorem scan_ne {sch : List api_Schema} {P : List api_Point} {n : ByteArray} {a b : Int} : ∀ r ∈ (scanT sch P n a b).Rows, r ≠ [] := fun r hr => by
  have h1 : r ∈ rowsOf P n a b := mem_sortC.1 (show r ∈ sortC cmpR (rowsOf P n a b) from hr)
  obtain ⟨p, _, rfl⟩ := List.mem_map.1 h1
  unfold rowOf
  simp
theorem plays_j16 {kl : KL} {a2 : List api_Point} {i : Int} {S : List api_Schema} {R : Int} {L : List api_Point} {f1 : List api_Schema} {f2 f3 f4 : Int} {f5 : List streams_stream} {f6 : List (ByteArray × Int)} {f7 : List (Int × runs_Run)} {rows : List (List api_Value)} (hne : ∀ r ∈ rows, r ≠ []) :
    law08_LeafPlays.j16 kl a2 i S R L f1 f2 f3 f4 f5 f6 f7 rows false = kl f1 f2 f3 f4 f5 f6 f7 S R L (IntKind.i64.wrap (i + 1)) := by
  unfold law08_LeafPlays.j16 law08_LeafPlays.j17
  rw [if_neg (by simp)]
  cases rows with
  | nil => rw [if_neg (by simp)]
  | cons r rest =>
    have hr := hne r (List.mem_cons_self ..)
    cases r with
    | nil => exact (hr rfl).elim
    | cons v t =>
      have e1 : ix ((v :: t) :: rest) 0 = some (v :: t) := rfl
      have e2 : ix (v :: t) 0 = some v := rfl
      rw [if_pos (by simp), e1, Option.bind_some, e2, Option.bind_some]
theorem plays_j15 {kl : KL} {a2 : List api_Point} {i : Int} {W : Bool × Int × leaf_Leaf} {r : Bool × Int × catchmentref08_Leaf} (e1 : W.1 = r.1) (e2 : W.2.1 = r.2.1) {sch : List api_Schema} {room : Int} {Q : List SR} {P : List api_Point} (hp : (ptsOf Q).Perm P) {T : api_Table} {c : Int} (hT : szT T) (hne : ∀ r ∈ T.Rows, r ≠ []) :
    law08_LeafPlays.j15 kl a2 i W r (LF sch room Q).schemas (LF sch room Q).room (LF sch room Q).points (LF sch room Q).dict.most (LF sch room Q).dict.l (LF sch room Q).dict.ids (LF sch room Q).runs T.Cols c sch room P T.Rows T.Cols T.Rows c =
      kl (LF sch room Q).schemas (LF sch room Q).room (LF sch room Q).points (LF sch room Q).dict.most (LF sch room Q).dict.l (LF sch room Q).dict.ids (LF sch room Q).runs sch room P (IntKind.i64.wrap (i + 1)) := by
  unfold law08_LeafPlays.j15
  have hl : tot Q = P.length := by rw [← pts_len]; exact hp.length_eq
  have hs : ref02_Same (⟨T.Cols, T.Rows⟩ : api_Table) (⟨T.Cols, T.Rows⟩ : api_Table) = some (decide (T = T)) := rsame_eq (a := T) (b := T) hT
  rw [hs, Option.bind_some, e1, e2, lf_eta, points_eq, Option.bind_some]
  dsimp only
  rw [if_neg (by simp), if_neg (by simp), if_neg (by simp), if_neg (by simp), hl, show ((P.length : Int) != (P.length : Int)) = false by simp]
  exact plays_j16 hne
theorem plays_l13 {kl : KL} {a2 : List api_Point} {i : Nat} {p : api_Point} (hi : a2[i]? = some p) {y3 : List api_Value} {W : Bool × Int × leaf_Leaf} {r : Bool × Int × catchmentref08_Leaf} (e1 : W.1 = r.1) (e2 : W.2.1 = r.2.1) {sch : List api_Schema} {room : Int} {Q : List SR} {P : List api_Point} (eW : W.2.2 = LF sch room Q) (eR : r.2.2 = ⟨sch, room, P⟩) (h : WF sch Q) (hz : szL sch) (hp : (ptsOf Q).Perm P) : ∀ (fuel j : Nat) (xs : List api_Value), j ≤ xs.length → xs.length < j + fuel → xs.length < 4611686018427387904 →
    law08_LeafPlays.l13 kl a2 (i : Int) y3 W r fuel xs (j : Int) = kl (LF sch room Q).schemas (LF sch room Q).room (LF sch room Q).points (LF sch room Q).dict.most (LF sch room Q).dict.l (LF sch room Q).dict.ids (LF sch room Q).runs sch room P (IntKind.i64.wrap ((i : Int) + 1))
  | 0, j, xs, _, hh, _ => by omega
  | fuel + 1, j, xs, h1, h2, h3 => by
    rw [law08_LeafPlays.l13]
    by_cases hj : j < xs.length
    · obtain ⟨v, hv, _⟩ := getE hj
      rw [if_pos (dlt hj), ix_of hv, Option.bind_some, w64_nat j (by omega)]
      exact plays_l13 hi e1 e2 eW eR h hz hp fuel (j + 1) _ (by rw [upd_length]; omega) (by rw [upd_length]; omega) (by rw [upd_length]; omega)
    · rw [if_neg (dnl (by omega)), ix_of hi, Option.bind_some, Option.bind_some, Option.bind_some, Option.bind_some, eW, scan_eq h hz]
      by_cases hn : (findSc sch p.Schema).2 = true
      · rw [if_pos hn, Option.bind_some]
        unfold law08_LeafPlays.j14
        rw [ix_of hi, Option.bind_some, Option.bind_some, eR, rscan_eq h hz hp, if_pos hn, Option.bind_some]
        have hT : szT (scanT sch (ptsOf Q) p.Schema (IntKind.i64.wrap (p.Time - p.Time.tmod 8)) p.Time) := (h.szT hn hz _ _).canon
        exact plays_j15 e1 e2 hp hT scan_ne
      · rw [if_neg hn, Option.bind_some]
        unfold law08_LeafPlays.j14
        rw [ix_of hi, Option.bind_some, Option.bind_some, eR, rscan_eq h hz hp, if_neg hn, Option.bind_some]
        exact plays_j15 e1 e2 hp szT_none2 (by simp [none2])
theorem plays_l12 {kl : KL} {a2 : List api_Point} {i : Int} {y2 y3 : List api_Value} {W : Bool × Int × leaf_Leaf} {r : Bool × Int × catchmentref08_Leaf} : ∀ (fuel j : Nat) (xs : List api_Value), j ≤ xs.length → xs.length < j + fuel → xs.length < 4611686018427387904 →
    law08_LeafPlays.l12 kl a2 i y2 y3 W r fuel xs (j : Int) = law08_LeafPlays.l13 kl a2 i y3 W r (((y3.length : Int) - 0).toNat + 1) y3 0
  | 0, j, xs, _, hh, _ => by omega
  | fuel + 1, j, xs, h1, h2, h3 => by
    rw [law08_LeafPlays.l12]
    by_cases hj : j < xs.length
    · obtain ⟨v, hv, _⟩ := getE hj
      rw [if_pos (dlt hj), ix_of hv, Option.bind_some, w64_nat j (by omega)]
      exact plays_l12 fuel (j + 1) _ (by rw [upd_length]; omega) (by rw [upd_length]; omega) (by rw [upd_length]; omega)
    · rw [if_neg (dnl (by omega))]
theorem plays_j11 {kl : KL} {a2 : List api_Point} {i : Nat} {p : api_Point} (hi : a2[i]? = some p) (hz : szP p) (hw : ∀ v ∈ p.Keys, wfV v) (hk : p.Keys.length * 96 ≤ 140737488355328) (hv : p.Vals.length * 96 ≤ 140737488355328) {sch : List api_Schema} {room : Int} {Q : List SR} {P : List api_Point} (h : WF sch Q) (hzl : szL sch) (hp : (ptsOf Q).Perm P) (hl : tot Q < 1000)
    (hkl : ∀ Q' P', WF sch Q' → (ptsOf Q').Perm P' → tot Q' ≤ tot Q + 1 → kl (LF sch room Q').schemas (LF sch room Q').room (LF sch room Q').points (LF sch room Q').dict.most (LF sch room Q').dict.l (LF sch room Q').dict.ids (LF sch room Q').runs sch room P' (IntKind.i64.wrap ((i : Int) + 1)) = some true) :
    law08_LeafPlays.j11 kl a2 sch room P (i : Int) p p.Keys p.Vals (LF sch room Q).schemas (LF sch room Q).room (LF sch room Q).points (LF sch room Q).dict.most (LF sch room Q).dict.l (LF sch room Q).dict.ids (LF sch room Q).runs = some true := by
  unfold law08_LeafPlays.j11
  have hpl : P.length ≤ 1000 := by rw [← hp.length_eq, pts_len]; exact h.few
  have hP : ∀ x ∈ P, okRow x.Keys := fun x hx => by
    have hf := fitS_of h.sc (h.pt x (hp.mem_iff.2 hx)).fit
    refine ⟨by have := hf.kl; omega, fun v hvv => ?_⟩
    have hval := List.all_eq_true.1 (show (x.Keys.all validS) = true from hf.av) v hvv
    have e0 : (⟨#[]⟩ : ByteArray).size = 0 := rfl
    unfold okV
    unfold validS at hval
    split at hval
    · simp only [decide_eq_true_eq] at hval; rw [hval.1, e0]; omega
    split at hval
    · simp only [decide_eq_true_eq] at hval; omega
    split at hval
    · simp only [decide_eq_true_eq] at hval; rw [hval.2.1, e0]; omega
    split at hval
    · simp only [decide_eq_true_eq] at hval; rw [hval.2, e0]; omega
    · cases hval
  obtain ⟨s1, s2, s3⟩ := write_same (sch := sch) (room := room) hp p
  have hwf := writeS_wf (room := room) h hl hw
  have ht := writeS_tot (sch := sch) (room := room) (Q := Q) (p := p)
  rw [lf_eta, show (⟨p.Schema, p.Keys, p.Time, p.Vals⟩ : api_Point) = p from rfl, write_eq h hl hz hw, Option.bind_some, ix_of hi, Option.bind_some, rwrite_eq (by have := sch_len h.sc; omega) hP hpl hz hk hv, Option.bind_some, fuel_nat]
  have h12 := plays_l12 (kl := kl) (a2 := a2) (i := (i : Int)) (y2 := p.Keys) (y3 := p.Vals) (W := ((writeS sch room Q p).1, (writeS sch room Q p).2.1, LF sch room (writeS sch room Q p).2.2)) (r := ((rwriteS sch room P p).1, (rwriteS sch room P p).2.1, (⟨sch, room, (rwriteS sch room P p).2.2⟩ : catchmentref08_Leaf))) (p.Keys.length + 1) 0 p.Keys (Nat.zero_le _) (by omega) (by omega)
  refine Eq.trans h12 ?_
  rw [fuel_nat]
  refine Eq.trans (plays_l13 hi s1 s2 rfl rfl hwf hzl s3 (p.Vals.length + 1) 0 p.Vals (Nat.zero_le _) (by omega) (by omega)) ?_
  exact hkl _ _ hwf s3 (by rw [ht]; split <;> omega)
theorem plays_l18 {sch : List api_Schema} {room : Int} {Q : List SR} {P : List api_Point} (h : WF sch Q) (hz : szL sch) (hp : (ptsOf Q).Perm P) : ∀ (fuel i : Nat), i ≤ sch.length → sch.length < i + fuel →
    law08_LeafPlays.l18 sch fuel (LF sch room Q).schemas (LF sch room Q).room (LF sch room Q).points (LF sch room Q).dict.most (LF sch room Q).dict.l (LF sch room Q).dict.ids (LF sch room Q).runs sch room P (i : Int) = some true
  | 0, i, _, hh => by omega
  | fuel + 1, i, h1, h2 => by
    have hsl := sch_len h.sc
    rw [law08_LeafPlays.l18]
    by_cases hi : i < sch.length
    · obtain ⟨s, hs, _⟩ := getE hi
      have ih := plays_l18 (room := room) h hz hp fuel (i + 1) (by omega) (by omega)
      rw [if_pos (dlt hi), ix_of hs, Option.bind_some, lf_eta, scan_eq h hz]
      by_cases hn : (findSc sch s.Name).2 = true
      · rw [if_pos hn, Option.bind_some, Option.bind_some, rscan_eq h hz hp, if_pos hn, Option.bind_some]
        dsimp only
        rw [rsame_eq (a := scanT sch (ptsOf Q) s.Name _ _) ((h.szT hn hz _ _).canon), Option.bind_some, if_neg (by simp), w64_nat i (by omega)]
        exact ih
      · rw [if_neg hn, Option.bind_some, Option.bind_some, rscan_eq h hz hp, if_neg hn, Option.bind_some]
        dsimp only
        rw [rsame_eq szT_none2, Option.bind_some, if_neg (by simp), w64_nat i (by omega)]
        exact ih
    · rw [if_neg (dnl (by omega))]
structure okP2 (p : api_Point) : Prop where
  z : szP p
  w : ∀ v ∈ p.Keys, wfV v
  k : p.Keys.length * 96 ≤ 140737488355328
  v : p.Vals.length * 96 ≤ 140737488355328
theorem plays_l9 {sch : List api_Schema} {room : Int} (hz : szL sch) {a2 : List api_Point} (ha : ∀ p ∈ a2, okP2 p) (hn : a2.length < 4611686018427387904) : ∀ (fuel i : Nat) (Q : List SR) (P : List api_Point), i ≤ a2.length → a2.length < i + fuel → i ≤ 100 → WF sch Q → (ptsOf Q).Perm P → tot Q ≤ i →
    law08_LeafPlays.l9 a2 sch fuel (LF sch room Q).schemas (LF sch room Q).room (LF sch room Q).points (LF sch room Q).dict.most (LF sch room Q).dict.l (LF sch room Q).dict.ids (LF sch room Q).runs sch room P (i : Int) = some true
  | 0, i, Q, P, _, hh, _, _, _, _ => by omega
  | fuel + 1, i, Q, P, h1, h2, h3, h4, h5, h6 => by
    have fin : law08_LeafPlays.j10 (law08_LeafPlays.l9 a2 sch fuel) a2 sch (LF sch room Q).schemas (LF sch room Q).room (LF sch room Q).points (LF sch room Q).dict.most (LF sch room Q).dict.l (LF sch room Q).dict.ids (LF sch room Q).runs sch room P (i : Int) false = some true := by
      unfold law08_LeafPlays.j10
      rw [if_neg (by simp), fuel_nat]
      exact plays_l18 h4 hz h5 _ 0 (Nat.zero_le _) (by omega)
    rw [law08_LeafPlays.l9]
    by_cases hi : i < a2.length
    · obtain ⟨p, hp, _⟩ := getE hi
      have ho := ha p (List.mem_of_getElem? hp)
      rw [if_pos (dlt hi)]
      by_cases h100 : i < 100
      · rw [show decide ((i : Int) < 100) = true by simp; omega]
        have next : ∀ Q' P', WF sch Q' → (ptsOf Q').Perm P' → tot Q' ≤ tot Q + 1 → law08_LeafPlays.l9 a2 sch fuel (LF sch room Q').schemas (LF sch room Q').room (LF sch room Q').points (LF sch room Q').dict.most (LF sch room Q').dict.l (LF sch room Q').dict.ids (LF sch room Q').runs sch room P' (IntKind.i64.wrap ((i : Int) + 1)) = some true := fun Q' P' g1 g2 g3 => by
          rw [w64_nat i (by omega)]
          exact plays_l9 hz ha hn fuel (i + 1) Q' P' (by omega) (by omega) (by omega) g1 g2 (by omega)
        have step := plays_j11 (kl := law08_LeafPlays.l9 a2 sch fuel) hp ho.z ho.w ho.k ho.v h4 hz h5 (by omega) next
        unfold law08_LeafPlays.j10
        rw [if_pos rfl, ix_of hp, Option.bind_some, apd_of (by simpa using ho.k), Option.bind_some, apd_of (by simpa using ho.v), Option.bind_some, List.nil_append, List.nil_append]
        by_cases h7 : ((i : Int).tmod 7 == 6) = true
        · obtain ⟨q, hq, _⟩ := getE (show 0 < a2.length by omega)
          have hoq := ha q (List.mem_of_getElem? hq)
          have ht := writeS_tot (sch := sch) (room := room) (Q := Q) (p := p)
          have hwf := writeS_wf (room := room) h4 (by omega) ho.w
          rw [if_pos h7, lf_eta, lclone_eq h4, Option.bind_some, Option.bind_some, write_eq h4 (by omega) ho.z ho.w, Option.bind_some, show (0 : Int) = ((0 : Nat) : Int) from rfl, ix_of hq, Option.bind_some, write_eq hwf (by rw [ht]; split <;> omega) hoq.z hoq.w, Option.bind_some]
          exact step
        · rw [if_neg h7]
          exact step
      · rw [show decide ((i : Int) < 100) = false by simp; omega]
        exact fin
    · rw [if_neg (dnl (by omega))]
      exact fin
theorem plays_j0 {sch : List api_Schema} {room : Int} (hz : szL sch) {a2 : List api_Point} (ha : ∀ p ∈ a2, okP2 p) (hn : a2.length < 4611686018427387904) : law08_LeafPlays.j0 room true a2 sch = some true := by
  unfold law08_LeafPlays.j0
  rw [lnew_eq hz, Option.bind_some, rlnew_eq hz]
  by_cases hc : checkL sch = 0
  · rw [if_pos hc, if_pos hc, oel_some rfl, Option.bind_some, oel_some rfl, if_neg (by simp)]
    unfold law08_LeafPlays.j8
    rw [if_neg (by simp), if_neg (by simp), fuel_nat]
    exact plays_l9 hz ha hn _ 0 [] [] (Nat.zero_le _) (by omega) (by omega) (WF.nil hc) (by simp [ptsOf]) (by simp [tot])
  · rw [if_neg hc, if_neg hc, oel_none rfl, Option.bind_some, oel_none rfl, if_neg (by simp)]
    unfold law08_LeafPlays.j1
    rw [if_neg (by simp), if_pos (by simpa using hc)]
theorem LeafPlays_pure (s : List api_Schema) (os : s.length * 64 ≤ 140737488351232 ∧ ∀ x ∈ s, ok_api_Schema x) (room : Int) (or : (Lit.int .i64 room).wf = true) (l : List api_Point) (ol : l.length * 72 ≤ 140737488351232 ∧ ∀ x ∈ l, ok_api_Point x) : law08_LeafPlays s room l = some true := by
  have hz := szL_of os
  have ha : ∀ p ∈ l, okP2 p := fun p hp => by
    have h := ol.2 p hp
    obtain ⟨z, w⟩ := okP_of h
    exact ⟨z, w, by have := h.2.1.1; omega, by have := h.2.2.2.1; omega⟩
  unfold law08_LeafPlays
  rw [shown_ok, Option.bind_some]
  by_cases hl : s.length > 10
  · rw [if_pos (by simp; omega), cut_of (by omega) (by omega) (by omega), Option.bind_some]
    exact plays_j0 (hz.take _) ha (by omega)
  · rw [if_neg (by simp; omega)]
    exact plays_j0 hz ha (by omega)
end Go.Proofs.YtchgiggipimigaaGreatDoor.M
end
