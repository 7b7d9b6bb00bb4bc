/- For the law GroupCounts: what the plain functions answer, and that the law's plain function answers true for every input; without condition but what each theorem states. -/
import Derived.Test.YtonfglmfdhljnaaGreatDoorGroupCountsP1
section
namespace Go.Proofs.YtonfglmfdhljnaaGreatDoor.M
open Go Go.Eng Go.Proofs Go.RowKit
set_option maxRecDepth 100000
set_option linter.unusedVariables false
set_option linter.unusedSimpArgs false
def H0 : Arr8 := ⟨0, 0, 0, 0, 0, 0, 0, 0⟩
def validS (v : api_Value) : Bool :=
  if v.Kind = 1 then decide (v.S = ⟨#[]⟩ ∧ v.H = H0)
  else if v.Kind = 2 then decide (v.N = 0 ∧ v.H = H0 ∧ v.S.size ≤ 64)
  else if v.Kind = 3 then decide ((v.N = 0 ∨ v.N = 1) ∧ v.S = ⟨#[]⟩ ∧ v.H = H0)
  else if v.Kind = 4 then decide (v.N = 0 ∧ v.S = ⟨#[]⟩)
  else false
def az (c : Int) : Bool := decide (97 ≤ c ∧ c ≤ 122)
def nm (c : Int) : Bool := decide (97 ≤ c ∧ c ≤ 122 ∨ 48 ≤ c ∧ c ≤ 57 ∨ c = 95 ∨ c = 35)
def nameS (s : ByteArray) : Bool := match sbytes s with
  | [] => false
  | c :: r => az c && r.all nm && decide (s.size ≤ 24)
def findS (cols : List api_Col) (name : ByteArray) : Int := match cols.findIdx? (fun c => decide (c.Name = name)) with
  | some i => (i : Int)
  | none => -1
def colOk (cols : List api_Col) (i : Nat) (c : api_Col) : Bool := nameS c.Name && decide (1 ≤ c.Kind ∧ c.Kind ≤ 4) && decide (findS cols c.Name = (i : Int))
def allFrom {α : Type} (p : Nat → α → Bool) : Nat → List α → Bool
  | _, [] => true
  | i, x :: r => p i x && allFrom p (i + 1) r
def colsS (cols : List api_Col) : Bool := allFrom (colOk cols) 0 cols && decide (1 ≤ cols.length ∧ cols.length ≤ 16)
def rowOk : List api_Value → List api_Col → Bool
  | [], [] => true
  | v :: r, c :: cs => decide (v.Kind = c.Kind) && validS v && rowOk r cs
  | _, _ => false
def checkS (t : api_Table) : Int := if colsS t.Cols = true then (if t.Rows.all (fun r => rowOk r t.Cols) = true then 0 else 21) else 20
theorem rowOk_len : ∀ {r : List api_Value} {cs : List api_Col}, rowOk r cs = true → r.length = cs.length
  | [], [], _ => rfl
  | [], _ :: _, h => by simp [rowOk] at h
  | _ :: _, [], h => by simp [rowOk] at h
  | v :: r, c :: cs, h => by simp only [rowOk, Bool.and_eq_true] at h; simp [rowOk_len h.2]
theorem checkS_zero {t : api_Table} : checkS t = 0 ↔ colsS t.Cols = true ∧ ∀ r ∈ t.Rows, rowOk r t.Cols = true := by
  unfold checkS
  by_cases h : colsS t.Cols = true
  · rw [if_pos h]
    by_cases h2 : t.Rows.all (fun r => rowOk r t.Cols) = true
    · rw [if_pos h2]; simp only [List.all_eq_true] at h2; simp only [h, true_and]; exact ⟨fun _ => h2, fun _ => trivial⟩
    · rw [if_neg h2]; simp only [List.all_eq_true] at h2; simp [h, h2]
  · rw [if_neg h]; simp [h]
theorem str_eq (a b : ByteArray) : (a.toList == b.toList) = decide (a = b) := beq_bytes a b
theorem findS_cons (c : api_Col) (cols : List api_Col) (name : ByteArray) : findS (c :: cols) name = if c.Name = name then 0 else if findS cols name = -1 then -1 else findS cols name + 1 := by
  unfold findS
  rw [List.findIdx?_cons]
  by_cases h : c.Name = name
  · simp [h]
  · simp only [h, decide_false, Bool.false_eq_true, if_false]
    cases cols.findIdx? (fun c => decide (c.Name = name)) with
    | none => simp
    | some i => simp
theorem findS_ge (cols : List api_Col) (name : ByteArray) : -1 ≤ findS cols name ∧ findS cols name < cols.length := by
  unfold findS
  split
  · rename_i i h
    have := (List.findIdx?_eq_some_iff_getElem.1 h).1
    omega
  · omega
theorem findS_some {cols : List api_Col} {name : ByteArray} (h : 0 ≤ findS cols name) : ∃ i c, findS cols name = ((i : Nat) : Int) ∧ cols[i]? = some c ∧ c.Name = name ∧ ∀ j d, j < i → cols[j]? = some d → d.Name ≠ name := by
  unfold findS at h ⊢
  split
  · rename_i i h1
    obtain ⟨h2, h3, h4⟩ := List.findIdx?_eq_some_iff_getElem.1 h1
    refine ⟨i, cols[i], rfl, List.getElem?_eq_getElem h2, by simpa using h3, fun j d hj hd => ?_⟩
    have hjl := (List.getElem?_eq_some_iff.1 hd).1
    have := h4 j hj
    rw [List.getElem?_eq_getElem hjl] at hd
    have hd := Option.some.inj hd
    subst hd
    simpa using this
  · rename_i h1; rw [h1] at h; simp at h
theorem findS_none {cols : List api_Col} {name : ByteArray} : findS cols name = -1 ↔ ∀ c ∈ cols, c.Name ≠ name := by
  unfold findS
  split
  · rename_i i h1
    obtain ⟨h2, h3, h4⟩ := List.findIdx?_eq_some_iff_getElem.1 h1
    constructor
    · intro h; omega
    · intro h; exact absurd (by simpa using h3) (h _ (List.getElem_mem h2))
  · rename_i h1
    rw [List.findIdx?_eq_none_iff] at h1
    simp only [true_iff]
    intro c hc
    simpa using h1 c hc
def okCols (cols : List api_Col) : Prop := cols.length < 4611686018427387904 ∧ ∀ c ∈ cols, c.Name.size < 4611686018427387904
def okRows {α : Type} (rows : List (List α)) : Prop := rows.length < 4611686018427387904 ∧ ∀ r ∈ rows, r.length < 4611686018427387904
end Go.Proofs.YtonfglmfdhljnaaGreatDoor.M
end
section
namespace Go.Proofs.YtonfglmfdhljnaaGreatDoor.M
open Go Go.Eng Go.Proofs Go.RowKit
set_option maxRecDepth 100000
set_option linter.unusedVariables false
set_option linter.unusedSimpArgs false
def cmpV : api_Value → api_Value → Int := thenC (onC (·.Kind) ord3) (thenC (onC (·.N) ord3) (thenC (onC (fun v => sbytes v.S) (lexL ord3)) (onC (fun v => v.H.list) (lexL ord3))))
theorem cmpV_cmp : IsCmp cmpV := thenC_cmp (onC_cmp ord3_cmp) (thenC_cmp (onC_cmp ord3_cmp) (thenC_cmp (onC_cmp (lexL_cmp ord3_cmp)) (onC_cmp (lexL_cmp ord3_cmp))))
theorem thenC_zero {α : Type} {c1 c2 : α → α → Int} {x y : α} (h : thenC c1 c2 x y = 0) : c1 x y = 0 ∧ c2 x y = 0 := by
  unfold thenC at h
  by_cases e : c1 x y = 0
  · rw [if_pos e] at h; exact ⟨e, h⟩
  · rw [if_neg e] at h; exact absurd h e
theorem cmpV_zero (a b : api_Value) (h : cmpV a b = 0) : a = b := by
  unfold cmpV at h
  obtain ⟨h1, h⟩ := thenC_zero h
  obtain ⟨h2, h⟩ := thenC_zero h
  obtain ⟨h3, h4⟩ := thenC_zero h
  have e1 := ord3_zero h1
  have e2 := ord3_zero h2
  have e3 := sbytes_inj (lexL_zero (fun _ _ => ord3_zero) _ _ h3)
  have e4 := lexL_zero (fun _ _ => ord3_zero) _ _ h4
  obtain ⟨k, n, s, ⟨a0, a1, a2, a3, a4, a5, a6, a7⟩⟩ := a
  obtain ⟨k', n', s', ⟨b0, b1, b2, b3, b4, b5, b6, b7⟩⟩ := b
  simp only [Arr8.list, List.cons.injEq, and_true] at e1 e2 e3 e4 ⊢
  obtain ⟨rfl, rfl, rfl, rfl, rfl, rfl, rfl, rfl⟩ := e4
  subst e1; subst e2; subst e3; rfl
def cmpR : List api_Value → List api_Value → Int := lexL cmpV
theorem cmpR_cmp : IsCmp cmpR := lexL_cmp cmpV_cmp
theorem cmpR_zero (a b : List api_Value) (h : cmpR a b = 0) : a = b := lexL_zero cmpV_zero a b h
def okV (v : api_Value) : Prop := v.S.size < 4611686018427387904
def okRow (r : List api_Value) : Prop := r.length < 4611686018427387904 ∧ ∀ v ∈ r, okV v
end Go.Proofs.YtonfglmfdhljnaaGreatDoor.M
end
section
namespace Go.Proofs.YtonfglmfdhljnaaGreatDoor.M
open Go Go.Eng Go.Proofs Go.RowKit
set_option maxRecDepth 100000
set_option linter.unusedVariables false
set_option linter.unusedSimpArgs false
theorem find_l0 {cols : List api_Col} {name : ByteArray} (hn : cols.length < 4611686018427387904) : ∀ (fuel i : Nat), i ≤ cols.length → cols.length < i + fuel →
    slices_IndexFunc_api_Col_api_Col_f_table_Find_1p.l0 cols name fuel (i : Int) = some (if findS (cols.drop i) name = -1 then -1 else findS (cols.drop i) name + i)
  | 0, i, _, h => by omega
  | fuel + 1, i, h1, h2 => by
    rw [slices_IndexFunc_api_Col_api_Col_f_table_Find_1p.l0]
    by_cases hi : i < cols.length
    · obtain ⟨c, hc, ec⟩ := getE hi
      rw [if_pos (dlt hi), ix_of hc, Option.bind_some]
      unfold table_Find_1_cp
      rw [Option.bind_some, str_eq, ec, findS_cons, w64_nat i (by omega), find_l0 hn fuel (i + 1) (by omega) (by omega)]
      by_cases e : c.Name = name
      · simp [e]
      · have := findS_ge (cols.drop (i + 1)) name
        by_cases e2 : findS (cols.drop (i + 1)) name = -1
        · simp [e, e2]
        · simp [e, e2, show ¬ findS (cols.drop (i + 1)) name + 1 = -1 by omega]; omega
    · rw [if_neg (dnl (by omega)), List.drop_of_length_le (by omega)]; rfl
theorem find_eq {cols : List api_Col} {name : ByteArray} (hn : cols.length < 4611686018427387904) : table_Find cols name = some (findS cols name) := by
  unfold table_Find slices_IndexFunc_api_Col_api_Col_f_table_Find_1p
  have h0 := find_l0 (name := name) hn (cols.length + 1) 0 (Nat.zero_le _) (by omega)
  rw [fuel_nat, show (0 : Int) = ((0 : Nat) : Int) from rfl, h0]
  by_cases e : findS cols name = -1
  · simp [e]
  · simp [e]
end Go.Proofs.YtonfglmfdhljnaaGreatDoor.M
end
section
namespace Go.Proofs.YtonfglmfdhljnaaGreatDoor.M
open Go Go.Eng Go.Proofs Go.RowKit
set_option maxRecDepth 100000
set_option linter.unusedVariables false
set_option linter.unusedSimpArgs false
theorem isNaN_eq (x : Int) : cmp_isNaN_int x = some false := by simp [cmp_isNaN_int]
theorem cmpInt_eq (x y : Int) : cmp_Compare_int x y = some (ord3 x y) := by
  unfold cmp_Compare_int ord3
  simp only [isNaN_eq, Option.bind_some, Bool.false_eq_true, if_false, decide_eq_true_eq]
  split
  · rfl
  · split <;> rfl
theorem strCmp_eq (s t : ByteArray) : strings_Compare s t = some (lexL ord3 (sbytes s) (sbytes t)) := by
  unfold strings_Compare internal_bytealg_CompareString
  simp only [Option.bind_some, compareBytes_sb]
theorem sliCmp_l0 {xs ys : List Int} (hn : xs.length < 4611686018427387904) : ∀ (fuel i : Nat), i ≤ xs.length → i ≤ ys.length → xs.length < i + fuel → slices_Compare_int_int.l0 xs ys fuel (i : Int) = some (lexL ord3 (xs.drop i) (ys.drop i))
  | 0, i, _, _, h => by omega
  | fuel + 1, i, h1, h2, h3 => by
    rw [slices_Compare_int_int.l0]
    by_cases hi : i < xs.length
    · obtain ⟨x, hx, ex⟩ := getE hi
      rw [if_pos (dlt hi), ix_of hx, Option.bind_some, ex]
      by_cases hj : i < ys.length
      · obtain ⟨y, hy, ey⟩ := getE hj
        rw [if_neg (dng hj), ix_of hy, Option.bind_some, cmpInt_eq, Option.bind_some, ey, lexL]
        by_cases e : ord3 x y = 0
        · rw [if_neg (by simp [e]), if_pos e, w64_nat _ (by omega), sliCmp_l0 hn fuel (i + 1) (by omega) (by omega) (by omega)]
        · rw [if_pos (by simpa using e), if_neg e]
      · rw [if_pos (dge (by omega)), List.drop_of_length_le (l := ys) (by omega)]; rfl
    · rw [if_neg (dnl (by omega)), List.drop_of_length_le (l := xs) (by omega)]
      by_cases hj : xs.length < ys.length
      · obtain ⟨y, hy, ey⟩ := getE (l := ys) (i := i) (by omega)
        rw [if_pos (dlt hj), ey]; rfl
      · rw [if_neg (dnl (by omega)), List.drop_of_length_le (l := ys) (by omega)]; rfl
theorem sliCmp_eq {xs ys : List Int} (hn : xs.length < 4611686018427387904) : slices_Compare_int_int xs ys = some (lexL ord3 xs ys) := by
  unfold slices_Compare_int_int
  rw [fuel_nat]
  exact sliCmp_l0 hn _ 0 (Nat.zero_le _) (Nat.zero_le _) (by omega)
def orS : List Int → Int
  | [] => 0
  | x :: r => if x = 0 then orS r else x
theorem or_l0 {xs : List Int} (hn : xs.length < 4611686018427387904) : ∀ (fuel i : Nat), i ≤ xs.length → xs.length < i + fuel → cmp_Or_int.l0 xs fuel (i : Int) = some (orS (xs.drop i))
  | 0, i, _, h => by omega
  | fuel + 1, i, h1, h2 => by
    rw [cmp_Or_int.l0]
    by_cases hi : i < xs.length
    · obtain ⟨x, hx, ex⟩ := getE hi
      rw [if_pos (dlt hi), ix_of hx, Option.bind_some, ex, orS]
      by_cases e : x = 0
      · rw [if_neg (by simp [e]), if_pos e, w64_nat _ (by omega), or_l0 hn fuel (i + 1) (by omega) (by omega)]
      · rw [if_pos (by simpa using e), if_neg e]
    · rw [if_neg (dnl (by omega)), List.drop_of_length_le (by omega)]; rfl
theorem or_eq {xs : List Int} (hn : xs.length < 4611686018427387904) : cmp_Or_int xs = some (orS xs) := by
  unfold cmp_Or_int
  rw [fuel_nat]
  exact or_l0 hn _ 0 (Nat.zero_le _) (by omega)
theorem cmpV_eq (a b : api_Value) : value_Compare a b = some (cmpV a b) := by
  unfold value_Compare
  rw [cmpInt_eq, Option.bind_some, cmpInt_eq, Option.bind_some, strCmp_eq, Option.bind_some, sliCmp_eq (by simp [Arr8.list]), Option.bind_some, or_eq (by simp), Option.bind_some]
  simp only [orS, cmpV, thenC, onC]
  by_cases h1 : ord3 a.Kind b.Kind = 0 <;> by_cases h2 : ord3 a.N b.N = 0 <;> by_cases h3 : lexL ord3 (sbytes a.S) (sbytes b.S) = 0 <;> by_cases h4 : lexL ord3 a.H.list b.H.list = 0 <;> simp only [h1, h2, h3, h4, if_true, if_false]
end Go.Proofs.YtonfglmfdhljnaaGreatDoor.M
end
section
namespace Go.Proofs.YtonfglmfdhljnaaGreatDoor.M
open Go Go.Eng Go.Proofs Go.RowKit
set_option maxRecDepth 100000
set_option linter.unusedVariables false
set_option linter.unusedSimpArgs false
theorem valid_eq (v : api_Value) : value_Valid v = some (validS v) := by
  obtain ⟨k, n, s, h⟩ := v
  unfold value_Valid validS value_Valid.j3 value_Valid.j4 value_Valid.j2 value_Valid.j1 value_Valid.j0 H0
  by_cases h1 : k = 1
  · simp [h1]
  by_cases h2 : k = 2
  · subst h2
    by_cases hs : s.size ≤ 64
    · simp [hs, show ((s.size : Int) ≤ 64) by omega]
    · simp [hs, show ¬ ((s.size : Int) ≤ 64) by omega]
  by_cases h3 : k = 3
  · subst h3
    by_cases n0 : n = 0
    · simp [n0]
    · by_cases n1 : n = 1
      · simp [n1]
      · simp [n0, n1]
  by_cases h4 : k = 4
  · simp [h4]
  · simp [h1, h2, h3, h4]
theorem name_l0 {s : ByteArray} (hn : s.size < 4611686018427387904) : ∀ (fuel i : Nat), 0 < i → i ≤ s.size → s.size < i + fuel → table_Name.l0 s fuel (i : Int) = some (((sbytes s).drop i).all nm && decide (1 ≤ s.size ∧ s.size ≤ 24))
  | 0, i, _, _, h => by omega
  | fuel + 1, i, h0, h1, h2 => by
    have hl := sbytes_len s
    rw [table_Name.l0]
    by_cases hi : i < s.size
    · obtain ⟨c, hc, ec⟩ := getE (l := sbytes s) (i := i) (by omega)
      have ih := name_l0 hn fuel (i + 1) (by omega) (by omega) (by omega)
      rw [if_pos (dlt hi), ixs_of hc, Option.bind_some, ec, List.all_cons]
      simp only [table_Name.j1, table_Name.j3, table_Name.j2, w64_nat i (by omega), ih, nm]
      have hp : (i : Int) > 0 := by omega
      by_cases a1 : c ≥ 97 <;> by_cases a2 : c ≤ 122 <;> by_cases a3 : c ≥ 48 <;> by_cases a4 : c ≤ 57 <;> by_cases a5 : c = 95 <;> by_cases a6 : c = 35 <;> (try omega) <;> simp [a1, a2, a3, a4, a5, a6, hp, h0, show ¬ i = 0 by omega]
    · have : i = s.size := by omega
      rw [if_neg (dnl (by omega)), List.drop_of_length_le (by omega)]
      by_cases h3 : s.size ≤ 24
      · simp only [List.all_nil, Bool.true_and]
        rw [if_pos (by simp; omega)]
        simp [show (1 ≤ s.size ∧ s.size ≤ 24) by omega, show ((s.size : Int) ≤ 24) by omega]
      · simp only [List.all_nil, Bool.true_and]
        rw [if_pos (by simp; omega)]
        simp [show ¬ (1 ≤ s.size ∧ s.size ≤ 24) by omega, show ¬ ((s.size : Int) ≤ 24) by omega]
theorem name_eq {s : ByteArray} (hn : s.size < 4611686018427387904) : table_Name s = some (nameS s) := by
  have hl := sbytes_len s
  unfold table_Name nameS
  rw [fuel_nat, table_Name.l0]
  cases hb : sbytes s with
  | nil =>
    have : s.size = 0 := by rw [← hl, hb]; rfl
    simp [this]
  | cons c r =>
    have hs : s.size = r.length + 1 := by rw [← hl, hb]; rfl
    have hc : (sbytes s)[0]? = some c := by rw [hb]; rfl
    have ih := name_l0 hn s.size 1 (by omega) (by omega) (by omega)
    have hd : (sbytes s).drop 1 = r := by rw [hb]; rfl
    rw [hd] at ih
    rw [show (0 : Int) = ((0 : Nat) : Int) from rfl, if_pos (dlt (by omega)), ixs_of hc, Option.bind_some]
    simp only [table_Name.j1, table_Name.j3, table_Name.j2, w64_nat 0 (by omega), Nat.zero_add, ih, az]
    by_cases a1 : c ≥ 97 <;> by_cases a2 : c ≤ 122 <;> simp [a1, a2, show 1 ≤ s.size by omega]
theorem columns_l0 {cols : List api_Col} (hn : okCols cols) : ∀ (fuel i : Nat), i ≤ cols.length → cols.length < i + fuel →
    table_columns.l0 cols fuel (i : Int) = some (allFrom (colOk cols) i (cols.drop i) && decide (1 ≤ cols.length ∧ cols.length ≤ 16))
  | 0, i, _, h => by omega
  | fuel + 1, i, h1, h2 => by
    have hn1 := hn.1
    rw [table_columns.l0]
    by_cases hi : i < cols.length
    · obtain ⟨c, hc, ec⟩ := getE hi
      rw [if_pos (dlt hi), ix_of hc, Option.bind_some, name_eq (hn.2 c (List.mem_of_getElem? hc)), Option.bind_some, find_eq hn1, Option.bind_some, ec, allFrom]
      simp only [table_columns.j1, w64_nat i (by omega), columns_l0 hn fuel (i + 1) (by omega) (by omega), colOk]
      cases nameS c.Name
      · simp
      · by_cases a1 : c.Kind < 1
        · simp [a1, show ¬ (1 ≤ c.Kind ∧ c.Kind ≤ 4) by omega]
        · by_cases a2 : c.Kind > 4
          · simp [a1, a2, show ¬ (1 ≤ c.Kind ∧ c.Kind ≤ 4) by omega]
          · by_cases a3 : findS cols c.Name = (i : Int)
            · simp [a1, a2, a3, show (1 ≤ c.Kind ∧ c.Kind ≤ 4) by omega]
            · simp [a1, a2, a3, show (1 ≤ c.Kind ∧ c.Kind ≤ 4) by omega]
    · rw [if_neg (dnl (by omega)), List.drop_of_length_le (by omega)]
      by_cases h3 : 1 ≤ cols.length
      · rw [if_pos (by simp; omega)]
        by_cases h4 : cols.length ≤ 16
        · simp [allFrom, show (1 ≤ cols.length ∧ cols.length ≤ 16) by omega, show ((cols.length : Int) ≤ 16) by omega]
        · simp [allFrom, show ¬ (1 ≤ cols.length ∧ cols.length ≤ 16) by omega, show ¬ ((cols.length : Int) ≤ 16) by omega]
      · rw [if_neg (by simp; omega)]
        simp [allFrom, show ¬ (1 ≤ cols.length ∧ cols.length ≤ 16) by omega]
theorem columns_eq {cols : List api_Col} (hn : okCols cols) : table_columns cols = some (colsS cols) := by
  unfold table_columns colsS
  rw [fuel_nat]
  exact columns_l0 hn _ 0 (Nat.zero_le _) (by omega)
theorem chk_l1 {t : api_Table} {k : Int → Option Int} {j : Int} {row : List api_Value} (hr : row.length < 4611686018427387904) (hl : row.length = t.Cols.length) : ∀ (fuel i : Nat), i ≤ row.length → row.length < i + fuel →
    table_Check.l1 k t j row fuel (i : Int) = if rowOk (row.drop i) (t.Cols.drop i) = true then k (IntKind.i64.wrap (j + 1)) else some 21
  | 0, i, _, h => by omega
  | fuel + 1, i, h1, h2 => by
    rw [table_Check.l1]
    by_cases hi : i < row.length
    · obtain ⟨v, hv, ev⟩ := getE hi
      obtain ⟨c, hc, ec⟩ := getE (l := t.Cols) (i := i) (by omega)
      rw [if_pos (dlt hi), ix_of hv, Option.bind_some, ix_of hc, Option.bind_some, valid_eq, Option.bind_some, ev, ec, rowOk]
      simp only [table_Check.j2, w64_nat i (by omega), chk_l1 hr hl fuel (i + 1) (by omega) (by omega)]
      by_cases a1 : v.Kind = c.Kind
      · cases validS v <;> simp [a1]
      · simp [a1]
    · rw [if_neg (dnl (by omega)), List.drop_of_length_le (by omega), List.drop_of_length_le (by omega)]; rfl
theorem chk_l0 {t : api_Table} (hr : okRows t.Rows) : ∀ (fuel i : Nat), i ≤ t.Rows.length → t.Rows.length < i + fuel →
    table_Check.l0 t fuel (i : Int) = some (if (t.Rows.drop i).all (fun r => rowOk r t.Cols) = true then 0 else 21)
  | 0, i, _, h => by omega
  | fuel + 1, i, h1, h2 => by
    have hr1 := hr.1
    rw [table_Check.l0]
    by_cases hi : i < t.Rows.length
    · obtain ⟨r, hx, ex⟩ := getE hi
      rw [if_pos (dlt hi), ix_of hx, Option.bind_some, ex, List.all_cons]
      by_cases hl : r.length = t.Cols.length
      · have hrl := hr.2 r (List.mem_of_getElem? hx)
        rw [if_neg (by simp [hl]), fuel_nat, show (0 : Int) = ((0 : Nat) : Int) from rfl, chk_l1 hrl hl _ 0 (Nat.zero_le _) (by omega), w64_nat i (by omega), chk_l0 hr fuel (i + 1) (by omega) (by omega)]
        simp only [List.drop_zero]
        cases rowOk r t.Cols <;> simp
      · have : rowOk r t.Cols = false := by
          cases h : rowOk r t.Cols with
          | false => rfl
          | true => exact absurd (rowOk_len h) hl
        rw [if_pos (by simp; omega), this]; simp
    · rw [if_neg (dnl (by omega)), List.drop_of_length_le (by omega)]; rfl
theorem check_eq {t : api_Table} (hc : okCols t.Cols) (hr : okRows t.Rows) : table_Check t = some (checkS t) := by
  unfold table_Check checkS
  rw [columns_eq hc, Option.bind_some]
  cases colsS t.Cols
  · simp
  · rw [if_neg (by simp), fuel_nat, if_pos rfl]
    have := chk_l0 hr (t.Rows.length + 1) 0 (Nat.zero_le _) (by omega)
    rw [List.drop_zero] at this
    exact this
end Go.Proofs.YtonfglmfdhljnaaGreatDoor.M
end
section
namespace Go.Proofs.YtonfglmfdhljnaaGreatDoor.M
open Go Go.Eng Go.Proofs Go.RowKit
set_option maxRecDepth 100000
set_option linter.unusedVariables false
set_option linter.unusedSimpArgs false
theorem rvalid_eq (v : api_Value) : ref01_Valid v = some (validS v) := by
  obtain ⟨k, n, s, h⟩ := v
  unfold ref01_Valid validS H0
  simp only [str_eq]
  by_cases h1 : k = 1
  · by_cases a1 : s = ⟨#[]⟩ <;> simp [h1, a1]
  by_cases h2 : k = 2
  · subst h2
    by_cases a1 : n = 0 <;> by_cases a2 : h = ⟨0, 0, 0, 0, 0, 0, 0, 0⟩ <;> by_cases hs : s.size ≤ 64 <;> simp [a1, a2, hs, show ((s.size : Int) ≤ 64) ↔ s.size ≤ 64 by omega]
  by_cases h3 : k = 3
  · subst h3
    by_cases n0 : n = 0
    · by_cases a1 : s = ⟨#[]⟩ <;> simp [n0, a1]
    · by_cases n1 : n = 1
      · by_cases a1 : s = ⟨#[]⟩ <;> simp [n1, a1]
      · simp [n0, n1]
  by_cases h4 : k = 4
  · by_cases a1 : n = 0 <;> simp [h4, a1]
  · simp [h1, h2, h3, h4]
theorem rname_l1 {s : ByteArray} (hn : s.size < 4611686018427387904) : ∀ (fuel i : Nat), i ≤ s.size → s.size < i + fuel → ref02_Name.l1 s fuel (i : Int) = some (((sbytes s).drop i).all nm)
  | 0, i, _, h => by omega
  | fuel + 1, i, h1, h2 => by
    have hl := sbytes_len s
    rw [ref02_Name.l1]
    by_cases hi : i < s.size
    · obtain ⟨c, hc, ec⟩ := getE (l := sbytes s) (i := i) (by omega)
      have ih := rname_l1 hn fuel (i + 1) (by omega) (by omega)
      rw [if_pos (dlt hi), ixs_of hc, Option.bind_some, ec, List.all_cons]
      simp only [ref02_Name.j2, w64_nat i (by omega), ih, nm]
      by_cases a1 : c ≥ 97 <;> by_cases a2 : c ≤ 122 <;> by_cases a3 : c ≥ 48 <;> by_cases a4 : c ≤ 57 <;> by_cases a5 : c = 95 <;> by_cases a6 : c = 35 <;> (try omega) <;> simp [a1, a2, a3, a4, a5, a6]
    · rw [if_neg (dnl (by omega)), List.drop_of_length_le (by omega)]; rfl
theorem rname_eq {s : ByteArray} (hn : s.size < 4611686018427387904) : ref02_Name s = some (nameS s) := by
  have hl := sbytes_len s
  unfold ref02_Name nameS
  have h1 := rname_l1 hn (s.size + 1) 0 (Nat.zero_le _) (by omega)
  rw [show ((0 : Nat) : Int) = 0 from rfl] at h1
  simp only [ref02_Name.j0, fuel_nat, h1]
  cases hb : sbytes s with
  | nil =>
    have : s.size = 0 := by rw [← hl, hb]; rfl
    simp [this]
  | cons c r =>
    have hs : s.size = r.length + 1 := by rw [← hl, hb]; rfl
    have hc : (sbytes s)[0]? = some c := by rw [hb]; rfl
    have hx : ixs s 0 = some c := ixs_of (i := 0) hc
    have ea : az c = true → nm c = true := fun h => by unfold az at h; unfold nm; simp only [decide_eq_true_eq] at *; omega
    by_cases a0 : s.size ≤ 24
    · by_cases a1 : c ≥ 97
      · by_cases a2 : c ≤ 122
        · have e1 : az c = true := by unfold az; simp [a1, a2]
          simp [hx, e1, ea e1, a0, show ¬ ((s.size : Int) < 1) by omega, show ¬ (s.size : Int) > 24 by omega, show ¬ (24 < (s.size : Int)) by omega, show ¬ s.size = 0 by omega, show ¬ c < 97 by omega, show ¬ 122 < c by omega]
        · have e1 : az c = false := by unfold az; simp [a1, a2]
          simp [hx, e1, a0, show ¬ ((s.size : Int) < 1) by omega, show ¬ (24 < (s.size : Int)) by omega, show ¬ s.size = 0 by omega, show ¬ c < 97 by omega, show 122 < c by omega]
      · have e1 : az c = false := by unfold az; simp; omega
        simp [hx, e1, a0, show ¬ ((s.size : Int) < 1) by omega, show ¬ (24 < (s.size : Int)) by omega, show ¬ s.size = 0 by omega, show c < 97 by omega]
    · simp [a0, show ¬ ((s.size : Int) < 1) by omega, show (24 < (s.size : Int)) by omega, show ¬ s.size = 0 by omega]
theorem rfind_l0 {cols : List api_Col} {name : ByteArray} (hn : cols.length < 4611686018427387904) : ∀ (fuel i : Nat), i ≤ cols.length → cols.length < i + fuel →
    ref02_Find.l0 cols name fuel (i : Int) = some (if findS (cols.drop i) name = -1 then -1 else findS (cols.drop i) name + i)
  | 0, i, _, h => by omega
  | fuel + 1, i, h1, h2 => by
    rw [ref02_Find.l0]
    by_cases hi : i < cols.length
    · obtain ⟨c, hc, ec⟩ := getE hi
      rw [if_pos (dlt hi), ix_of hc, Option.bind_some, str_eq, ec, findS_cons, w64_nat i (by omega), rfind_l0 hn fuel (i + 1) (by omega) (by omega)]
      by_cases e : c.Name = name
      · simp [e]
      · have := findS_ge (cols.drop (i + 1)) name
        by_cases e2 : findS (cols.drop (i + 1)) name = -1
        · simp [e, e2]
        · simp [e, e2, show ¬ findS (cols.drop (i + 1)) name + 1 = -1 by omega]; omega
    · rw [if_neg (dnl (by omega)), List.drop_of_length_le (by omega)]; rfl
theorem rfind_eq {cols : List api_Col} {name : ByteArray} (hn : cols.length < 4611686018427387904) : ref02_Find cols name = some (findS cols name) := by
  unfold ref02_Find
  have h0 := rfind_l0 (name := name) hn (cols.length + 1) 0 (Nat.zero_le _) (by omega)
  rw [fuel_nat, show (0 : Int) = ((0 : Nat) : Int) from rfl, h0]
  by_cases e : findS cols name = -1
  · simp [e]
  · simp [e]
theorem rcols_l1 {cols : List api_Col} (hn : okCols cols) : ∀ (fuel i : Nat), i ≤ cols.length → cols.length < i + fuel →
    ref02_Cols.l1 cols fuel (i : Int) = some (allFrom (colOk cols) i (cols.drop i))
  | 0, i, _, h => by omega
  | fuel + 1, i, h1, h2 => by
    have hn1 := hn.1
    rw [ref02_Cols.l1]
    by_cases hi : i < cols.length
    · obtain ⟨c, hc, ec⟩ := getE hi
      rw [if_pos (dlt hi), ix_of hc, Option.bind_some, rname_eq (hn.2 c (List.mem_of_getElem? hc)), Option.bind_some, Option.bind_some, rfind_eq hn1, Option.bind_some, Option.bind_some, Option.bind_some, ec, allFrom]
      simp only [ref02_Cols.j2, w64_nat i (by omega), rcols_l1 hn fuel (i + 1) (by omega) (by omega), colOk]
      cases nameS c.Name
      · simp
      · by_cases a3 : findS cols c.Name = (i : Int)
        · by_cases a1 : c.Kind < 1
          · simp [a1, a3, show ¬ (1 ≤ c.Kind ∧ c.Kind ≤ 4) by omega]
          · by_cases a2 : c.Kind > 4
            · simp [a1, a2, a3, show ¬ (1 ≤ c.Kind ∧ c.Kind ≤ 4) by omega]
            · simp [a1, a2, a3, show (1 ≤ c.Kind ∧ c.Kind ≤ 4) by omega]
        · simp [a3]
    · rw [if_neg (dnl (by omega)), List.drop_of_length_le (by omega)]; rfl
theorem rcols_eq {cols : List api_Col} (hn : okCols cols) : ref02_Cols cols = some (colsS cols) := by
  unfold ref02_Cols colsS ref02_Cols.j0
  have h1 := rcols_l1 hn (cols.length + 1) 0 (Nat.zero_le _) (by omega)
  rw [List.drop_zero, show ((0 : Nat) : Int) = 0 from rfl] at h1
  rw [fuel_nat, h1]
  by_cases a1 : cols.length < 1
  · simp [show ((cols.length : Int) < 1) by omega, show ¬ (1 ≤ cols.length ∧ cols.length ≤ 16) by omega]
  · by_cases a2 : cols.length ≤ 16
    · simp [show ¬ ((cols.length : Int) < 1) by omega, show ¬ (16 < (cols.length : Int)) by omega, show (1 ≤ cols.length ∧ cols.length ≤ 16) by omega]
    · simp [show ¬ ((cols.length : Int) < 1) by omega, show (16 < (cols.length : Int)) by omega, show ¬ (1 ≤ cols.length ∧ cols.length ≤ 16) by omega]
theorem rchk_l1 {t : api_Table} {k : Int → Option Int} {j : Nat} {row : List api_Value} (hj : t.Rows[j]? = some row) (hr : t.Cols.length < 4611686018427387904) (hl : row.length = t.Cols.length) : ∀ (fuel i : Nat), i ≤ row.length → row.length < i + fuel →
    ref02_Check.l1 k t (j : Int) fuel (i : Int) = if rowOk (row.drop i) (t.Cols.drop i) = true then k (IntKind.i64.wrap (j + 1)) else some 21
  | 0, i, _, h => by omega
  | fuel + 1, i, h1, h2 => by
    rw [ref02_Check.l1]
    by_cases hi : i < row.length
    · obtain ⟨v, hv, ev⟩ := getE hi
      obtain ⟨c, hc, ec⟩ := getE (l := t.Cols) (i := i) (by omega)
      rw [if_pos (dlt (by omega)), ix_of hj, Option.bind_some, ix_of hv, Option.bind_some, ix_of hc, Option.bind_some, Option.bind_some, ix_of hv, Option.bind_some, rvalid_eq, Option.bind_some, ev, ec, rowOk]
      simp only [ref02_Check.j2, w64_nat i (by omega), rchk_l1 hj hr hl fuel (i + 1) (by omega) (by omega)]
      by_cases a1 : v.Kind = c.Kind
      · cases validS v <;> simp [a1]
      · simp [a1]
    · rw [if_neg (dnl (by omega)), List.drop_of_length_le (by omega), List.drop_of_length_le (by omega)]; rfl
theorem rchk_l0 {t : api_Table} (hc : t.Cols.length < 4611686018427387904) (hr : okRows t.Rows) : ∀ (fuel i : Nat), i ≤ t.Rows.length → t.Rows.length < i + fuel →
    ref02_Check.l0 t fuel (i : Int) = some (if (t.Rows.drop i).all (fun r => rowOk r t.Cols) = true then 0 else 21)
  | 0, i, _, h => by omega
  | fuel + 1, i, h1, h2 => by
    have hr1 := hr.1
    rw [ref02_Check.l0]
    by_cases hi : i < t.Rows.length
    · obtain ⟨r, hx, ex⟩ := getE hi
      rw [if_pos (dlt hi), ix_of hx, Option.bind_some, ex, List.all_cons]
      by_cases hl : r.length = t.Cols.length
      · have hrl := hr.2 r (List.mem_of_getElem? hx)
        rw [if_neg (by simp [hl]), fuel_nat, show (0 : Int) = ((0 : Nat) : Int) from rfl, rchk_l1 hx hc hl _ 0 (Nat.zero_le _) (by omega), w64_nat i (by omega), rchk_l0 hc hr fuel (i + 1) (by omega) (by omega)]
        simp only [List.drop_zero]
        cases rowOk r t.Cols <;> simp
      · have : rowOk r t.Cols = false := by
          cases h : rowOk r t.Cols with
          | false => rfl
          | true => exact absurd (rowOk_len h) hl
        rw [if_pos (by simp; omega), this]; simp
    · rw [if_neg (dnl (by omega)), List.drop_of_length_le (by omega)]; rfl
theorem rcheck_eq {t : api_Table} (hc : okCols t.Cols) (hr : okRows t.Rows) : ref02_Check t = some (checkS t) := by
  unfold ref02_Check checkS
  rw [rcols_eq hc, Option.bind_some]
  cases colsS t.Cols
  · simp
  · rw [if_neg (by simp), fuel_nat, if_pos rfl]
    have := rchk_l0 hc.1 hr (t.Rows.length + 1) 0 (Nat.zero_le _) (by omega)
    rw [List.drop_zero] at this
    exact this
end Go.Proofs.YtonfglmfdhljnaaGreatDoor.M
end
section
namespace Go.Proofs.YtonfglmfdhljnaaGreatDoor.M
open Go Go.Eng Go.Proofs Go.RowKit
set_option maxRecDepth 100000
set_option linter.unusedVariables false
set_option linter.unusedSimpArgs false
theorem order_eq (x y : Int) : ref01_order x y = some (ord3 x y) := by
  unfold ref01_order ord3
  simp only [decide_eq_true_eq]
  split
  · rfl
  · split <;> rfl
theorem refH_l2 {a b : api_Value} : ∀ (fuel i : Nat), i ≤ 8 → 8 < i + fuel → ref01_Compare.l2 a b fuel (i : Int) = some (lexL ord3 (a.H.list.drop i) (b.H.list.drop i))
  | 0, i, _, h => by omega
  | fuel + 1, i, h1, h2 => by
    rw [ref01_Compare.l2]
    by_cases hi : i < 8
    · obtain ⟨x, hx, ex⟩ := getE (l := a.H.list) (i := i) hi
      obtain ⟨y, hy, ey⟩ := getE (l := b.H.list) (i := i) hi
      have hx' : Arr8.ix a.H (i : Int) = some x := ix_of hx
      have hy' : Arr8.ix b.H (i : Int) = some y := ix_of hy
      rw [if_pos (show decide ((i : Int) < 8) = true by simp; omega), hx', Option.bind_some, hy', Option.bind_some, ex, ey, lexL]
      by_cases e : x = y
      · subst e
        rw [if_neg (by simp), w64_nat _ (by omega), ord3_self, if_pos rfl, refH_l2 fuel (i + 1) (by omega) (by omega)]
      · rw [if_pos (by simpa using e), Option.bind_some, Option.bind_some, order_eq, Option.bind_some, if_neg (fun h => e (ord3_zero h))]
    · rw [if_neg (show ¬ decide ((i : Int) < 8) = true by simp; omega), List.drop_of_length_le (show a.H.list.length ≤ i by simp [Arr8.list]; omega), List.drop_of_length_le (show b.H.list.length ≤ i by simp [Arr8.list]; omega)]; rfl
theorem refS_l0 {a b : api_Value} (ha : a.S.size < 4611686018427387904) : ∀ (fuel i : Nat), i ≤ a.S.size → i ≤ b.S.size → a.S.size < i + fuel → (sbytes a.S).take i = (sbytes b.S).take i →
    ref01_Compare.l0 a b fuel (i : Int) = some (if lexL ord3 ((sbytes a.S).drop i) ((sbytes b.S).drop i) = 0 then lexL ord3 a.H.list b.H.list else lexL ord3 ((sbytes a.S).drop i) ((sbytes b.S).drop i))
  | 0, i, _, _, h, _ => by omega
  | fuel + 1, i, h1, h2, h3, h4 => by
    have hl2 : ref01_Compare.l2 a b (((8 : Int) - 0).toNat + 1) 0 = some (lexL ord3 a.H.list b.H.list) := refH_l2 9 0 (by omega) (by omega)
    have la := sbytes_len a.S
    have lb := sbytes_len b.S
    have fin : ∀ (h : ¬ (i < a.S.size ∧ i < b.S.size)), ref01_Compare.j1 (ref01_Compare.l0 a b fuel) a b (i : Int) false = some (if lexL ord3 ((sbytes a.S).drop i) ((sbytes b.S).drop i) = 0 then lexL ord3 a.H.list b.H.list else lexL ord3 ((sbytes a.S).drop i) ((sbytes b.S).drop i)) := fun h => by
      unfold ref01_Compare.j1
      rw [if_neg (by simp), order_eq, Option.bind_some, hl2]
      by_cases e : a.S.size = b.S.size
      · have : i = a.S.size := by omega
        rw [if_neg (by simp [e]), List.drop_of_length_le (l := sbytes a.S) (by omega), List.drop_of_length_le (l := sbytes b.S) (by omega)]
        simp [lexL]
      · rw [if_pos (by simp; omega)]
        by_cases e2 : a.S.size < b.S.size
        · obtain ⟨y, hy, ey⟩ := getE (l := sbytes b.S) (i := i) (by omega)
          rw [List.drop_of_length_le (l := sbytes a.S) (by omega), ey]
          have : ord3 (a.S.size : Int) (b.S.size : Int) = -1 := by unfold ord3; rw [if_pos (by omega)]
          rw [this]; simp [lexL]
        · obtain ⟨y, hy, ey⟩ := getE (l := sbytes a.S) (i := i) (by omega)
          rw [List.drop_of_length_le (l := sbytes b.S) (by omega), ey]
          have : ord3 (a.S.size : Int) (b.S.size : Int) = 1 := by unfold ord3; rw [if_neg (by omega), if_pos (by omega)]
          rw [this]; simp [lexL]
    rw [ref01_Compare.l0]
    by_cases hi : i < a.S.size
    · rw [if_pos (dlt hi)]
      by_cases hj : i < b.S.size
      · obtain ⟨x, hx, ex⟩ := getE (l := sbytes a.S) (i := i) (by omega)
        obtain ⟨y, hy, ey⟩ := getE (l := sbytes b.S) (i := i) (by omega)
        have bx := sbytes_range (List.mem_of_getElem? hx)
        have by' := sbytes_range (List.mem_of_getElem? hy)
        rw [show decide ((i : Int) < (b.S.size : Int)) = true from dlt hj]
        unfold ref01_Compare.j1
        rw [if_pos rfl, ixs_of hx, Option.bind_some, ixs_of hy, Option.bind_some, ex, ey, lexL]
        by_cases e : x = y
        · subst e
          rw [if_neg (by simp), w64_nat _ (by omega), ord3_self, if_pos rfl]
          exact refS_l0 ha fuel (i + 1) (by omega) (by omega) (by omega) (by rw [List.take_add_one, List.take_add_one, h4, hx, hy])
        · rw [if_pos (by simpa using e), Option.bind_some, Option.bind_some, w64 (by omega) (by omega), w64 (by omega) (by omega), order_eq, Option.bind_some, if_neg (fun h => e (ord3_zero h)), if_neg (fun h => e (ord3_zero h))]
      · rw [show decide ((i : Int) < (b.S.size : Int)) = false by simpa using hj]
        exact fin (by omega)
    · rw [if_neg (dnl (by omega))]
      exact fin (by omega)
theorem refV_eq {a b : api_Value} (ha : a.S.size < 4611686018427387904) : ref01_Compare a b = some (cmpV a b) := by
  have h0 := refS_l0 (b := b) ha (a.S.size + 1) 0 (Nat.zero_le _) (Nat.zero_le _) (by omega) rfl
  simp only [List.drop_zero] at h0
  have e : cmpV a b = if ord3 a.Kind b.Kind = 0 then if ord3 a.N b.N = 0 then if lexL ord3 (sbytes a.S) (sbytes b.S) = 0 then lexL ord3 a.H.list b.H.list else lexL ord3 (sbytes a.S) (sbytes b.S) else ord3 a.N b.N else ord3 a.Kind b.Kind := rfl
  rw [e]
  unfold ref01_Compare
  rw [fuel_nat]
  by_cases e1 : ord3 a.Kind b.Kind = 0
  · rw [if_neg (by simp [ord3_zero e1]), if_pos e1]
    by_cases e2 : ord3 a.N b.N = 0
    · rw [if_neg (by simp [ord3_zero e2]), if_pos e2]; exact h0
    · rw [if_pos (by simp only [bne_iff_ne, ne_eq]; intro h; rw [h, ord3_self] at e2; exact e2 rfl), order_eq, Option.bind_some, if_neg e2]
  · rw [if_pos (by simp only [bne_iff_ne, ne_eq]; intro h; rw [h, ord3_self] at e1; exact e1 rfl), order_eq, Option.bind_some, if_neg e1]
theorem refRow_l0 {a b : List api_Value} (ha : okRow a) : ∀ (fuel i : Nat), i ≤ a.length → i ≤ b.length → a.length < i + fuel →
    ref02_Row.l0 a b fuel (i : Int) = some (lexL cmpV (a.drop i) (b.drop i))
  | 0, i, _, _, h => by omega
  | fuel + 1, i, h1, h2, h3 => by
    have hn := ha.1
    have fin : ∀ (h : ¬ (i < a.length ∧ i < b.length)), ref02_Row.j1 (ref02_Row.l0 a b fuel) a b (i : Int) false = some (lexL cmpV (a.drop i) (b.drop i)) := fun h => by
      unfold ref02_Row.j1
      rw [if_neg (by simp)]
      by_cases e : a.length < b.length
      · obtain ⟨y, hy, ey⟩ := getE (l := b) (i := i) (by omega)
        rw [if_pos (dlt e), List.drop_of_length_le (l := a) (by omega), ey]; rfl
      · rw [if_neg (dnl (by omega))]
        by_cases e2 : b.length < a.length
        · obtain ⟨y, hy, ey⟩ := getE (l := a) (i := i) (by omega)
          rw [if_pos (by simp; omega), List.drop_of_length_le (l := b) (by omega), ey]; rfl
        · rw [if_neg (by simp; omega), List.drop_of_length_le (l := b) (by omega), List.drop_of_length_le (l := a) (by omega)]; rfl
    rw [ref02_Row.l0]
    by_cases hi : i < a.length
    · rw [if_pos (dlt hi)]
      by_cases hj : i < b.length
      · obtain ⟨x, hx, ex⟩ := getE hi
        obtain ⟨y, hy, ey⟩ := getE hj
        rw [show decide ((i : Int) < (b.length : Int)) = true from dlt hj]
        unfold ref02_Row.j1
        rw [if_pos rfl, ix_of hx, Option.bind_some, ix_of hy, Option.bind_some, refV_eq (ha.2 x (List.mem_of_getElem? hx)), Option.bind_some, ex, ey, lexL]
        by_cases e : cmpV x y = 0
        · rw [if_neg (by simp [e]), if_pos e, w64_nat _ (by omega)]
          exact refRow_l0 ha fuel (i + 1) (by omega) (by omega) (by omega)
        · rw [if_pos (by simpa using e), if_neg e]
      · rw [show decide ((i : Int) < (b.length : Int)) = false by simpa using hj]
        exact fin (by omega)
    · rw [if_neg (dnl (by omega))]
      exact fin (by omega)
theorem refRow_eq {a b : List api_Value} (ha : okRow a) : ref02_Row a b = some (cmpR a b) := by
  unfold ref02_Row
  rw [fuel_nat]
  exact refRow_l0 ha _ 0 (Nat.zero_le _) (Nat.zero_le _) (by omega)
end Go.Proofs.YtonfglmfdhljnaaGreatDoor.M
end
section
namespace Go.Proofs.YtonfglmfdhljnaaGreatDoor.M
open Go Go.Eng Go.Proofs Go.RowKit
set_option maxRecDepth 100000
set_option linter.unusedVariables false
set_option linter.unusedSimpArgs false
structure szT (t : api_Table) : Prop where
  c : t.Cols.length * 24 ≤ 140737488351232
  n : ∀ c ∈ t.Cols, c.Name.size ≤ 140737488351232
  r : t.Rows.length * 24 ≤ 140737488351232
  w : ∀ r ∈ t.Rows, r.length * 96 ≤ 140737488351232
  s : ∀ r ∈ t.Rows, ∀ v ∈ r, v.S.size ≤ 140737488351232
theorem szT_of {t : api_Table} (h : ok_api_Table t) : szT t := by
  obtain ⟨⟨h1, h2⟩, h3, h4⟩ := h
  exact ⟨h1, fun c hc => (h2 c hc).1, h3, fun r hr => (h4 r hr).1, fun r hr v hv => ((h4 r hr).2 v hv).2.2.1⟩
theorem szT.cols {t : api_Table} (h : szT t) : okCols t.Cols := ⟨by have := h.c; omega, fun c hc => by have := h.n c hc; omega⟩
theorem szT.rows {t : api_Table} (h : szT t) : okRows t.Rows := ⟨by have := h.r; omega, fun r hr => by have := h.w r hr; omega⟩
theorem szT.row {t : api_Table} (h : szT t) {r : List api_Value} (hr : r ∈ t.Rows) : okRow r := ⟨by have := h.w r hr; omega, fun v hv => by have := h.s r hr v hv; unfold okV; omega⟩
theorem szT.sub {t u : api_Table} (h : szT t) (hc : u.Cols = t.Cols) (hl : u.Rows.length ≤ t.Rows.length) (hr : ∀ r ∈ u.Rows, r ∈ t.Rows) : szT u :=
  ⟨by rw [hc]; exact h.c, by rw [hc]; exact h.n, by have := h.r; omega, fun r h1 => h.w r (hr r h1), fun r h1 => h.s r (hr r h1)⟩
def canonS (t : api_Table) : api_Table := ⟨t.Cols, sortC cmpR t.Rows⟩
theorem sortR_perm {xs ys : List (List api_Value)} (h : xs.Perm ys) : sortC cmpR xs = sortC cmpR ys := sortC_of_perm cmpR_cmp cmpR_zero h
def none2 : api_Table := ⟨[], []⟩
end Go.Proofs.YtonfglmfdhljnaaGreatDoor.M
end
section
namespace Go.Proofs.YtonfglmfdhljnaaGreatDoor.M
open Go Go.Eng Go.Proofs Go.RowKit
set_option maxRecDepth 100000
set_option linter.unusedVariables false
set_option linter.unusedSimpArgs false
theorem clone_eq {v : List api_Value} (h : v.length * 96 ≤ 140737488355328) : slices_Clone_api_Value_api_Value v = some v := by
  unfold slices_Clone_api_Value_api_Value
  rw [apd_of (by simp only [List.length_nil, Nat.zero_add]; omega)]; simp
theorem cloneC_eq {v : List api_Col} (h : v.length * 24 ≤ 140737488355328) : slices_Clone_api_Col_api_Col v = some v := by
  unfold slices_Clone_api_Col_api_Col
  rw [apd_of (by simp only [List.length_nil, Nat.zero_add]; omega)]; simp
end Go.Proofs.YtonfglmfdhljnaaGreatDoor.M
end
section
namespace Go.Proofs.YtonfglmfdhljnaaGreatDoor.M
open Go Go.Eng Go.Proofs Go.RowKit
set_option maxRecDepth 100000
set_option linter.unusedVariables false
set_option linter.unusedSimpArgs false
theorem order_l0 {a b : List api_Value} (hn : a.length < 4611686018427387904) : ∀ (fuel i : Nat), i ≤ a.length → i ≤ b.length → a.length < i + fuel →
    slices_CompareFunc_api_Value_api_Value_api_Value_api_Value_f_value_Compare.l0 a b fuel (i : Int) = some (lexL cmpV (a.drop i) (b.drop i))
  | 0, i, _, _, h => by omega
  | fuel + 1, i, h1, h2, h3 => by
    rw [slices_CompareFunc_api_Value_api_Value_api_Value_api_Value_f_value_Compare.l0]
    by_cases hi : i < a.length
    · obtain ⟨x, hx, ex⟩ := getE hi
      rw [if_pos (dlt hi), ix_of hx, Option.bind_some, ex]
      by_cases hj : i < b.length
      · obtain ⟨y, hy, ey⟩ := getE hj
        rw [if_neg (dng hj), ix_of hy, Option.bind_some, cmpV_eq, Option.bind_some, ey, lexL]
        by_cases e : cmpV x y = 0
        · rw [if_neg (by simp [e]), if_pos e, w64_nat _ (by omega), order_l0 hn fuel (i + 1) (by omega) (by omega) (by omega)]
        · rw [if_pos (by simpa using e), if_neg e]
      · rw [if_pos (dge (by omega)), List.drop_of_length_le (l := b) (by omega)]; rfl
    · rw [if_neg (dnl (by omega)), List.drop_of_length_le (l := a) (by omega)]
      by_cases hj : a.length < b.length
      · obtain ⟨y, hy, ey⟩ := getE (l := b) (i := i) (by omega)
        rw [if_pos (dlt hj), ey]; rfl
      · rw [if_neg (dnl (by omega)), List.drop_of_length_le (l := b) (by omega)]; rfl
theorem torder_eq {a b : List api_Value} (hn : a.length < 4611686018427387904) : table_order a b = some (cmpR a b) := by
  unfold table_order slices_CompareFunc_api_Value_api_Value_api_Value_api_Value_f_value_Compare
  have := order_l0 (b := b) hn (a.length + 1) 0 (Nat.zero_le _) (Nat.zero_le _) (by omega)
  rw [fuel_nat, show (0 : Int) = ((0 : Nat) : Int) from rfl, this]; rfl
theorem sort_eq {xs : List (List api_Value)} (h : okRows xs) : slices_SortFunc_api_Value_api_Value_f_table_order xs = some (sortC cmpR xs) := by
  unfold slices_SortFunc_api_Value_api_Value_f_table_order
  exact sortBy_cmp cmpR_cmp cmpR_zero (fun x hx y hy => torder_eq (h.2 x hx)) h.1
theorem canon_l0 {t : api_Table} {cols : List api_Col} (hr : t.Rows.length * 24 ≤ 140737488355328) (hw : ∀ r ∈ t.Rows, r.length * 96 ≤ 140737488355328) : ∀ (fuel i : Nat), i ≤ t.Rows.length → t.Rows.length < i + fuel →
    table_Canon.l0 t cols fuel (t.Rows.take i) (i : Int) = some ⟨cols, sortC cmpR t.Rows⟩
  | 0, i, _, h => by omega
  | fuel + 1, i, h1, h2 => by
    rw [table_Canon.l0]
    by_cases hi : i < t.Rows.length
    · obtain ⟨r, hx, ex⟩ := getE hi
      rw [if_pos (dlt hi), ix_of hx, Option.bind_some, clone_eq (hw r (List.mem_of_getElem? hx)), Option.bind_some, apd_of (by simp only [List.length_take, List.length_singleton]; omega), Option.bind_some, w64_nat i (by omega)]
      have e : t.Rows.take i ++ [r] = t.Rows.take (i + 1) := by rw [List.take_add_one, hx]; rfl
      rw [e]
      exact canon_l0 hr hw fuel (i + 1) (by omega) (by omega)
    · rw [if_neg (dnl (by omega)), List.take_of_length_le (by omega), sort_eq ⟨by omega, fun r hx => by have := hw r hx; omega⟩]; rfl
theorem canon_eq' {t : api_Table} (hc : t.Cols.length * 24 ≤ 140737488355328) (hr : t.Rows.length * 24 ≤ 140737488355328) (hw : ∀ r ∈ t.Rows, r.length * 96 ≤ 140737488355328) : table_Canon t = some (canonS t) := by
  unfold table_Canon
  rw [cloneC_eq hc, Option.bind_some, fuel_nat]
  exact canon_l0 hr hw _ 0 (Nat.zero_le _) (by omega)
end Go.Proofs.YtonfglmfdhljnaaGreatDoor.M
end
section
namespace Go.Proofs.YtonfglmfdhljnaaGreatDoor.M
open Go Go.Eng Go.Proofs Go.RowKit
set_option maxRecDepth 100000
set_option linter.unusedVariables false
set_option linter.unusedSimpArgs false
def Sz (xs : List (List api_Value)) : Prop := xs.length * 24 ≤ 140737488355328 ∧ ∀ r ∈ xs, okRow r
theorem szT.sz {t : api_Table} (h : szT t) : Sz t.Rows := ⟨by have := h.r; omega, fun r hr => h.row hr⟩
end Go.Proofs.YtonfglmfdhljnaaGreatDoor.M
end
section
namespace Go.Proofs.YtonfglmfdhljnaaGreatDoor.M
open Go Go.Eng Go.Proofs Go.RowKit
set_option maxRecDepth 100000
set_option linter.unusedVariables false
set_option linter.unusedSimpArgs false
def Byts (l : List Int) : Prop := ∀ x ∈ l, 0 ≤ x ∧ x < 256
theorem Byts.cons {c : Int} {l : List Int} : Byts (c :: l) ↔ (0 ≤ c ∧ c < 256) ∧ Byts l := by simp [Byts]
theorem Byts.append {a b : List Int} : Byts (a ++ b) ↔ Byts a ∧ Byts b := by
  simp only [Byts, List.mem_append]
  exact ⟨fun h => ⟨fun x hx => h x (Or.inl hx), fun x hx => h x (Or.inr hx)⟩, fun h x hx => hx.elim (h.1 x) (h.2 x)⟩
theorem Byts.drop {l : List Int} (h : Byts l) (k : Nat) : Byts (l.drop k) := fun x hx => h x (List.mem_of_mem_drop hx)
theorem Byts.take {l : List Int} (h : Byts l) (k : Nat) : Byts (l.take k) := fun x hx => h x (List.mem_of_mem_take hx)
theorem byts_sbytes (s : ByteArray) : Byts (sbytes s) := fun x hx => sbytes_range hx
theorem bstr_sbytes (s : ByteArray) : bstr (sbytes s) = s := by
  obtain ⟨⟨l⟩⟩ := s
  unfold bstr sbytes
  simp only [List.map_map]
  congr 2
  conv => rhs; rw [← List.map_id l]
  apply List.map_congr_left
  intro x hx
  show UInt8.ofNat ((x.toNat : Int)).toNat = x
  simp
theorem sbytes_bstr {l : List Int} (h : Byts l) : sbytes (bstr l) = l := by
  unfold bstr sbytes
  simp only [List.map_map]
  conv => rhs; rw [← List.map_id l]
  apply List.map_congr_left
  intro x hx
  obtain ⟨h0, h1⟩ := h x hx
  show ((UInt8.ofNat x.toNat).toNat : Int) = x
  rw [UInt8.toNat_ofNat']
  omega
theorem bstr_inj {a b : List Int} (ha : Byts a) (hb : Byts b) (h : bstr a = bstr b) : a = b := by rw [← sbytes_bstr ha, ← sbytes_bstr hb, h]
def pw (k : Nat) : Int := 256 ^ k
theorem pw_succ (k : Nat) : pw (k + 1) = 256 * pw k := by unfold pw; rw [Int.pow_succ]; omega
theorem pw_pos (k : Nat) : 0 < pw k := by
  induction k with
  | zero => decide
  | succ k ih => rw [pw_succ]; omega
def byteAt (n : Int) (i : Nat) : Int := n / pw i % 256
def bigS (n : Int) : Nat → List Int
  | 0 => []
  | k + 1 => byteAt n k :: bigS n k
theorem bigS_len (n : Int) : ∀ k, (bigS n k).length = k
  | 0 => rfl
  | k + 1 => by rw [bigS, List.length_cons, bigS_len n k]
theorem byteAt_range (n : Int) (i : Nat) : 0 ≤ byteAt n i ∧ byteAt n i < 256 := by unfold byteAt; omega
theorem byts_bigS (n : Int) : ∀ k, Byts (bigS n k)
  | 0 => by intro x hx; cases hx
  | k + 1 => by rw [bigS]; exact Byts.cons.2 ⟨byteAt_range _ _, byts_bigS n k⟩
def natV : List Int → Int
  | [] => 0
  | c :: r => c * pw r.length + natV r
theorem natV_bigS (n : Int) : ∀ k, natV (bigS n k) = n % pw k
  | 0 => by simp [natV, bigS, pw, Int.emod_one]
  | k + 1 => by
    rw [bigS, natV, bigS_len, natV_bigS n k, pw_succ]
    unfold byteAt
    have hp := pw_pos k
    generalize pw k = p at *
    have e1 := Int.mul_ediv_add_emod n p
    have e2 := Int.mul_ediv_add_emod (n / p) 256
    have e3 := Int.emod_nonneg n (show p ≠ 0 by omega)
    have e4 := Int.emod_lt_of_pos n hp
    have e5 := Int.emod_nonneg (n / p) (show (256 : Int) ≠ 0 by omega)
    have e6 := Int.emod_lt_of_pos (n / p) (show (0 : Int) < 256 by omega)
    generalize n / p % 256 = r1 at *
    generalize n % p = r0 at *
    generalize n / p / 256 = q at *
    generalize n / p = d at *
    have hn : n = (r1 * p + r0) + (256 * p) * q := by
      rw [← e1, ← e2, Int.mul_add, Int.mul_comm p r1, Int.mul_comm 256 p, Int.mul_assoc]
      omega
    have hlo : 0 ≤ r1 * p := Int.mul_nonneg e5 (by omega)
    have hhi : r1 * p ≤ 255 * p := Int.mul_le_mul_of_nonneg_right (by omega) (by omega)
    rw [hn, Int.add_mul_emod_self_left, Int.emod_eq_of_lt (by omega) (by omega)]
theorem w64_def (x : Int) : IntKind.i64.wrap x = if 9223372036854775808 ≤ x % 18446744073709551616 then x % 18446744073709551616 - 18446744073709551616 else x % 18446744073709551616 := by
  simp only [IntKind.wrap, IntKind.bits, IntKind.signed, Bool.true_and]
  split
  · rename_i h; simp at h; rw [if_pos (by omega)]; omega
  · rename_i h; simp at h; rw [if_neg (by omega)]; omega
theorem w64_add (x m : Int) : IntKind.i64.wrap (x + 18446744073709551616 * m) = IntKind.i64.wrap x := by
  rw [w64_def, w64_def, show (x + 18446744073709551616 * m) % 18446744073709551616 = x % 18446744073709551616 by omega]
theorem w64_mod (x : Int) : ∃ m, IntKind.i64.wrap x = x + 18446744073709551616 * m := by
  rw [w64_def]
  split
  · exact ⟨-(x / 18446744073709551616) - 1, by omega⟩
  · exact ⟨-(x / 18446744073709551616), by omega⟩
theorem w64_in (x p y : Int) : IntKind.i64.wrap (IntKind.i64.wrap x * p + y) = IntKind.i64.wrap (x * p + y) := by
  obtain ⟨m, h⟩ := w64_mod x
  rw [h, show (x + 18446744073709551616 * m) * p + y = (x * p + y) + 18446744073709551616 * (m * p) by rw [Int.add_mul, Int.mul_assoc]; omega, w64_add]
theorem w64_bv (b : BitVec 64) : IntKind.i64.wrap b.toNat = b.toInt := by
  have := b.isLt
  rw [BitVec.toInt_eq_toNat_cond, w64_def]
  by_cases h : 2 * b.toNat < 2 ^ 64
  · rw [if_pos h, if_neg (by omega)]; omega
  · rw [if_neg h, if_pos (by omega)]; omega
theorem toInt_w (x : Int) : (BitVec.ofInt 64 x).toInt = IntKind.i64.wrap x := by
  rw [← w64_bv, BitVec.toNat_ofInt]
  obtain ⟨m, h⟩ := w64_mod x
  have : ((x % ((2 ^ 64 : Nat) : Int)).toNat : Int) = x % 18446744073709551616 := by
    show ((x % 18446744073709551616).toNat : Int) = _
    omega
  rw [this]
  have e : x % 18446744073709551616 = x + 18446744073709551616 * (-(x / 18446744073709551616)) := by omega
  rw [e, w64_add]
def shl8 (n c : Int) : Int := IntKind.i64.wrap (BitVec.ofInt 64 (IntKind.i64.wrap (n * 2 ^ (min (8 : Int).toNat 64))) ||| BitVec.ofInt 64 (IntKind.i64.wrap c)).toNat
theorem ofInt_w (x : Int) : BitVec.ofInt 64 (IntKind.i64.wrap x) = BitVec.ofInt 64 x := by
  apply BitVec.toInt_inj.1
  rw [toInt_w, toInt_w, w64 (w64_range x).1 (w64_range x).2]
theorem shl8_eq (n : Int) {c : Int} (h0 : 0 ≤ c) (h1 : c < 256) : shl8 n c = IntKind.i64.wrap (n * 256 + c) := by
  unfold shl8
  rw [ofInt_w, ofInt_w, show n * 2 ^ (min (8 : Int).toNat 64) = n * 256 from rfl]
  have hand : BitVec.ofInt 64 (n * 256) &&& BitVec.ofInt 64 c = 0#64 := by
    have hx : BitVec.ofInt 64 (n * 256) = BitVec.ofInt 64 n <<< 8 := by
      rw [BitVec.shiftLeft_eq_mul_twoPow]
      rw [BitVec.ofInt_mul]
      rfl
    have hc : BitVec.ofInt 64 c = (BitVec.ofNat 8 c.toNat).setWidth 64 := by
      apply BitVec.eq_of_toNat_eq
      rw [BitVec.toNat_ofInt, BitVec.toNat_setWidth, BitVec.toNat_ofNat]
      show (c % 18446744073709551616).toNat = c.toNat % 256 % 18446744073709551616
      omega
    rw [hx, hc]
    apply BitVec.eq_of_getLsbD_eq
    intro i hi
    simp only [BitVec.getLsbD_and, BitVec.getLsbD_shiftLeft, BitVec.getLsbD_setWidth, BitVec.getLsbD_zero]
    by_cases h : i < 8
    · simp [h]
    · have : (BitVec.ofNat 8 c.toNat).getLsbD i = false := BitVec.getLsbD_of_ge _ _ (by omega)
      simp [this]
  rw [← BitVec.add_eq_or_of_and_eq_zero _ _ hand, ← BitVec.ofInt_add, w64_bv, toInt_w]
def smallS (b : List Int) : Int := b.foldl shl8 0
theorem small_fold : ∀ (l : List Int) (a : Int), Byts l → IntKind.i64.wrap a = a → l.foldl shl8 a = IntKind.i64.wrap (a * pw l.length + natV l)
  | [], a, _, ha => by simp [natV, pw, ha]
  | c :: r, a, h, ha => by
    obtain ⟨⟨h0, h1⟩, h2⟩ := Byts.cons.1 h
    rw [List.foldl_cons, shl8_eq a h0 h1, small_fold r _ h2 (w64 (w64_range _).1 (w64_range _).2), w64_in, natV, List.length_cons, pw_succ]
    congr 1
    rw [Int.add_mul, Int.mul_assoc]
    omega
theorem small_eq {l : List Int} (h : Byts l) : smallS l = IntKind.i64.wrap (natV l) := by
  unfold smallS
  rw [small_fold l 0 h (by decide)]
  congr 1; omega
theorem small_big8 {n : Int} (h0 : -9223372036854775808 ≤ n) (h1 : n ≤ 9223372036854775807) : smallS (bigS n 8) = n := by
  rw [small_eq (byts_bigS n 8), natV_bigS]
  have e : pw 8 = 18446744073709551616 := by decide
  rw [e]
  have : n % 18446744073709551616 = n + 18446744073709551616 * (-(n / 18446744073709551616)) := by omega
  rw [this, w64_add, w64 h0 h1]
end Go.Proofs.YtonfglmfdhljnaaGreatDoor.M
end
section
namespace Go.Proofs.YtonfglmfdhljnaaGreatDoor.M
open Go Go.Eng Go.Proofs Go.RowKit
set_option maxRecDepth 100000
set_option linter.unusedVariables false
set_option linter.unusedSimpArgs false
def In64 (x : Int) : Prop := -9223372036854775808 ≤ x ∧ x ≤ 9223372036854775807
def wfV (v : api_Value) : Prop := In64 v.N ∧ ∀ x ∈ v.H.list, In64 x
def E0 : ByteArray := ⟨#[]⟩
def histB (h : Arr8) : List Int := bigS h.a0 8 ++ (bigS h.a1 8 ++ (bigS h.a2 8 ++ (bigS h.a3 8 ++ (bigS h.a4 8 ++ (bigS h.a5 8 ++ (bigS h.a6 8 ++ bigS h.a7 8))))))
def valS (v : api_Value) : List Int := if v.Kind = 1 then bigS v.N 8 else if v.Kind = 2 then (v.S.size : Int) :: sbytes v.S else if v.Kind = 3 then [v.N] else histB v.H
def histS (b : List Int) : Arr8 := ⟨smallS (b.take 8), smallS ((b.drop 8).take 8), smallS ((b.drop 16).take 8), smallS ((b.drop 24).take 8), smallS ((b.drop 32).take 8), smallS ((b.drop 40).take 8), smallS ((b.drop 48).take 8), smallS ((b.drop 56).take 8)⟩
def takeS (k : Int) (b : List Int) : Option (api_Value × List Int) :=
  if k = 1 then (if 8 ≤ b.length then some (⟨1, smallS (b.take 8), E0, H0⟩, b.drop 8) else none)
  else if k = 2 then (match b with
    | [] => none
    | c :: r => if c ≤ r.length ∧ c ≤ 64 then some (⟨2, 0, bstr (r.take c.toNat), H0⟩, r.drop c.toNat) else none)
  else if k = 3 then (match b with
    | [] => none
    | c :: r => if c = 0 ∨ c = 1 then some (⟨3, c, E0, H0⟩, r) else none)
  else if k = 4 then (if 64 ≤ b.length then some (⟨4, 0, E0, histS b⟩, b.drop 64) else none)
  else none
theorem byts_histB (h : Arr8) : Byts (histB h) := by
  unfold histB
  simp only [Byts.append, byts_bigS, and_self]
theorem histB_len (h : Arr8) : (histB h).length = 64 := by simp [histB, bigS_len]
theorem byts_valS {v : api_Value} (h : validS v = true) : Byts (valS v) := by
  unfold valS
  unfold validS at h
  split
  · exact byts_bigS _ _
  · rename_i h1
    rw [if_neg h1] at h
    split
    · rename_i h2
      rw [if_pos h2] at h
      simp only [decide_eq_true_eq] at h
      exact Byts.cons.2 ⟨by omega, byts_sbytes _⟩
    · rename_i h2
      rw [if_neg h2] at h
      split
      · rename_i h3
        rw [if_pos h3] at h
        simp only [decide_eq_true_eq] at h
        refine Byts.cons.2 ⟨by omega, fun x hx => by cases hx⟩
      · exact byts_histB _
theorem valS_len {v : api_Value} (h : validS v = true) : (valS v).length ≤ 65 := by
  unfold valS
  unfold validS at h
  split
  · rw [bigS_len]; omega
  · rename_i h1
    rw [if_neg h1] at h
    split
    · rename_i h2
      rw [if_pos h2] at h
      simp only [decide_eq_true_eq] at h
      rw [List.length_cons, sbytes_len]; omega
    · split
      · simp
      · rw [histB_len]; omega
theorem take8 (x : Int) (l : List Int) : (bigS x 8 ++ l).take 8 = bigS x 8 := by rw [List.take_append_of_le_length (by rw [bigS_len]; omega), List.take_of_length_le (by rw [bigS_len]; omega)]
theorem drop8 (x : Int) (l : List Int) (k : Nat) : (bigS x 8 ++ l).drop (8 + k) = l.drop k := by rw [List.drop_append, List.drop_of_length_le (by rw [bigS_len]; omega), bigS_len]; simp
theorem histS_histB {h : Arr8} (hh : ∀ x ∈ h.list, In64 x) (r : List Int) : histS (histB h ++ r) = h := by
  obtain ⟨a0, a1, a2, a3, a4, a5, a6, a7⟩ := h
  simp only [Arr8.list, List.mem_cons, List.not_mem_nil, or_false, forall_eq_or_imp, forall_eq] at hh
  obtain ⟨h0, h1, h2, h3, h4, h5, h6, h7⟩ := hh
  unfold histS histB
  simp only [List.append_assoc]
  rw [show (16 : Nat) = 8 + 8 from rfl, show (24 : Nat) = 8 + (8 + 8) from rfl, show (32 : Nat) = 8 + (8 + (8 + 8)) from rfl, show (40 : Nat) = 8 + (8 + (8 + (8 + 8))) from rfl, show (48 : Nat) = 8 + (8 + (8 + (8 + (8 + 8)))) from rfl, show (56 : Nat) = 8 + (8 + (8 + (8 + (8 + (8 + 8))))) from rfl]
  simp only [drop8, take8, small_big8 h0.1 h0.2, small_big8 h7.1 h7.2]
  have e : ∀ (x : Int) (l : List Int), (bigS x 8 ++ l).drop 8 = l := fun x l => by simpa using drop8 x l 0
  simp only [e, take8, small_big8 h1.1 h1.2, small_big8 h2.1 h2.2, small_big8 h3.1 h3.2, small_big8 h4.1 h4.2, small_big8 h5.1 h5.2, small_big8 h6.1 h6.2, small_big8 h7.1 h7.2]
theorem take_put {v : api_Value} (h : validS v = true) (hw : wfV v) (r : List Int) : takeS v.Kind (valS v ++ r) = some (v, r) := by
  obtain ⟨k, n, s, hh⟩ := v
  unfold validS at h
  unfold takeS valS
  simp only at h ⊢
  by_cases h1 : k = 1
  · subst h1
    simp only [if_pos, decide_eq_true_eq] at h ⊢
    obtain ⟨rfl, rfl⟩ := h
    rw [if_pos (by simp [bigS_len]), take8, small_big8 hw.1.1 hw.1.2]
    have : (bigS n 8 ++ r).drop 8 = r := by simpa using drop8 n r 0
    rw [this]; rfl
  · by_cases h2 : k = 2
    · subst h2
      simp only [if_neg h1, if_pos, decide_eq_true_eq] at h ⊢
      obtain ⟨rfl, rfl, h3⟩ := h
      have hl := sbytes_len s
      simp only [List.cons_append, List.length_append, hl]
      rw [if_pos (by omega), Int.toNat_natCast, List.take_append_of_le_length (by omega), List.take_of_length_le (by omega), bstr_sbytes, List.drop_append_of_le_length (by omega), List.drop_of_length_le (by omega)]
      rfl
    · by_cases h3 : k = 3
      · subst h3
        simp only [if_neg h1, if_neg h2, if_pos, decide_eq_true_eq] at h ⊢
        obtain ⟨h4, rfl, rfl⟩ := h
        simp only [List.cons_append, List.nil_append]
        rw [if_pos h4]; rfl
      · by_cases h4 : k = 4
        · subst h4
          simp only [if_neg h1, if_neg h2, if_neg h3, if_pos, decide_eq_true_eq] at h ⊢
          obtain ⟨rfl, rfl⟩ := h
          rw [if_pos (by simp [histB_len]), histS_histB hw.2, List.drop_append_of_le_length (by rw [histB_len]; omega), List.drop_of_length_le (by rw [histB_len]; omega)]
          rfl
        · simp only [if_neg h1, if_neg h2, if_neg h3, if_neg h4] at h
          cases h
end Go.Proofs.YtonfglmfdhljnaaGreatDoor.M
end
section
namespace Go.Proofs.YtonfglmfdhljnaaGreatDoor.M
open Go Go.Eng Go.Proofs Go.RowKit
set_option maxRecDepth 100000
set_option linter.unusedVariables false
set_option linter.unusedSimpArgs false
theorem pw2 : ∀ {i : Nat}, i < 8 → (2 : Int) ^ (min (8 * i) 64) = pw i
  | 0, _ => rfl
  | 1, _ => rfl
  | 2, _ => rfl
  | 3, _ => rfl
  | 4, _ => rfl
  | 5, _ => rfl
  | 6, _ => rfl
  | 7, _ => rfl
theorem u8w (x : Int) : IntKind.u8.wrap x = x % 256 := by
  simp only [IntKind.wrap, IntKind.bits, IntKind.signed, Bool.false_and, Bool.false_eq_true, if_false]
  rfl
theorem byte_eq (n : Int) (k : Nat) (h : k < 8) : IntKind.u8.wrap (n.fdiv (2 ^ (min (8 * (k : Int)).toNat 64))) = byteAt n k := by
  rw [show (8 * (k : Int)).toNat = 8 * k by omega, pw2 h, u8w, Int.fdiv_eq_ediv_of_nonneg _ (by have := pw_pos k; omega)]
  rfl
theorem wire_big_l0 (n a2 : Int) : ∀ (k fuel : Nat) (acc : List Int), k ≤ 8 → k < fuel → acc.length + k ≤ 140737488355328 → wire_big.l0 n a2 fuel acc ((k : Int) - 1) = some (acc ++ bigS n k)
  | 0, fuel + 1, acc, _, _, _ => by rw [wire_big.l0, if_neg (by simp)]; simp [bigS]
  | k + 1, fuel + 1, acc, h, hf, hl => by
    have e : ((k + 1 : Nat) : Int) - 1 = (k : Int) := by omega
    have e2 : IntKind.i64.wrap (8 * (k : Int)) = 8 * (k : Int) := w64 (by omega) (by omega)
    have e3 : IntKind.i64.wrap ((k : Int) - 1) = (k : Int) - 1 := w64 (by omega) (by omega)
    rw [e, wire_big.l0, if_pos (by simp), e2, if_pos (by simp; omega), byte_eq n k (by omega), apd_of (by simp; omega), Option.bind_some, e3, wire_big_l0 n a2 k fuel _ (by omega) (by omega) (by simp; omega)]
    simp [bigS]
theorem wire_big_eq (b : List Int) (n : Int) {k : Nat} (hk : k ≤ 8) (hl : b.length + k ≤ 140737488355328) : wire_big b n (k : Int) = some (b ++ bigS n k) := by
  unfold wire_big
  rw [w64 (by omega) (by omega)]
  exact wire_big_l0 n _ k _ b hk (by omega) hl
theorem histB_list (h : Arr8) : histB h = h.list.flatMap (bigS · 8) := by simp [histB, Arr8.list]
theorem sz1 (n : Nat) (h : n < 256) : IntKind.u8.wrap (n : Int) = (n : Int) := by rw [u8w]; omega
theorem wput_l0 (v : api_Value) : ∀ (d i fuel : Nat) (acc : List Int), i + d = 8 → d < fuel → acc.length + 8 * d ≤ 140737488355328 → wire_put.l0 v fuel acc (i : Int) = some (acc ++ (v.H.list.drop i).flatMap (bigS · 8))
  | 0, i, fuel + 1, acc, h, _, hl => by
    rw [wire_put.l0, if_neg (by simp; omega), List.drop_of_length_le (by simp [Arr8.list]; omega)]; simp
  | d + 1, i, fuel + 1, acc, h, hf, hl => by
    have hlen : v.H.list.length = 8 := rfl
    obtain ⟨x, hx, ex⟩ := getE (l := v.H.list) (i := i) (by omega)
    have e8 : wire_big acc x 8 = some (acc ++ bigS x 8) := wire_big_eq acc x (k := 8) (Nat.le_refl _) (by omega)
    rw [wire_put.l0, if_pos (by simp; omega), Arr8.ix, ix_of hx, Option.bind_some, e8, Option.bind_some, w64_nat i (by omega), wput_l0 v d (i + 1) fuel _ (by omega) (by omega) (by simp [bigS_len]; omega), ex]
    simp
theorem wput_eq {b : List Int} {v : api_Value} (h : validS v = true) (hl : b.length + 65 ≤ 140737488355328) : wire_put b v = some (b ++ valS v) := by
  unfold wire_put valS
  have hv := h
  unfold validS at hv
  have e8 : wire_big b v.N 8 = some (b ++ bigS v.N 8) := wire_big_eq b v.N (k := 8) (Nat.le_refl _) (by omega)
  by_cases h1 : v.Kind = 1
  · rw [if_pos (by simpa using h1), if_pos h1, e8]; rfl
  · rw [if_neg (by simpa using h1), if_neg h1]
    rw [if_neg h1] at hv
    by_cases h2 : v.Kind = 2
    · rw [if_pos h2] at hv
      simp only [decide_eq_true_eq] at hv
      have := sbytes_len v.S
      rw [if_pos (by simpa using h2), if_pos h2, sz1 _ (by omega), apd_of (by simp; omega), Option.bind_some, apd_of (by simp; omega), Option.bind_some]
      simp
    · rw [if_neg (by simpa using h2), if_neg h2]
      rw [if_neg h2] at hv
      by_cases h3 : v.Kind = 3
      · rw [if_pos h3] at hv
        simp only [decide_eq_true_eq] at hv
        rw [if_pos (by simpa using h3), if_pos h3, apd_of (by simp; omega), Option.bind_some, u8w]
        have : v.N % 256 = v.N := by omega
        rw [this]
      · rw [if_neg (by simpa using h3), if_neg h3, histB_list]
        exact wput_l0 v 8 0 _ b rfl (by decide) (by omega)
def putS (b : List Int) (v : api_Value) : List Int × Int := if validS v = true then (b ++ valS v, 0) else ([], 10)
theorem wPut_eq {b : List Int} {v : api_Value} (hl : b.length + 65 ≤ 140737488355328) : wire_Put b v = some (putS b v) := by
  unfold wire_Put putS slices_Clone_byte_byte
  rw [valid_eq, Option.bind_some]
  by_cases h : validS v = true
  · rw [if_neg (by simp [h]), if_pos h, apd_of (by simp; omega), Option.bind_some, Option.bind_some, List.nil_append, wput_eq h hl]; rfl
  · rw [if_pos (by simpa using h), if_neg h]
end Go.Proofs.YtonfglmfdhljnaaGreatDoor.M
end
section
namespace Go.Proofs.YtonfglmfdhljnaaGreatDoor.M
open Go Go.Eng Go.Proofs Go.RowKit
set_option maxRecDepth 100000
set_option linter.unusedVariables false
set_option linter.unusedSimpArgs false
def mkU (l : List UInt8) : ByteArray := ⟨l.toArray⟩
theorem mkU_size (l : List UInt8) : (mkU l).size = l.length := by simp [mkU, ByteArray.size]
theorem decD_len : ∀ (k u : Nat), u < 10 ^ k → 0 < k → (Lib.decDigits u).length ≤ k
  | 0, u, h, hk => by omega
  | k + 1, u, h, _ => by
    rw [Lib.decDigits]
    by_cases hu : u < 10
    · rw [dif_pos hu]; simp
    · rw [dif_neg hu]
      have hk : 0 < k := by
        cases k with
        | zero => simp at h; omega
        | succ k => omega
      have := decD_len k (u / 10) (by rw [Nat.pow_succ] at h; omega) hk
      simp; omega
theorem itoa_eq {n : Int} (h1 : -9223372036854775808 ≤ n) (h2 : n ≤ 9223372036854775807) : strconv_Itoa n = some (mkU (Lib.itoa n)) := by unfold strconv_Itoa; rw [if_pos ⟨h1, h2⟩]; rfl
theorem itoa_len {n : Int} (h1 : -9223372036854775808 ≤ n) (h2 : n ≤ 9223372036854775807) : (Lib.itoa n).length ≤ 21 := by
  unfold Lib.itoa
  split
  · have := decD_len 20 n.natAbs (by omega) (by decide)
    simp; omega
  · have := decD_len 20 n.toNat (by omega) (by decide)
    omega
end Go.Proofs.YtonfglmfdhljnaaGreatDoor.M
end
section
namespace Go.Proofs.YtonfglmfdhljnaaGreatDoor.M
open Go Go.Eng Go.Proofs Go.RowKit
set_option maxRecDepth 100000
set_option linter.unusedVariables false
set_option linter.unusedSimpArgs false
def kindOf (cols : List api_Col) (n : ByteArray) : Int := match cols[(findS cols n).toNat]? with
  | some c => c.Kind
  | none => 0
def colOf (cols : List api_Col) (n : ByteArray) : api_Col := ⟨n, kindOf cols n⟩
theorem findS_col {cols : List api_Col} {n : ByteArray} (h : 0 ≤ findS cols n) : ∃ i : Nat, findS cols n = (i : Int) ∧ cols[i]? = some (colOf cols n) := by
  obtain ⟨i, c, h1, h2, h3, _⟩ := findS_some h
  refine ⟨i, h1, ?_⟩
  unfold colOf kindOf
  rw [h1, Int.toNat_natCast, h2]
  cases c; simp_all
def pickC (cols : List api_Col) : List api_Col → List ByteArray → Option (List api_Col)
  | acc, [] => some acc
  | acc, n :: r => if findS cols n < 0 ∨ 0 ≤ findS acc n then none else pickC cols (acc ++ [colOf cols n]) r
def okP : Option (List api_Col) → List api_Col × Bool
  | some l => (l, true)
  | none => ([], false)
theorem cpick_l0 {cols : List api_Col} {names : List ByteArray} (hc : cols.length ≤ 16) (hn : names.length ≤ 20) : ∀ (fuel i : Nat) (acc : List api_Col), i ≤ names.length → names.length < i + fuel → acc.length = i →
    check_pick.l0 cols names fuel acc (i : Int) = some (okP (pickC cols acc (names.drop i)))
  | 0, i, _, _, h, _ => by omega
  | fuel + 1, i, acc, h1, h2, h3 => by
    rw [check_pick.l0]
    by_cases hi : i < names.length
    · obtain ⟨n, hn', en⟩ := getE hi
      rw [if_pos (dlt hi), ix_of hn', Option.bind_some, find_eq (by omega), Option.bind_some, en, pickC]
      unfold check_pick.j1
      by_cases hf : findS cols n < 0
      · rw [if_pos (by simpa using hf), if_pos rfl, if_pos (Or.inl hf)]; rfl
      · rw [if_neg (by simpa using hf), find_eq (by omega), Option.bind_some]
        by_cases hg : 0 ≤ findS acc n
        · rw [if_pos (by simpa using hg), if_pos (Or.inr hg)]; rfl
        · obtain ⟨k, k1, k2⟩ := findS_col (cols := cols) (n := n) (by omega)
          rw [if_neg (by simpa using hg), if_neg (by omega), k1, ix_of k2, Option.bind_some, apd_of (by simp; omega), Option.bind_some, w64_nat i (by omega), cpick_l0 hc hn fuel (i + 1) _ (by omega) (by omega) (by simp; omega)]
    · rw [if_neg (dnl (by omega)), List.drop_of_length_le (by omega)]; rfl
theorem cpick_eq {cols : List api_Col} {names : List ByteArray} (hc : cols.length ≤ 16) (hn : names.length ≤ 20) : check_pick cols names = some (okP (pickC cols [] names)) := by
  unfold check_pick
  rw [fuel_nat, show (0 : Int) = ((0 : Nat) : Int) from rfl, cpick_l0 hc hn _ 0 [] (Nat.zero_le _) (by omega) rfl, List.drop_zero]
def nameA (a : api_Agg) : ByteArray :=
  if a.Kind = 1 then ⟨#[99, 111, 117, 110, 116]⟩ else if a.Kind = 2 then ⟨#[115, 117, 109, 95]⟩ ++ a.Col else if a.Kind = 3 then ⟨#[109, 105, 110, 95]⟩ ++ a.Col
  else if a.Kind = 4 then ⟨#[109, 97, 120, 95]⟩ ++ a.Col else if a.Kind = 5 then ⟨#[109, 101, 97, 110, 95]⟩ ++ a.Col else if a.Kind = 6 then ⟨#[109, 101, 114, 103, 101, 95]⟩ ++ a.Col else ⟨#[]⟩
def okA (a : api_Agg) : Prop := a.Col.size ≤ 140737488355328
theorem ba_size (a b : ByteArray) : (a ++ b).size = a.size + b.size := by simp
theorem nameA_size {a : api_Agg} (h : okA a) : (nameA a).size ≤ 140737488355340 := by
  unfold okA at h
  unfold nameA
  repeat' split
  all_goals first | (rw [ba_size]; show _ + a.Col.size ≤ _; have e : (⟨#[109, 101, 114, 103, 101, 95]⟩ : ByteArray).size = 6 := rfl; have e : (⟨#[109, 101, 97, 110, 95]⟩ : ByteArray).size = 5 := rfl; have e : (⟨#[109, 97, 120, 95]⟩ : ByteArray).size = 4 := rfl; have e : (⟨#[109, 105, 110, 95]⟩ : ByteArray).size = 4 := rfl; have e : (⟨#[115, 117, 109, 95]⟩ : ByteArray).size = 4 := rfl; omega) | decide
theorem cname_eq {a : api_Agg} (h : okA a) : check_Name a = some (nameA a) := by
  unfold okA at h
  have s4 : (⟨#[115, 117, 109, 95]⟩ : ByteArray).size = 4 := rfl
  have s4' : (⟨#[109, 105, 110, 95]⟩ : ByteArray).size = 4 := rfl
  have s4'' : (⟨#[109, 97, 120, 95]⟩ : ByteArray).size = 4 := rfl
  have s5 : (⟨#[109, 101, 97, 110, 95]⟩ : ByteArray).size = 5 := rfl
  have s6 : (⟨#[109, 101, 114, 103, 101, 95]⟩ : ByteArray).size = 6 := rfl
  unfold check_Name nameA
  simp only [beq_iff_eq, decide_eq_true_eq, s4, s4', s4'', s5, s6]
  rw [if_pos (show 4 + a.Col.size ≤ 9223372036854775807 by omega), if_pos (show 5 + a.Col.size ≤ 9223372036854775807 by omega), if_pos (show 6 + a.Col.size ≤ 9223372036854775807 by omega)]
  repeat' split
  all_goals first | rfl | (exfalso; omega)
def aggC (cols : List api_Col) (a : api_Agg) : Option api_Col :=
  if a.Kind = 1 then (if a.Col = ⟨#[]⟩ then some ⟨nameA a, 1⟩ else none)
  else if findS cols a.Col < 0 then none
  else if a.Kind = 2 ∨ a.Kind = 5 then (if kindOf cols a.Col = 1 then some ⟨nameA a, 1⟩ else none)
  else if a.Kind = 3 ∨ a.Kind = 4 then (if kindOf cols a.Col ≠ 4 then some ⟨nameA a, kindOf cols a.Col⟩ else none)
  else if a.Kind = 6 then (if kindOf cols a.Col = 4 then some ⟨nameA a, kindOf cols a.Col⟩ else none)
  else none
def aggsC (cols : List api_Col) : List api_Agg → Option (List api_Col)
  | [] => some []
  | a :: r => (aggC cols a).bind fun c => (aggsC cols r).bind fun l => some (c :: l)
theorem cagg_eq {cols : List api_Col} {a : api_Agg} (hc : cols.length ≤ 16) (ha : okA a) : ∃ p, check_aggregate a cols = some p ∧ aggC cols a = if p.2 = true then some p.1 else none := by
  unfold check_aggregate aggC
  rw [cname_eq ha, Option.bind_some]
  by_cases h1 : a.Kind = 1
  · rw [if_pos (by simpa using h1), if_pos h1, str_eq]
    exact ⟨_, rfl, by by_cases h : a.Col = ⟨#[]⟩ <;> simp [h]⟩
  · rw [if_neg (by simpa using h1), if_neg h1, find_eq (by omega), Option.bind_some]
    by_cases hf : findS cols a.Col < 0
    · rw [if_pos (by simpa using hf), if_pos hf]
      exact ⟨_, rfl, rfl⟩
    · obtain ⟨k, k1, k2⟩ := findS_col (cols := cols) (n := a.Col) (by omega)
      rw [if_neg (by simpa using hf), if_neg hf, k1, ix_of k2, Option.bind_some]
      unfold check_aggregate.j0 check_aggregate.j1 colOf
      dsimp only
      by_cases h2 : a.Kind = 2
      · rw [if_pos (by simpa using h2), if_pos (by simpa using h2), if_pos (Or.inl h2)]
        exact ⟨_, rfl, by by_cases h : kindOf cols a.Col = 1 <;> simp [h]⟩
      · rw [if_neg (by simpa using h2)]
        by_cases h5 : a.Kind = 5
        · rw [if_pos (by simpa using h5), if_pos (Or.inr h5)]
          exact ⟨_, rfl, by by_cases h : kindOf cols a.Col = 1 <;> simp [h]⟩
        · rw [if_neg (by simpa using h5), if_neg (show ¬ (a.Kind = 2 ∨ a.Kind = 5) by omega)]
          by_cases h3 : a.Kind = 3
          · rw [if_pos (by simpa using h3), if_pos (by simpa using h3), if_pos (Or.inl h3)]
            exact ⟨_, rfl, by by_cases h : kindOf cols a.Col = 4 <;> simp [h]⟩
          · rw [if_neg (by simpa using h3)]
            by_cases h4 : a.Kind = 4
            · rw [if_pos (by simpa using h4), if_pos (Or.inr h4)]
              exact ⟨_, rfl, by by_cases h : kindOf cols a.Col = 4 <;> simp [h]⟩
            · rw [if_neg (by simpa using h4), if_neg (show ¬ (a.Kind = 3 ∨ a.Kind = 4) by omega)]
              by_cases h6 : a.Kind = 6
              · rw [if_pos (by simpa using h6), if_pos h6]
                exact ⟨_, rfl, by by_cases h : kindOf cols a.Col = 4 <;> simp [h]⟩
              · rw [if_neg (by simpa using h6), if_neg h6]
                exact ⟨_, rfl, rfl⟩
def Ans (o : Option (List api_Col)) (p : List api_Col × Bool) : Prop := match o with
  | some l => p = (l, true)
  | none => p.2 = false
def endC (acc : List api_Col) : Option (List api_Col) → Option (List api_Col)
  | some m => if colsS (acc ++ m) = true then some (acc ++ m) else none
  | none => none
def okN (cols : List api_Col) : Prop := ∀ c ∈ cols, c.Name.size < 4611686018427387904
theorem aggC_name {cols : List api_Col} {a : api_Agg} {c : api_Col} (h : aggC cols a = some c) : c.Name = nameA a := by
  unfold aggC at h
  repeat' split at h
  all_goals first | (cases h; done) | (cases h; rfl)
theorem cgrp_l1 {nd : api_Node} {cols : List api_Col} (hc : cols.length ≤ 16) (hl : nd.Aggs.length ≤ 20) (ha : ∀ a ∈ nd.Aggs, okA a) : ∀ (fuel i : Nat) (acc : List api_Col), i ≤ nd.Aggs.length → nd.Aggs.length < i + fuel → acc.length ≤ 20 + i → okN acc →
    ∃ p, check_group.l1 nd cols fuel acc (i : Int) = some p ∧ Ans (endC acc (aggsC cols (nd.Aggs.drop i))) p
  | 0, i, _, _, h, _, _ => by omega
  | fuel + 1, i, acc, h1, h2, h3, h4 => by
    rw [check_group.l1]
    by_cases hi : i < nd.Aggs.length
    · obtain ⟨a, ha', ea⟩ := getE hi
      have hoa := ha a (List.mem_of_getElem? ha')
      obtain ⟨p, hp, hq⟩ := cagg_eq hc hoa
      rw [if_pos (dlt hi), ix_of ha', Option.bind_some, hp, Option.bind_some, ea, aggsC, hq]
      by_cases h : p.2 = true
      · rw [if_neg (by simp [h]), if_pos h, Option.bind_some, apd_of (by simp; omega), Option.bind_some, w64_nat i (by omega)]
        have hn : p.1.Name.size ≤ 140737488355340 := by
          rw [aggC_name (a := a) (cols := cols) (c := p.1) (by rw [hq, if_pos h])]; exact nameA_size hoa
        obtain ⟨r, hr, hs⟩ := cgrp_l1 hc hl ha fuel (i + 1) (acc ++ [p.1]) (by omega) (by omega) (by simp; omega) (fun c hc => by
          rcases List.mem_append.1 hc with hc | hc
          · exact h4 c hc
          · rw [List.mem_singleton.1 hc]; omega)
        refine ⟨r, hr, ?_⟩
        cases hm : aggsC cols (nd.Aggs.drop (i + 1)) with
        | none => rw [hm] at hs; exact hs
        | some m => rw [hm] at hs; simpa [endC] using hs
      · rw [if_pos (by simp [h]), if_neg h]
        exact ⟨_, rfl, rfl⟩
    · rw [if_neg (dnl (by omega)), List.drop_of_length_le (by omega), aggsC, check_eq (t := ⟨acc, []⟩) ⟨by show acc.length < _; omega, h4⟩ ⟨by show 0 < _; decide, fun r hr => by cases hr⟩, Option.bind_some]
      refine ⟨_, rfl, ?_⟩
      unfold checkS endC
      dsimp only
      rw [List.append_nil]
      by_cases h : colsS acc = true
      · simp [h, Ans]
      · simp [h, Ans]
theorem hist_l0 {l : List api_Col} (hl : l.length ≤ 20) : ∀ (fuel i : Nat), i ≤ l.length → l.length < i + fuel →
    ∃ k, slices_IndexFunc_api_Col_api_Col_f_check_group_1.l0 l fuel (i : Int) = some k ∧ decide (k ≥ 0) = (l.drop i).any fun c => decide (c.Kind = 4)
  | 0, i, _, h => by omega
  | fuel + 1, i, h1, h2 => by
    rw [slices_IndexFunc_api_Col_api_Col_f_check_group_1.l0]
    by_cases hi : i < l.length
    · obtain ⟨c, hc, ec⟩ := getE hi
      unfold check_group_1
      rw [if_pos (dlt hi), ix_of hc, Option.bind_some, Option.bind_some, ec]
      by_cases h : c.Kind = 4
      · rw [if_pos (by simpa using h)]
        exact ⟨_, rfl, by simp [h]⟩
      · rw [if_neg (by simpa using h), w64_nat i (by omega)]
        obtain ⟨k, e1, e2⟩ := hist_l0 hl fuel (i + 1) (by omega) (by omega)
        exact ⟨k, e1, by rw [e2]; simp [h]⟩
    · rw [if_neg (dnl (by omega)), List.drop_of_length_le (by omega)]
      exact ⟨_, rfl, rfl⟩
theorem hist_eq {l : List api_Col} (hl : l.length ≤ 20) : slices_ContainsFunc_api_Col_api_Col_f_check_group_1 l = some (l.any fun c => decide (c.Kind = 4)) := by
  unfold slices_ContainsFunc_api_Col_api_Col_f_check_group_1 slices_IndexFunc_api_Col_api_Col_f_check_group_1
  obtain ⟨k, e1, e2⟩ := hist_l0 hl (l.length + 1) 0 (Nat.zero_le _) (by omega)
  rw [fuel_nat, show (0 : Int) = ((0 : Nat) : Int) from rfl, e1, Option.bind_some]
  exact congrArg some (by rw [List.drop_zero] at e2; exact e2)
def groupC (cols : List api_Col) (names : List ByteArray) (aggs : List api_Agg) : Option (List api_Col) :=
  (pickC cols [] names).bind fun l => if aggs = [] then none else if (l.any fun c => decide (c.Kind = 4)) = true then none else endC l (aggsC cols aggs)
theorem pickC_len {cols : List api_Col} : ∀ {names : List ByteArray} {acc l : List api_Col}, pickC cols acc names = some l → l = acc ++ names.map (colOf cols)
  | [], acc, l, h => by simp [pickC] at h; simp [h]
  | n :: r, acc, l, h => by
    rw [pickC] at h
    split at h
    · cases h
    · rw [pickC_len h]; simp
theorem pickC_okN {cols : List api_Col} {names : List ByteArray} {l : List api_Col} (hn : ∀ n ∈ names, n.size ≤ 140737488355328) (h : pickC cols [] names = some l) : okN l := by
  rw [pickC_len h]
  intro c hc
  simp only [List.nil_append, List.mem_map] at hc
  obtain ⟨n, hn', rfl⟩ := hc
  have := hn n hn'
  show n.size < _
  omega
structure OkB (names : List ByteArray) (aggs : List api_Agg) : Prop where
  nl : names.length ≤ 20
  al : aggs.length ≤ 20
  ns : ∀ n ∈ names, n.size ≤ 140737488355328
  ok : ∀ a ∈ aggs, okA a
theorem cgroup_eq {nd : api_Node} {cols : List api_Col} (hc : cols.length ≤ 16) (hb : OkB nd.Names nd.Aggs) : ∃ p, check_group nd cols = some p ∧ Ans (groupC cols nd.Names nd.Aggs) p := by
  unfold check_group groupC
  rw [cpick_eq hc hb.nl, Option.bind_some]
  unfold check_group.j0
  cases hp : pickC cols [] nd.Names with
  | none => rw [if_pos (by rfl), if_pos rfl]; exact ⟨_, rfl, rfl⟩
  | some l =>
    have hl : l.length = nd.Names.length := by rw [pickC_len hp]; simp
    rw [Option.bind_some, if_neg (by simp [okP])]
    by_cases ha : nd.Aggs = []
    · rw [if_pos (by simp [ha]), if_pos rfl, if_pos ha]; exact ⟨_, rfl, rfl⟩
    · have h0 : nd.Aggs.length ≠ 0 := fun h => ha (List.eq_nil_of_length_eq_zero h)
      rw [if_neg (by simp; omega), if_neg ha]
      show ∃ p, (slices_ContainsFunc_api_Col_api_Col_f_check_group_1 l).bind _ = some p ∧ _
      rw [hist_eq (by have := hb.nl; omega), Option.bind_some]
      by_cases hh : (l.any fun c => decide (c.Kind = 4)) = true
      · rw [if_pos hh, if_pos hh]; exact ⟨_, rfl, rfl⟩
      · rw [if_neg hh, if_neg hh, fuel_nat]
        exact cgrp_l1 hc hb.al hb.ok _ 0 l (Nat.zero_le _) (by omega) (by have := hb.nl; omega) (pickC_okN hb.ns hp)
end Go.Proofs.YtonfglmfdhljnaaGreatDoor.M
end
section
namespace Go.Proofs.YtonfglmfdhljnaaGreatDoor.M
open Go Go.Eng Go.Proofs Go.RowKit
set_option maxRecDepth 100000
set_option linter.unusedVariables false
set_option linter.unusedSimpArgs false
def nd0 : api_Node := ⟨9, ⟨#[]⟩, 0, 0, 0, ⟨0, 0, ⟨#[]⟩, ⟨0, 0, 0, 0, 0, 0, 0, 0⟩⟩, [], [], []⟩
def nd1 (names : List ByteArray) (aggs : List api_Agg) : api_Node := ⟨5, ⟨#[]⟩, 0, 0, 0, ⟨0, 0, ⟨#[]⟩, ⟨0, 0, 0, 0, 0, 0, 0, 0⟩⟩, [0], names, aggs⟩
def typesC (cols : List api_Col) (names : List ByteArray) (aggs : List api_Agg) : Option (List api_Col) := if colsS cols = true then groupC cols names aggs else none
theorem endC_some {acc l : List api_Col} {o : Option (List api_Col)} (h : endC acc o = some l) : ∃ m, o = some m ∧ l = acc ++ m ∧ colsS (acc ++ m) = true := by
  cases o with
  | none => cases h
  | some m =>
    unfold endC at h
    dsimp only at h
    split at h
    · rename_i hc; exact ⟨m, rfl, (Option.some.inj h).symm, hc⟩
    · cases h
theorem groupC_some {cols : List api_Col} {names : List ByteArray} {aggs : List api_Agg} {w : List api_Col} (h : groupC cols names aggs = some w) :
    ∃ l m, pickC cols [] names = some l ∧ aggs ≠ [] ∧ (∀ c ∈ l, c.Kind ≠ 4) ∧ aggsC cols aggs = some m ∧ w = l ++ m ∧ colsS w = true := by
  unfold groupC at h
  cases hp : pickC cols [] names with
  | none => rw [hp] at h; cases h
  | some l =>
    rw [hp, Option.bind_some] at h
    split at h
    · cases h
    · rename_i ha
      split at h
      · cases h
      · rename_i hh
        obtain ⟨m, h1, h2, h3⟩ := endC_some h
        refine ⟨l, m, rfl, ha, fun c hc e => hh ?_, h1, h2, by rw [h2]; exact h3⟩
        exact List.any_eq_true.2 ⟨c, hc, by simpa using e⟩
theorem colsS_len {cols : List api_Col} (h : colsS cols = true) : cols.length ≤ 16 := by
  unfold colsS at h
  simp only [Bool.and_eq_true, decide_eq_true_eq] at h
  exact h.2.2
theorem nz0 : ¬ ((0 : Int) != 0) = true := by decide
theorem one0_eq (N : List api_Node) (cols : List api_Col) : check_checker_one ⟨[], nd0 :: N, [cols], []⟩ 0 = (table_Check ⟨cols, []⟩).bind fun y => check_checker_one.j0 ⟨[], nd0 :: N, [cols], []⟩ nd0 (y != 0) := by
  kernel_rfl
theorem one1_eq (names : List ByteArray) (aggs : List api_Agg) (cols c : List api_Col) : check_checker_one ⟨[], [nd0, nd1 names aggs], [cols], [c]⟩ 1 = ((check_group (nd1 names aggs) c).bind fun y => some (y.1, y.2)).bind fun y => if (!y.2) = true then some ([], 140) else (slices_Clone_api_Col_api_Col y.1).bind fun z => some (z, 0) := by
  kernel_rfl
theorem ctypes_eq {cols : List api_Col} {names : List ByteArray} {aggs : List api_Agg} (hc : okCols cols) (hb : OkB names aggs) :
    ∃ r, check_Types [] ⟨[nd0, nd1 names aggs]⟩ [cols] = some r ∧ match typesC cols names aggs with | some w => r = ([cols, w], 0, 0) | none => r.2.2 ≠ 0 := by
  unfold check_Types typesC
  rw [show ((([nd0, nd1 names aggs] : List api_Node).length : Int) - 0).toNat + 1 = 0 + 1 + 1 + 1 from rfl, check_Types.l0]
  dsimp only
  rw [if_pos (by rfl), one0_eq, check_eq (t := ⟨cols, []⟩) hc ⟨by show 0 < _; decide, fun r hr => by cases hr⟩, Option.bind_some]
  unfold checkS check_checker_one.j0
  dsimp only
  by_cases h : colsS cols = true
  · have hl := colsS_len h
    rw [if_pos h, if_pos (show (([] : List (List api_Value)).all fun r => rowOk r cols) = true from rfl), if_neg (by decide), show ix [cols] nd0.N = some cols from rfl, Option.bind_some, cloneC_eq (by omega), Option.bind_some, Option.bind_some, if_neg nz0, apd_of (by simp), Option.bind_some,
      show IntKind.i64.wrap ((0 : Int) + 1) = 1 from by decide, check_Types.l0]
    dsimp only
    obtain ⟨p, hp, hq⟩ := cgroup_eq (nd := nd1 names aggs) (cols := cols) hl hb
    rw [if_pos (by rfl), List.nil_append, one1_eq, hp, Option.bind_some, Option.bind_some]
    cases hg : groupC cols names aggs with
    | none =>
      have e : p.2 = false := by
        have : Ans (groupC cols names aggs) p := hq
        rw [hg] at this; exact this
      dsimp only
      rw [if_pos (by simp [e]), Option.bind_some, if_pos (by decide)]
      exact ⟨_, rfl, by rw [if_pos h]; show (140 : Int) ≠ 0; decide⟩
    | some w =>
      have e : p = (w, true) := by
        have : Ans (groupC cols names aggs) p := hq
        rw [hg] at this; exact this
      obtain ⟨l, m, g1, g2, g3, g4, g5, g6⟩ := groupC_some hg
      have hw := colsS_len g6
      subst e
      dsimp only
      rw [if_neg (by decide), cloneC_eq (by omega), Option.bind_some, Option.bind_some, if_neg nz0, apd_of (by simp), Option.bind_some, show IntKind.i64.wrap ((1 : Int) + 1) = 2 from by decide, check_Types.l0]
      rw [if_neg (show ¬ decide ((2 : Int) < (([nd0, nd1 names aggs] : List api_Node).length : Int)) = true from by simp)]
      exact ⟨_, rfl, by rw [if_pos h]; rfl⟩
  · rw [if_neg h, if_pos (by decide), Option.bind_some, if_pos (by decide)]
    exact ⟨_, rfl, by rw [if_neg h]; show (120 : Int) ≠ 0; decide⟩
end Go.Proofs.YtonfglmfdhljnaaGreatDoor.M
end
section
namespace Go.Proofs.YtonfglmfdhljnaaGreatDoor.M
open Go Go.Eng Go.Proofs Go.RowKit
set_option maxRecDepth 100000
set_option linter.unusedVariables false
set_option linter.unusedSimpArgs false
def pnm (i : Nat) : ByteArray := (⟨#[112, 35]⟩ : ByteArray) ++ mkU (Lib.itoa i)
def pnn (i : Nat) : ByteArray := pnm i ++ (⟨#[35, 110]⟩ : ByteArray)
theorem pnm_size {i : Nat} (h : i < 1000) : (pnm i).size ≤ 23 := by
  have := itoa_len (n := (i : Int)) (by omega) (by omega)
  unfold pnm
  rw [ba_size, mkU_size]
  show 2 + _ ≤ _
  omega
theorem pnn_size {i : Nat} (h : i < 1000) : (pnn i).size ≤ 25 := by
  have := pnm_size h
  unfold pnn
  rw [ba_size]
  show _ + 2 ≤ _
  omega
def pcol2 (i : Nat) (a : api_Agg) (c : api_Col) : List api_Col := ⟨pnm i, c.Kind⟩ :: if a.Kind = 5 then [⟨pnn i, 1⟩] else []
def pcols : Nat → List api_Agg → List api_Col → List api_Col
  | i, a :: r, c :: cs => pcol2 i a c ++ pcols (i + 1) r cs
  | _, _, _ => []
theorem pcols_nil (i : Nat) (l : List api_Col) : pcols i [] l = [] := by cases l <;> rfl
def finG (p w : List api_Col) : List api_Col × List api_Col × Bool := if colsS p = true then (p, w, true) else ([], [], false)
theorem pcol2_ok {i : Nat} (h : i < 1000) {a : api_Agg} {c : api_Col} : okN (pcol2 i a c) := by
  have h1 := pnm_size h
  have h2 := pnn_size h
  unfold pcol2
  intro d hd
  split at hd
  · simp only [List.mem_cons, List.not_mem_nil, or_false] at hd
    rcases hd with rfl | rfl
    · show (pnm i).size < _; omega
    · show (pnn i).size < _; omega
  · rw [List.mem_singleton.1 hd]; show (pnm i).size < _; omega
theorem pcol2_len {i : Nat} {a : api_Agg} {c : api_Col} : (pcol2 i a c).length ≤ 2 := by unfold pcol2; split <;> simp
theorem okN_app {a b : List api_Col} (ha : okN a) (hb : okN b) : okN (a ++ b) := fun c hc => (List.mem_append.1 hc).elim (ha c) (hb c)
theorem gcols_l0 {names : List ByteArray} {aggs : List api_Agg} {w : List api_Col} (hn : names.length ≤ 20) (ha : aggs.length ≤ 20) (hw : w.length = names.length + aggs.length) : ∀ (fuel i : Nat) (acc : List api_Col), i ≤ aggs.length → aggs.length < i + fuel → acc.length ≤ 20 + 2 * i → okN acc →
    group_Cols.l0 names aggs w fuel acc (i : Int) = some (finG (acc ++ pcols i (aggs.drop i) (w.drop (names.length + i))) w)
  | 0, i, _, _, h, _, _ => by omega
  | fuel + 1, i, acc, h1, h2, h3, h4 => by
    rw [group_Cols.l0]
    by_cases hi : i < aggs.length
    · obtain ⟨a, ha', ea⟩ := getE hi
      obtain ⟨c, hc, ec⟩ := getE (l := w) (i := names.length + i) (by omega)
      have hs := pnm_size (i := i) (by omega)
      have hs2 : (pnm i).size = 2 + (mkU (Lib.itoa (i : Int))).size := by unfold pnm; rw [ba_size]; rfl
      rw [if_pos (dlt hi), ix_of ha', Option.bind_some, itoa_eq (by omega) (by omega), Option.bind_some, if_pos (by
        have : (⟨#[112, 35]⟩ : ByteArray).size = 2 := rfl
        rw [this]; simp; omega), w64 (by omega) (by omega), show (names.length : Int) + (i : Int) = ((names.length + i : Nat) : Int) by omega, ix_of hc, Option.bind_some, apd_of (by simp; omega), Option.bind_some, ea, ec, pcols]
      have e0 := gcols_l0 hn ha hw fuel (i + 1) (acc ++ pcol2 i a c) (by omega) (by omega) (by have := pcol2_len (i := i) (a := a) (c := c); simp; omega) (okN_app h4 (pcol2_ok (by omega)))
      unfold group_Cols.j1
      by_cases h5 : a.Kind = 5
      · rw [if_pos (by simpa using h5), if_pos (by
          show decide ((pnm i).size + 2 ≤ 9223372036854775807) = true
          simp; omega), apd_of (by simp; omega), Option.bind_some, w64_nat i (by omega)]
        have e : acc ++ pcol2 i a c = acc ++ [(⟨(⟨#[112, 35]⟩ : ByteArray) ++ mkU (Lib.itoa i), c.Kind⟩ : api_Col)] ++ [(⟨((⟨#[112, 35]⟩ : ByteArray) ++ mkU (Lib.itoa i)) ++ (⟨#[35, 110]⟩ : ByteArray), 1⟩ : api_Col)] := by
          unfold pcol2; rw [if_pos h5]; simp [pnm, pnn]
        rw [← e, e0, ← List.append_assoc]; rfl
      · rw [if_neg (by simpa using h5), w64_nat i (by omega)]
        have e : acc ++ pcol2 i a c = acc ++ [(⟨(⟨#[112, 35]⟩ : ByteArray) ++ mkU (Lib.itoa i), c.Kind⟩ : api_Col)] := by
          unfold pcol2; rw [if_neg h5]; rfl
        rw [← e, e0, ← List.append_assoc]; rfl
    · rw [if_neg (dnl (by omega)), List.drop_of_length_le (l := aggs) (by omega), check_eq (t := ⟨acc, []⟩) ⟨by show acc.length < _; omega, h4⟩ ⟨by show 0 < _; decide, fun r hr => by cases hr⟩, Option.bind_some]
      unfold checkS finG
      dsimp only
      rw [pcols_nil, List.append_nil]
      by_cases h : colsS acc = true
      · simp [h]
      · simp [h]
def colsG (cols : List api_Col) (names : List ByteArray) (aggs : List api_Agg) : Option (List api_Col × List api_Col) :=
  (typesC cols names aggs).bind fun w => if colsS (w.take names.length ++ pcols 0 aggs (w.drop names.length)) = true then some (w.take names.length ++ pcols 0 aggs (w.drop names.length), w) else none
def okG : Option (List api_Col × List api_Col) → List api_Col × List api_Col × Bool
  | some (p, w) => (p, w, true)
  | none => ([], [], false)
theorem aggsC_len {cols : List api_Col} : ∀ {aggs : List api_Agg} {m : List api_Col}, aggsC cols aggs = some m → m.length = aggs.length
  | [], m, h => by simp [aggsC] at h; simp [← h]
  | a :: r, m, h => by
    rw [aggsC] at h
    cases h1 : aggC cols a with
    | none => rw [h1] at h; cases h
    | some c =>
      rw [h1, Option.bind_some] at h
      cases h2 : aggsC cols r with
      | none => rw [h2] at h; cases h
      | some l =>
        rw [h2, Option.bind_some] at h
        obtain rfl := Option.some.inj h
        rw [List.length_cons, List.length_cons, aggsC_len h2]
theorem typesC_some {cols : List api_Col} {names : List ByteArray} {aggs : List api_Agg} {w : List api_Col} (h : typesC cols names aggs = some w) :
    colsS cols = true ∧ ∃ l m, pickC cols [] names = some l ∧ aggs ≠ [] ∧ (∀ c ∈ l, c.Kind ≠ 4) ∧ aggsC cols aggs = some m ∧ w = l ++ m ∧ colsS w = true ∧ l.length = names.length ∧ m.length = aggs.length := by
  unfold typesC at h
  split at h
  · rename_i hc
    obtain ⟨l, m, g1, g2, g3, g4, g5, g6⟩ := groupC_some h
    exact ⟨hc, l, m, g1, g2, g3, g4, g5, g6, by rw [pickC_len g1]; simp, aggsC_len g4⟩
  · cases h
theorem take_okN {cols : List api_Col} {names : List ByteArray} {aggs : List api_Agg} {w : List api_Col} (hb : OkB names aggs) (h : typesC cols names aggs = some w) : okN (w.take names.length) := by
  obtain ⟨_, l, m, g1, g2, g3, g4, g5, g6, g7, g8⟩ := typesC_some h
  rw [g5, List.take_append_of_le_length (by omega), List.take_of_length_le (by omega)]
  exact pickC_okN hb.ns g1
theorem gcols_eq {cols : List api_Col} {names : List ByteArray} {aggs : List api_Agg} (hc : okCols cols) (hb : OkB names aggs) : group_Cols cols names aggs = some (okG (colsG cols names aggs)) := by
  unfold group_Cols colsG
  obtain ⟨r, h1, h2⟩ := ctypes_eq hc hb
  have h1' : check_Types [] ⟨[(⟨9, (⟨#[]⟩ : ByteArray), 0, 0, 0, (⟨0, 0, (⟨#[]⟩ : ByteArray), (⟨0, 0, 0, 0, 0, 0, 0, 0⟩ : Arr8)⟩ : api_Value), [], [], []⟩ : api_Node), (⟨5, (⟨#[]⟩ : ByteArray), 0, 0, 0, (⟨0, 0, (⟨#[]⟩ : ByteArray), (⟨0, 0, 0, 0, 0, 0, 0, 0⟩ : Arr8)⟩ : api_Value), [0], names, aggs⟩ : api_Node)]⟩ [cols] = some r := h1
  rw [h1', Option.bind_some]
  cases ht : typesC cols names aggs with
  | none =>
    rw [ht] at h2
    rw [if_pos (by simpa using h2)]; rfl
  | some w =>
    rw [ht] at h2
    dsimp only at h2
    have hok := take_okN hb ht
    obtain ⟨g0, l, m, g1, g2, g3, g4, g5, g6, g7, g8⟩ := typesC_some ht
    have hl : w.length = names.length + aggs.length := by rw [g5]; simp; omega
    have b1 := hb.nl; have b2 := hb.al
    subst h2
    dsimp only
    rw [if_neg nz0, show ix [cols, w] 1 = some w from rfl, Option.bind_some, cut_of (by omega) (by omega) (by omega), Option.bind_some]
    have e : (w.drop (0 : Int).toNat).take ((names.length : Int).toNat - (0 : Int).toNat) = w.take names.length := by simp
    rw [e, cloneC_eq (by simp; omega), Option.bind_some, fuel_nat, show (0 : Int) = ((0 : Nat) : Int) from rfl, gcols_l0 b1 b2 hl _ 0 _ (Nat.zero_le _) (by omega) (by simp; omega) hok, Option.bind_some, List.drop_zero, Nat.add_zero]
    unfold finG
    split <;> rfl
end Go.Proofs.YtonfglmfdhljnaaGreatDoor.M
end
section
namespace Go.Proofs.YtonfglmfdhljnaaGreatDoor.M
open Go Go.Eng Go.Proofs Go.RowKit
set_option maxRecDepth 100000
set_option linter.unusedVariables false
set_option linter.unusedSimpArgs false
def addH (x y : Arr8) : Arr8 := ⟨IntKind.i64.wrap (x.a0 + y.a0), IntKind.i64.wrap (x.a1 + y.a1), IntKind.i64.wrap (x.a2 + y.a2), IntKind.i64.wrap (x.a3 + y.a3), IntKind.i64.wrap (x.a4 + y.a4), IntKind.i64.wrap (x.a5 + y.a5), IntKind.i64.wrap (x.a6 + y.a6), IntKind.i64.wrap (x.a7 + y.a7)⟩
theorem vadd_l1 (a b : api_Value) : value_Add.l1 a b 9 a.H 0 = some ((⟨a.Kind, a.N, a.S, addH a.H b.H⟩ : api_Value), 0) := by kernel_rfl
def addS (a b : api_Value) : api_Value × Int := if validS a = true ∧ validS b = true ∧ a.Kind = b.Kind ∧ (a.Kind = 1 ∨ a.Kind = 4) then (⟨a.Kind, IntKind.i64.wrap (a.N + b.N), ⟨#[]⟩, addH a.H b.H⟩, 0) else (⟨0, 0, ⟨#[]⟩, H0⟩, 10)
theorem valid1 {v : api_Value} (h : validS v = true) (k : v.Kind = 1) : v.S = ⟨#[]⟩ ∧ v.H = H0 := by unfold validS at h; rw [if_pos k] at h; simpa using h
theorem valid4 {v : api_Value} (h : validS v = true) (k : v.Kind = 4) : v.N = 0 ∧ v.S = ⟨#[]⟩ := by
  unfold validS at h
  rw [if_neg (by omega), if_neg (by omega), if_neg (by omega), if_pos k] at h
  simpa using h
theorem add_eq (a b : api_Value) : value_Add a b = some (addS a b) := by
  unfold value_Add value_Add.j0 value_OfInt addS
  rw [valid_eq, Option.bind_some, valid_eq]
  by_cases h1 : validS a = true
  · rw [if_neg (by simp [h1]), Option.bind_some]
    by_cases h2 : validS b = true
    · rw [if_neg (by simp [h2])]
      by_cases hk : a.Kind = b.Kind
      · rw [if_neg (by simp [hk])]
        by_cases k1 : a.Kind = 1
        · obtain ⟨e1, e2⟩ := valid1 h1 k1
          obtain ⟨e3, e4⟩ := valid1 h2 (by omega)
          rw [if_pos (by simpa using k1), if_pos ⟨h1, h2, hk, Or.inl k1⟩, e2, e4, k1]
          rfl
        · rw [if_neg (by simpa using k1)]
          by_cases k4 : a.Kind = 4
          · obtain ⟨e1, e2⟩ := valid4 h1 k4
            obtain ⟨e3, e4⟩ := valid4 h2 (by omega)
            rw [if_pos (by simpa using k4), if_pos ⟨h1, h2, hk, Or.inr k4⟩]
            refine Eq.trans (vadd_l1 a b) ?_
            rw [e1, e3, e2]
            rfl
          · rw [if_neg (by simpa using k4), if_neg (by omega)]; rfl
      · rw [if_pos (by simpa using hk), if_neg (fun h => hk h.2.2.1)]; rfl
    · rw [if_pos (by simpa using h2), if_pos rfl, if_neg (fun h => h2 h.2.1)]; rfl
  · rw [if_pos (by simpa using h1), if_pos rfl, if_neg (fun h => h1 h.1)]; rfl
theorem addS_comm (a b : api_Value) : addS a b = addS b a := by
  unfold addS addH
  by_cases h : validS a = true ∧ validS b = true ∧ a.Kind = b.Kind ∧ (a.Kind = 1 ∨ a.Kind = 4)
  · obtain ⟨h1, h2, h3, h4⟩ := h
    rw [if_pos ⟨h1, h2, h3, h4⟩, if_pos ⟨h2, h1, h3.symm, by omega⟩, h3]
    simp only [Int.add_comm]
  · rw [if_neg h, if_neg (fun ⟨h1, h2, h3, h4⟩ => h ⟨h2, h1, h3.symm, by omega⟩)]
def mkB (l : List api_Value) : ByteArray := bstr (l.flatMap valS)
theorem mark_l0 {l : List api_Value} (hl : l.length ≤ 20) (hv : ∀ v ∈ l, validS v = true) : ∀ (fuel i : Nat) (acc : List Int), i ≤ l.length → l.length < i + fuel → acc.length ≤ 65 * i →
    group_mark.l0 l fuel acc (i : Int) = some (bstr (acc ++ (l.drop i).flatMap valS))
  | 0, i, _, _, h, _ => by omega
  | fuel + 1, i, acc, h1, h2, h3 => by
    rw [group_mark.l0]
    by_cases hi : i < l.length
    · obtain ⟨v, hv', ev⟩ := getE hi
      have hvv := hv v (List.mem_of_getElem? hv')
      have := valS_len hvv
      rw [if_pos (dlt hi), ix_of hv', Option.bind_some, wPut_eq (Nat.le_of_ble_eq_true rfl), Option.bind_some]
      unfold putS
      rw [if_pos hvv]
      simp only [List.nil_append]
      rw [apd_of (by omega), Option.bind_some, w64_nat i (by omega), mark_l0 hl hv fuel (i + 1) _ (by omega) (by omega) (by simp; omega), ev]
      simp
    · rw [if_neg (dnl (by omega)), List.drop_of_length_le (by omega)]
      simp
theorem mark_eq {l : List api_Value} (hl : l.length ≤ 20) (hv : ∀ v ∈ l, validS v = true) : group_mark l = some (mkB l) := by
  unfold group_mark mkB
  rw [fuel_nat, show (0 : Int) = ((0 : Nat) : Int) from rfl, mark_l0 hl hv _ 0 [] (Nat.zero_le _) (by omega) (by simp)]
  simp
theorem flat_inj : ∀ {a b : List api_Value}, a.map (·.Kind) = b.map (·.Kind) → (∀ v ∈ a, validS v = true ∧ wfV v) → (∀ v ∈ b, validS v = true ∧ wfV v) → a.flatMap valS = b.flatMap valS → a = b
  | [], [], _, _, _, _ => rfl
  | [], _ :: _, h, _, _, _ => by simp at h
  | _ :: _, [], h, _, _, _ => by simp at h
  | v :: a, w :: b, h, h1, h2, he => by
    simp only [List.map_cons, List.cons.injEq] at h
    simp only [List.flatMap_cons] at he
    have e1 := take_put (h1 v (List.mem_cons_self ..)).1 (h1 v (List.mem_cons_self ..)).2 (a.flatMap valS)
    have e2 := take_put (h2 w (List.mem_cons_self ..)).1 (h2 w (List.mem_cons_self ..)).2 (b.flatMap valS)
    rw [he, h.1, e2] at e1
    simp only [Option.some.injEq, Prod.mk.injEq] at e1
    rw [e1.1, flat_inj h.2 (fun x hx => h1 x (List.mem_cons_of_mem _ hx)) (fun x hx => h2 x (List.mem_cons_of_mem _ hx)) e1.2.symm]
theorem byts_flatV {l : List api_Value} (h : ∀ v ∈ l, validS v = true) : Byts (l.flatMap valS) := by
  intro x hx
  obtain ⟨v, hv, hx⟩ := List.mem_flatMap.1 hx
  exact byts_valS (h v hv) x hx
theorem mkB_inj {a b : List api_Value} (hk : a.map (·.Kind) = b.map (·.Kind)) (ha : ∀ v ∈ a, validS v = true ∧ wfV v) (hb : ∀ v ∈ b, validS v = true ∧ wfV v) (h : mkB a = mkB b) : a = b :=
  flat_inj hk ha hb (bstr_inj (byts_flatV fun v hv => (ha v hv).1) (byts_flatV fun v hv => (hb v hv).1) h)
theorem cmpV_neg (a b : api_Value) : cmpV b a = - cmpV a b := cmpV_cmp.flip a b
def layV (k : Int) (a b : api_Value) : api_Value := if k = 3 then (if cmpV a b ≤ 0 then a else b) else if k = 4 then (if cmpV a b ≥ 0 then a else b) else (addS a b).1
theorem lay_eq (k : Int) (a b : api_Value) : group_lay k a b = some (layV k a b) := by
  unfold group_lay layV group_lay.j0 group_lay.j2 group_lay.j1 group_lay.j3
  rw [cmpV_eq, Option.bind_some]
  by_cases h3 : k = 3
  · rw [if_pos (by simpa using h3), if_pos h3]
    by_cases hc : cmpV a b ≤ 0
    · rw [if_pos (by simpa using hc), if_pos (by simpa using hc), if_pos hc]
    · rw [if_neg (by simpa using hc), if_neg (by simp; omega), if_neg (by decide), if_pos (by simpa using h3), if_pos rfl, if_neg hc]
  · rw [if_neg (by simpa using h3), if_neg h3, if_neg (by decide)]
    by_cases h4 : k = 4
    · rw [if_pos (by simpa using h4), if_pos h4]
      by_cases hc : cmpV a b ≥ 0
      · rw [if_pos (by simpa using hc), if_pos hc]
      · rw [if_neg (by simpa using hc), if_neg (by simpa using h3), if_pos (by simpa using h4), if_neg hc]
    · rw [if_neg (by simpa using h4), if_neg (by decide), if_neg (by simpa using h3), if_neg (by simpa using h4), add_eq, if_neg h4]
      rfl
def okS (v : api_Value) : Prop := v.S.size ≤ 64 ∧ wfV v
theorem wfH (x y : Arr8) : ∀ z ∈ (addH x y).list, In64 z := by
  intro z hz
  simp only [addH, Arr8.list, List.mem_cons, List.not_mem_nil, or_false] at hz
  rcases hz with h | h | h | h | h | h | h | h <;> (rw [h]; exact w64_range _)
theorem layV_ok {k : Int} {a b : api_Value} (ha : okS a) (hb : okS b) : okS (layV k a b) := by
  unfold layV
  split
  · split <;> assumption
  · split
    · split <;> assumption
    · unfold addS
      split
      · exact ⟨by show (0 : Nat) ≤ 64; decide, w64_range _, wfH _ _⟩
      · exact ⟨by decide, by constructor <;> decide, by intro z hz; simp only [H0, Arr8.list, List.mem_cons, List.not_mem_nil, or_false, or_self] at hz; subst hz; constructor <;> decide⟩
def layL : List Int → List api_Value → List api_Value → List api_Value
  | k :: ks, a :: as', b :: bs => layV k a b :: layL ks as' bs
  | _, _, _ => []
def layR (n : Nat) (ks : List Int) (a b : List api_Value) : List api_Value := a.take n ++ layL ks (a.drop n) (b.drop n)
def kindsA (aggs : List api_Agg) : List Int := aggs.flatMap fun a => if a.Kind = 5 then [5, 5] else [a.Kind]
theorem layL_len : ∀ {ks : List Int} {a b : List api_Value}, a.length = ks.length → b.length = ks.length → (layL ks a b).length = ks.length
  | [], _, _, _, _ => rfl
  | k :: ks, a :: as', b :: bs, h1, h2 => by simp only [layL, List.length_cons] at *; rw [layL_len (by omega) (by omega)]
  | k :: ks, [], _, h, _ => by simp at h
  | k :: ks, _ :: _, [], _, h => by simp at h
theorem layL_ok : ∀ {ks : List Int} {a b : List api_Value}, (∀ v ∈ a, okS v) → (∀ v ∈ b, okS v) → ∀ v ∈ layL ks a b, okS v
  | [], _, _, _, _, v, h => by cases h
  | k :: ks, [], _, _, _, v, h => by cases h
  | k :: ks, _ :: _, [], _, _, v, h => by cases h
  | k :: ks, a :: as', b :: bs, h1, h2, v, h => by
    rw [layL] at h
    rcases List.mem_cons.1 h with rfl | h
    · exact layV_ok (h1 a (List.mem_cons_self ..)) (h2 b (List.mem_cons_self ..))
    · exact layL_ok (fun x hx => h1 x (List.mem_cons_of_mem _ hx)) (fun x hx => h2 x (List.mem_cons_of_mem _ hx)) v h
structure Good (n m : Nat) (K : List Int) (r : List api_Value) : Prop where
  len : r.length = m
  ok : ∀ v ∈ r, okS v
  key : ∀ v ∈ r.take n, validS v = true
  kinds : (r.take n).map (·.Kind) = K
theorem layR_take {n : Nat} {ks : List Int} {a b : List api_Value} (h : n ≤ a.length) : (layR n ks a b).take n = a.take n := by
  unfold layR
  rw [List.take_append_of_le_length (by simp; omega), List.take_of_length_le (by simp; omega)]
theorem layR_good {n m : Nat} {K : List Int} {ks : List Int} {a b : List api_Value} (hm : m = n + ks.length) (ha : Good n m K a) (hb : Good n m K b) : Good n m K (layR n ks a b) := by
  have h1 := ha.len; have h2 := hb.len
  refine ⟨?_, ?_, ?_, ?_⟩
  · unfold layR
    rw [List.length_append, layL_len (by simp; omega) (by simp; omega)]; simp; omega
  · intro v hv
    unfold layR at hv
    rcases List.mem_append.1 hv with h | h
    · exact ha.ok v (List.mem_of_mem_take h)
    · exact layL_ok (fun x hx => ha.ok x (List.mem_of_mem_drop hx)) (fun x hx => hb.ok x (List.mem_of_mem_drop hx)) v h
  · rw [layR_take (by omega)]; exact ha.key
  · rw [layR_take (by omega)]; exact ha.kinds
theorem kindsA_cons (a : api_Agg) (r : List api_Agg) : kindsA (a :: r) = (if a.Kind = 5 then [5, 5] else [a.Kind]) ++ kindsA r := rfl
end Go.Proofs.YtonfglmfdhljnaaGreatDoor.M
end
section
namespace Go.Proofs.YtonfglmfdhljnaaGreatDoor.M
open Go Go.Eng Go.Proofs Go.RowKit
set_option maxRecDepth 100000
set_option linter.unusedVariables false
set_option linter.unusedSimpArgs false
def insG (n : Nat) (ks : List Int) : List (List api_Value) → List api_Value → List (List api_Value)
  | [], r => [r]
  | g :: G, r => if g.take n = r.take n then layR n ks g r :: G else g :: insG n ks G r
def grpS (n : Nat) (ks : List Int) (rows : List (List api_Value)) : List (List api_Value) := rows.foldl (insG n ks) []
def keyB (n : Nat) (b : List (List api_Value)) : List api_Value := (b.headD []).take n
def insB (n : Nat) : List (List (List api_Value)) → List api_Value → List (List (List api_Value))
  | [], r => [[r]]
  | b :: B, r => if keyB n b = r.take n then (b ++ [r]) :: B else b :: insB n B r
def foldB (n : Nat) (ks : List Int) : List (List api_Value) → List api_Value
  | [] => []
  | r :: rest => rest.foldl (layR n ks) r
section
variable {n m : Nat} {K ks : List Int}
theorem foldl_good (hm : m = n + ks.length) : ∀ {l : List (List api_Value)} {r : List api_Value}, Good n m K r → (∀ x ∈ l, Good n m K x) → Good n m K (l.foldl (layR n ks) r) ∧ (l.foldl (layR n ks) r).take n = r.take n
  | [], r, h, _ => ⟨h, rfl⟩
  | x :: l, r, h, hl => by
    have hx := hl x (List.mem_cons_self ..)
    have h1 := layR_good hm h hx
    have := foldl_good hm h1 (fun y hy => hl y (List.mem_cons_of_mem _ hy))
    rw [List.foldl_cons]
    exact ⟨this.1, by rw [this.2, layR_take (by have := h.len; omega)]⟩
theorem foldB_key (hm : m = n + ks.length) {b : List (List api_Value)} (hb : ∀ x ∈ b, Good n m K x) : (foldB n ks b).take n = keyB n b := by
  cases b with
  | nil => rfl
  | cons r rest => exact (foldl_good hm (hb r (List.mem_cons_self ..)) fun y hy => hb y (List.mem_cons_of_mem _ hy)).2
theorem insG_good (hm : m = n + ks.length) : ∀ {G : List (List api_Value)} {r : List api_Value}, (∀ g ∈ G, Good n m K g) → Good n m K r → ∀ g ∈ insG n ks G r, Good n m K g
  | [], r, _, hr, g, hg => by
    rw [insG, List.mem_singleton] at hg
    rw [hg]; exact hr
  | x :: G, r, hG, hr, g, hg => by
    have hx := hG x (List.mem_cons_self ..)
    rw [insG] at hg
    split at hg
    · rcases List.mem_cons.1 hg with rfl | hg
      · exact layR_good hm hx hr
      · exact hG g (List.mem_cons_of_mem _ hg)
    · rcases List.mem_cons.1 hg with rfl | hg
      · exact hx
      · exact insG_good hm (fun y hy => hG y (List.mem_cons_of_mem _ hy)) hr g hg
theorem insG_len (n : Nat) (ks : List Int) : ∀ (G : List (List api_Value)) (r : List api_Value), (insG n ks G r).length ≤ G.length + 1
  | [], r => by simp [insG]
  | x :: G, r => by
    rw [insG]
    split
    · simp
    · have := insG_len n ks G r
      simp; omega
theorem foldl_insG (hm : m = n + ks.length) : ∀ {rows G : List (List api_Value)}, (∀ g ∈ G, Good n m K g) → (∀ r ∈ rows, Good n m K r) → (∀ g ∈ rows.foldl (insG n ks) G, Good n m K g) ∧ (rows.foldl (insG n ks) G).length ≤ G.length + rows.length
  | [], G, hG, _ => ⟨hG, by simp⟩
  | r :: rows, G, hG, hr => by
    have := foldl_insG hm (rows := rows) (insG_good hm hG (hr r (List.mem_cons_self ..))) (fun x hx => hr x (List.mem_cons_of_mem _ hx))
    have hl := insG_len n ks G r
    rw [List.foldl_cons]
    exact ⟨this.1, by have := this.2; simp; omega⟩
theorem grpS_good (hm : m = n + ks.length) {rows : List (List api_Value)} (hr : ∀ r ∈ rows, Good n m K r) : (∀ g ∈ grpS n ks rows, Good n m K g) ∧ (grpS n ks rows).length ≤ rows.length := by
  have := foldl_insG hm (G := []) (fun g hg => by cases hg) hr
  exact ⟨this.1, by have := this.2; unfold grpS; simpa using this⟩
end
theorem insB_good {n m : Nat} {K : List Int} : ∀ {B : List (List (List api_Value))} {r : List api_Value}, (∀ b ∈ B, b ≠ [] ∧ ∀ x ∈ b, Good n m K x) → Good n m K r → ∀ b ∈ insB n B r, b ≠ [] ∧ ∀ x ∈ b, Good n m K x
  | [], r, _, hr, b, hb => by
    rw [insB, List.mem_singleton] at hb
    rw [hb]; exact ⟨by simp, fun x hx => by rw [List.mem_singleton.1 hx]; exact hr⟩
  | c :: B, r, hB, hr, b, hb => by
    have hc := hB c (List.mem_cons_self ..)
    rw [insB] at hb
    split at hb
    · rcases List.mem_cons.1 hb with rfl | hb
      · exact ⟨by simp, fun x hx => (List.mem_append.1 hx).elim (hc.2 x) fun h => by rw [List.mem_singleton.1 h]; exact hr⟩
      · exact hB b (List.mem_cons_of_mem _ hb)
    · rcases List.mem_cons.1 hb with rfl | hb
      · exact hc
      · exact insB_good (fun y hy => hB y (List.mem_cons_of_mem _ hy)) hr b hb
theorem insB_fold {n m : Nat} {K ks : List Int} (hm : m = n + ks.length) : ∀ {B : List (List (List api_Value))} {r : List api_Value}, (∀ b ∈ B, b ≠ [] ∧ ∀ x ∈ b, Good n m K x) → (insB n B r).map (foldB n ks) = insG n ks (B.map (foldB n ks)) r
  | [], r, _ => rfl
  | c :: B, r, hB => by
    have hc := hB c (List.mem_cons_self ..)
    rw [insB, List.map_cons, insG, foldB_key hm hc.2]
    split
    · rw [List.map_cons]
      congr 1
      cases hcc : c with
      | nil => exact absurd hcc hc.1
      | cons x l => simp [foldB]
    · rw [List.map_cons, insB_fold hm fun y hy => hB y (List.mem_cons_of_mem _ hy)]
def idxB (n : Nat) (B : List (List (List api_Value))) (key : List api_Value) : Option Nat := B.findIdx? fun b => decide (keyB n b = key)
theorem idxB_cons (n : Nat) (b : List (List api_Value)) (B : List (List (List api_Value))) (key : List api_Value) : idxB n (b :: B) key = if keyB n b = key then some 0 else (idxB n B key).map (· + 1) := by
  unfold idxB
  rw [List.findIdx?_cons]
  by_cases h : keyB n b = key
  · simp [h]
  · simp [h]
theorem insB_idx {n : Nat} : ∀ (B : List (List (List api_Value))) (r : List api_Value), insB n B r = match idxB n B (r.take n) with
    | some i => B.set i ((B[i]?).getD [] ++ [r])
    | none => B ++ [[r]]
  | [], r => rfl
  | b :: B, r => by
    rw [insB, idxB_cons]
    by_cases h : keyB n b = r.take n
    · rw [if_pos h, if_pos h]; simp
    · rw [if_neg h, if_neg h, insB_idx B r]
      cases idxB n B (r.take n) with
      | none => rfl
      | some i => simp
theorem idxB_lt {n : Nat} : ∀ {B : List (List (List api_Value))} {key : List api_Value} {i : Nat}, idxB n B key = some i → i < B.length
  | [], _, _, h => by simp [idxB] at h
  | b :: B, key, i, h => by
    rw [idxB_cons] at h
    split at h
    · obtain rfl := Option.some.inj h; simp
    · cases h1 : idxB n B key with
      | none => rw [h1] at h; cases h
      | some j =>
        rw [h1] at h
        have := idxB_lt h1
        simp at h; simp; omega
theorem idxB_ins {n : Nat} : ∀ (B : List (List (List api_Value))) (r : List api_Value) (key : List api_Value), (∀ b ∈ B, b ≠ []) → idxB n (insB n B r) key = match idxB n B key with
    | some i => some i
    | none => if r.take n = key then some B.length else none
  | [], r, key, _ => by
    rw [insB, idxB_cons]
    have : keyB n [r] = r.take n := rfl
    rw [this]
    simp [idxB]
  | b :: B, r, key, hB => by
    have hb := hB b (List.mem_cons_self ..)
    have hk : keyB n (b ++ [r]) = keyB n b := by
      cases b with
      | nil => exact absurd rfl hb
      | cons x l => rfl
    rw [insB]
    by_cases h : keyB n b = r.take n
    · rw [if_pos h, idxB_cons, hk, idxB_cons]
      by_cases h2 : keyB n b = key
      · rw [if_pos h2]
      · rw [if_neg h2]
        cases h3 : idxB n B key with
        | none => rw [h] at h2; simp [h2]
        | some i => rfl
    · rw [if_neg h, idxB_cons, idxB_cons, idxB_ins B r key fun c hc => hB c (List.mem_cons_of_mem _ hc)]
      by_cases h2 : keyB n b = key
      · rw [if_pos h2, if_pos h2]
      · rw [if_neg h2, if_neg h2]
        cases h3 : idxB n B key with
        | none =>
          by_cases h4 : r.take n = key
          · simp [h4]
          · simp [h4]
        | some i => rfl
def Inv (n : Nat) (all : List (List api_Value)) (m : List (ByteArray × Int)) (B : List (List (List api_Value))) : Prop := ∀ r ∈ all, mget m (mkB (r.take n)) = (idxB n B (r.take n)).map fun i => (i : Int)
section
variable {n m : Nat} {K ks : List Int} {all : List (List api_Value)}
theorem mk_inj {r s : List api_Value} (hr : Good n m K r) (hs : Good n m K s) (h : mkB (r.take n) = mkB (s.take n)) : r.take n = s.take n :=
  mkB_inj (by rw [hr.kinds, hs.kinds]) (fun v hv => ⟨hr.key v hv, (hr.ok v (List.mem_of_mem_take hv)).2⟩) (fun v hv => ⟨hs.key v hv, (hs.ok v (List.mem_of_mem_take hv)).2⟩) h
theorem mark18 {r : List api_Value} (hr : Good n m K r) (hn : n ≤ 20) (hnm : n ≤ m) : group_together_1_cp r (n : Int) = some (mkB (r.take n)) := by
  unfold group_together_1_cp
  have hl := hr.len
  rw [cut_of (by omega) (by omega) (by omega), Option.bind_some]
  have e : (r.drop (0 : Int).toNat).take ((n : Int).toNat - (0 : Int).toNat) = r.take n := by simp
  rw [e, mark_eq (by simp; omega) hr.key]; rfl
theorem bucket_l0 (hn : n ≤ 20) (hnm : n ≤ m) (hl : all.length ≤ 1000) (hg : ∀ r ∈ all, Good n m K r) : ∀ (fuel i : Nat) (mp : List (ByteArray × Int)) (B : List (List (List api_Value))), i ≤ all.length → all.length < i + fuel → Inv n all mp B → (∀ b ∈ B, b ≠ []) → B.length ≤ i → (∀ b ∈ B, b.length ≤ i) →
    group_bucket_api_Value_f_group_together_1p.l0 all (n : Int) fuel mp B (i : Int) = some ((all.drop i).foldl (insB n) B)
  | 0, i, _, _, _, h, _, _, _, _ => by omega
  | fuel + 1, i, mp, B, h1, h2, h3, h4, h5, h6 => by
    rw [group_bucket_api_Value_f_group_together_1p.l0]
    by_cases hi : i < all.length
    · obtain ⟨r, hr, er⟩ := getE hi
      have hrm := List.mem_of_getElem? hr
      have hgr := hg r hrm
      rw [if_pos (dlt hi), ix_of hr, Option.bind_some, mark18 hgr hn hnm, Option.bind_some, h3 r hrm, er, List.foldl_cons]
      have nB : ∀ b ∈ insB n B r, b ≠ [] := by
        intro b hb
        rw [insB_idx] at hb
        cases hx : idxB n B (r.take n) with
        | none =>
          rw [hx] at hb
          rcases List.mem_append.1 hb with hb | hb
          · exact h4 b hb
          · rw [List.mem_singleton.1 hb]; simp
        | some j =>
          rw [hx] at hb
          rcases List.mem_or_eq_of_mem_set hb with hb | rfl
          · exact h4 b hb
          · simp
      unfold group_bucket_api_Value_f_group_together_1p.j1
      cases hx : idxB n B (r.take n) with
      | none =>
        have e0 : insB n B r = B ++ [[r]] := by rw [insB_idx, hx]
        rw [if_pos (by rfl), apd_of (by simp; omega), Option.bind_some, ix_of (i := B.length) (x := []) (by simp), Option.bind_some, apd_of (by simp), Option.bind_some, Option.bind_some, w64_nat i (by omega)]
        have eu : upd (B ++ [[]]) (B.length : Int) ([] ++ [r]) = insB n B r := by
          rw [e0]; unfold upd
          simp [List.set_append]
        rw [eu]
        refine bucket_l0 hn hnm hl hg fuel (i + 1) _ _ (by omega) (by omega) ?_ nB (by rw [e0]; simp; omega) ?_
        · intro s hs
          rw [mget_mset, idxB_ins B r _ h4, h3 s hs]
          by_cases hk : r.take n = s.take n
          · rw [if_pos (by rw [hk]), ← hk, hx]; simp
          · rw [if_neg (fun h => hk (mk_inj hgr (hg s hs) h))]
            cases idxB n B (s.take n) with
            | none => simp [hk]
            | some j => rfl
        · intro b hb
          rw [e0] at hb
          rcases List.mem_append.1 hb with hb | hb
          · have := h6 b hb; omega
          · rw [List.mem_singleton.1 hb]; simp
      | some j =>
        have hj := idxB_lt hx
        obtain ⟨b, hb, _⟩ := getE hj
        have e0 : insB n B r = B.set j (b ++ [r]) := by rw [insB_idx, hx]; simp [hb]
        have hbl := h6 b (List.mem_of_getElem? hb)
        rw [if_neg (by simp)]
        show ((ix B ((j : Nat) : Int)).bind _) = _
        rw [ix_of hb, Option.bind_some, apd_of (by simp; omega), Option.bind_some]
        show ((ix B ((j : Nat) : Int)).bind _) = _
        rw [ix_of hb, Option.bind_some, w64_nat i (by omega)]
        have eu : upd B (((idxB n B (r.take n)).map fun i => (i : Int)).getD 0) (b ++ [r]) = insB n B r := by
          rw [hx, e0]; rfl
        rw [hx] at eu
        rw [eu]
        refine bucket_l0 hn hnm hl hg fuel (i + 1) _ _ (by omega) (by omega) ?_ nB (by rw [e0]; simp; omega) ?_
        · intro s hs
          rw [idxB_ins B r _ h4, h3 s hs]
          cases hy : idxB n B (s.take n) with
          | none =>
            have : r.take n ≠ s.take n := fun h => by rw [h, hy] at hx; cases hx
            simp [this]
          | some k => rfl
        · intro c hc
          rw [e0] at hc
          rcases List.mem_or_eq_of_mem_set hc with hc | rfl
          · have := h6 c hc; omega
          · simp; omega
    · rw [if_neg (dnl (by omega)), List.drop_of_length_le (by omega)]; rfl
theorem bucket_eq (hn : n ≤ 20) (hnm : n ≤ m) (hl : all.length ≤ 1000) (hg : ∀ r ∈ all, Good n m K r) : group_bucket_api_Value_f_group_together_1p all (n : Int) = some (all.foldl (insB n) []) := by
  unfold group_bucket_api_Value_f_group_together_1p
  rw [fuel_nat, show (0 : Int) = ((0 : Nat) : Int) from rfl, bucket_l0 hn hnm hl hg _ 0 _ _ (Nat.zero_le _) (by omega) (fun r hr => rfl) (fun b hb => by cases hb) (Nat.le_refl _) (fun b hb => by cases hb), List.drop_zero]
theorem foldl_insB (hm : m = n + ks.length) : ∀ {rows : List (List api_Value)} {B : List (List (List api_Value))}, (∀ b ∈ B, b ≠ [] ∧ ∀ x ∈ b, Good n m K x) → (∀ r ∈ rows, Good n m K r) →
    (∀ b ∈ rows.foldl (insB n) B, b ≠ [] ∧ ∀ x ∈ b, Good n m K x) ∧ (rows.foldl (insB n) B).map (foldB n ks) = rows.foldl (insG n ks) (B.map (foldB n ks))
  | [], B, hB, _ => ⟨hB, rfl⟩
  | r :: rows, B, hB, hr => by
    have h0 := hr r (List.mem_cons_self ..)
    have := foldl_insB hm (rows := rows) (insB_good hB h0) (fun x hx => hr x (List.mem_cons_of_mem _ hx))
    rw [List.foldl_cons, List.foldl_cons]
    exact ⟨this.1, by rw [this.2, insB_fold hm hB]⟩
theorem insB_sz {n : Nat} : ∀ (B : List (List (List api_Value))) (r : List api_Value), (insB n B r).length ≤ B.length + 1 ∧ ∀ k, (∀ b ∈ B, b.length ≤ k) → ∀ b ∈ insB n B r, b.length ≤ k + 1
  | [], r => ⟨by simp [insB], fun k _ b hb => by rw [insB, List.mem_singleton] at hb; rw [hb]; simp⟩
  | c :: B, r => by
    obtain ⟨h1, h2⟩ := insB_sz B r
    rw [insB]
    split
    · refine ⟨by simp, fun k hk b hb => ?_⟩
      rcases List.mem_cons.1 hb with rfl | hb
      · have := hk c (List.mem_cons_self ..); simp; omega
      · have := hk b (List.mem_cons_of_mem _ hb); omega
    · refine ⟨by simp; omega, fun k hk b hb => ?_⟩
      rcases List.mem_cons.1 hb with rfl | hb
      · have := hk b (List.mem_cons_self ..); omega
      · exact h2 k (fun x hx => hk x (List.mem_cons_of_mem _ hx)) b hb
theorem foldl_insB_sz : ∀ (rows : List (List api_Value)) (B : List (List (List api_Value))) (k : Nat), B.length ≤ k → (∀ b ∈ B, b.length ≤ k) → (rows.foldl (insB n) B).length ≤ k + rows.length ∧ ∀ b ∈ rows.foldl (insB n) B, b.length ≤ k + rows.length
  | [], B, k, h1, h2 => ⟨by simpa using h1, fun b hb => by simpa using h2 b hb⟩
  | r :: rows, B, k, h1, h2 => by
    obtain ⟨g1, g2⟩ := insB_sz (n := n) B r
    have := foldl_insB_sz rows (insB n B r) (k + 1) (by omega) (g2 k h2)
    rw [List.foldl_cons]
    exact ⟨by have := this.1; simp; omega, fun b hb => by have := this.2 b hb; simp; omega⟩
end
end Go.Proofs.YtonfglmfdhljnaaGreatDoor.M
end
section
namespace Go.Proofs.YtonfglmfdhljnaaGreatDoor.M
open Go Go.Eng Go.Proofs Go.RowKit
set_option maxRecDepth 100000
set_option linter.unusedVariables false
set_option linter.unusedSimpArgs false
theorem width_eq (a : api_Agg) : group_width a = some (if a.Kind = 5 then 2 else 1) := by
  unfold group_width
  by_cases h : a.Kind = 5
  · rw [if_pos (by simpa using h), if_pos h]
  · rw [if_neg (by simpa using h), if_neg h]
theorem kindsA_len (aggs : List api_Agg) : (kindsA aggs).length ≤ 2 * aggs.length := by
  induction aggs with
  | nil => simp [kindsA]
  | cons a r ih =>
    rw [kindsA_cons]
    split <;> simp <;> omega
theorem tog_l1 {kl : List Int → Int → Option api_Table} {aggs : List api_Agg} {x : Int} {a : api_Agg} {wd : Nat} (hw : wd ≤ 2) : ∀ (fuel j : Nat) (acc : List Int), j ≤ wd → wd < j + fuel → acc.length ≤ 100 →
    group_together.l1 kl aggs x a (wd : Int) fuel acc (j : Int) = kl (acc ++ List.replicate (wd - j) a.Kind) (IntKind.i64.wrap (x + 1))
  | 0, j, _, _, h, _ => by omega
  | fuel + 1, j, acc, h1, h2, h3 => by
    rw [group_together.l1]
    by_cases hj : j < wd
    · rw [if_pos (dlt hj), apd_of (by simp; omega), Option.bind_some, w64_nat j (by omega)]
      have hlen : (acc ++ [a.Kind]).length ≤ 100 ∨ 100 < (acc ++ [a.Kind]).length := by omega
      rcases hlen with hlen | hlen
      · rw [tog_l1 hw fuel (j + 1) _ (by omega) (by omega) hlen, show wd - j = (wd - (j + 1)) + 1 by omega, List.replicate_succ]
        simp
      · simp at hlen
        have : acc.length = 100 := by omega
       
        cases fuel with
        | zero => omega
        | succ f =>
          rw [group_together.l1]
          by_cases hj2 : j + 1 < wd
          · rw [if_pos (dlt hj2), apd_of (by simp; omega), Option.bind_some, w64_nat (j + 1) (by omega)]
            cases f with
            | zero => omega
            | succ f =>
              rw [group_together.l1, if_neg (dnl (by omega)), show wd - j = 2 by omega]
              simp [List.replicate]
          · rw [if_neg (dnl (by omega)), show wd - j = 1 by omega]
            simp [List.replicate]
    · rw [if_neg (dnl (by omega)), show wd - j = 0 by omega]
      simp
section
variable {n m : Nat} {K ks : List Int}
theorem upd_row {cur : List api_Value} {p : Nat} {v : api_Value} (h : p < cur.length) : (upd cur (p : Int) v).take (p + 1) = cur.take p ++ [v] ∧ (upd cur (p : Int) v).drop (p + 1) = cur.drop (p + 1) ∧ (upd cur (p : Int) v).length = cur.length := by
  unfold upd
  rw [Int.toNat_natCast]
  refine ⟨?_, ?_, by simp⟩
  · rw [List.take_add_one, List.take_set_of_le (Nat.le_refl _), List.getElem?_set_self h]; rfl
  · rw [List.drop_set_of_lt (by omega)]
theorem tog_l4 {kl : List api_Value → Int → Option api_Table} {rest : List (List api_Value)} {x : Int} {row : List api_Value} (hm : n + ks.length ≤ 1000) (hr : row.length = n + ks.length) : ∀ (fuel i : Nat) (cur : List api_Value), i ≤ ks.length → ks.length < i + fuel → cur.length = n + ks.length →
    group_together.l4 kl (n : Int) ks rest x row fuel cur (i : Int) = kl (cur.take (n + i) ++ layL (ks.drop i) (cur.drop (n + i)) (row.drop (n + i))) (IntKind.i64.wrap (x + 1))
  | 0, i, _, _, h, _ => by omega
  | fuel + 1, i, cur, h1, h2, h3 => by
    rw [group_together.l4]
    by_cases hi : i < ks.length
    · obtain ⟨k, hk, ek⟩ := getE hi
      obtain ⟨a, ha, ea⟩ := getE (l := cur) (i := n + i) (by omega)
      obtain ⟨b, hb, eb⟩ := getE (l := row) (i := n + i) (by omega)
      have ew : IntKind.i64.wrap ((n : Int) + (i : Int)) = ((n + i : Nat) : Int) := by rw [w64 (by omega) (by omega)]; omega
      obtain ⟨u1, u2, u3⟩ := upd_row (cur := cur) (p := n + i) (v := layV k a b) (by omega)
      rw [if_pos (dlt hi), ix_of hk, Option.bind_some, ew, ix_of ha, Option.bind_some, ix_of hb, Option.bind_some, lay_eq, Option.bind_some, Option.bind_some, w64_nat i (by omega), tog_l4 hm hr fuel (i + 1) _ (by omega) (by omega) (by rw [u3]; exact h3),
        ← Nat.add_assoc, u1, u2, ek, ea, eb]
      simp [layL]
    · rw [if_neg (dnl (by omega)), List.drop_of_length_le (l := ks) (by omega), List.take_of_length_le (by omega)]
      simp [layL]
theorem tog_l3 {kl : List (List api_Value) → Int → Option api_Table} {B : List (List (List api_Value))} {acc : List (List api_Value)} {x : Int} {rest : List (List api_Value)} (hm : m = n + ks.length) (hm2 : m ≤ 1000) (hl : rest.length ≤ 1000) (hr : ∀ r ∈ rest, Good n m K r) (ha : acc.length ≤ 1000) : ∀ (fuel j : Nat) (cur : List api_Value), j ≤ rest.length → rest.length < j + fuel → Good n m K cur →
    group_together.l3 kl (n : Int) ks B acc x rest fuel cur (j : Int) = kl (acc ++ [(rest.drop j).foldl (layR n ks) cur]) (IntKind.i64.wrap (x + 1))
  | 0, j, _, _, h, _ => by omega
  | fuel + 1, j, cur, h1, h2, h3 => by
    rw [group_together.l3]
    by_cases hj : j < rest.length
    · obtain ⟨row, hrow, er⟩ := getE hj
      have hg := hr row (List.mem_of_getElem? hrow)
      rw [if_pos (dlt hj), ix_of hrow, Option.bind_some, fuel_nat, show (0 : Int) = ((0 : Nat) : Int) from rfl, tog_l4 (by omega) (by rw [hg.len, hm]) _ 0 cur (Nat.zero_le _) (by omega) (by rw [h3.len, hm]), Nat.add_zero, List.drop_zero]
      have e : cur.take n ++ layL ks (cur.drop n) (row.drop n) = layR n ks cur row := rfl
      rw [e, w64_nat j (by omega), tog_l3 hm hm2 hl hr ha fuel (j + 1) _ (by omega) (by omega) (layR_good hm h3 hg), er, List.foldl_cons]
    · rw [if_neg (dnl (by omega)), List.drop_of_length_le (by omega), apd_of (by simp; omega), Option.bind_some]; rfl
theorem tog_l2 {t : api_Table} {B : List (List (List api_Value))} (hm : m = n + ks.length) (hm2 : m ≤ 1000) (hB : B.length ≤ 1000) (hs : ∀ b ∈ B, b.length ≤ 1000) (hg : ∀ b ∈ B, b ≠ [] ∧ ∀ x ∈ b, Good n m K x) : ∀ (fuel i : Nat) (acc : List (List api_Value)), i ≤ B.length → B.length < i + fuel → acc.length = i →
    group_together.l2 t (n : Int) ks B fuel acc (i : Int) = table_Canon ⟨t.Cols, acc ++ (B.drop i).map (foldB n ks)⟩
  | 0, i, _, _, h, _ => by omega
  | fuel + 1, i, acc, h1, h2, h3 => by
    rw [group_together.l2]
    by_cases hi : i < B.length
    · obtain ⟨b, hb, eb⟩ := getE hi
      have hbm := List.mem_of_getElem? hb
      obtain ⟨g1, g2⟩ := hg b hbm
      have hbl := hs b hbm
      rw [if_pos (dlt hi), ix_of hb, Option.bind_some, eb, List.map_cons]
      cases hbb : b with
      | nil => exact absurd hbb g1
      | cons r rest =>
        subst hbb
        have hr := g2 r (List.mem_cons_self ..)
        simp only [List.length_cons] at hbl
        rw [show (0 : Int) = ((0 : Nat) : Int) from rfl, ix_of (x := r) rfl, Option.bind_some, clone_eq (by have := hr.len; omega), Option.bind_some, cut_of (by omega) (by simp; omega) (by simp), Option.bind_some]
        have e : ((r :: rest).drop (1 : Int).toNat).take ((((r :: rest).length : Nat) : Int).toNat - (1 : Int).toNat) = rest := by
          show (rest.take _) = rest
          rw [List.take_of_length_le (by simp)]
        rw [e]
        show group_together.l3 _ _ _ _ _ _ _ (((rest.length : Int) - ((0 : Nat) : Int)).toNat + 1) _ _ = _
        rw [show ((rest.length : Int) - ((0 : Nat) : Int)).toNat + 1 = rest.length + 1 by omega, tog_l3 hm hm2 (by omega) (fun x hx => g2 x (List.mem_cons_of_mem _ hx)) (by omega) _ 0 r (Nat.zero_le _) (by omega) hr, w64_nat i (by omega), tog_l2 hm hm2 hB hs hg fuel (i + 1) _ (by omega) (by omega) (by simp; omega), List.drop_zero]
        simp [foldB]
    · rw [if_neg (dnl (by omega)), List.drop_of_length_le (by omega)]
      simp
end
theorem tog_l0 {t : api_Table} {n : Nat} {aggs : List api_Agg} (ha : aggs.length ≤ 20) : ∀ (fuel i : Nat) (acc : List Int), i ≤ aggs.length → aggs.length < i + fuel → acc.length ≤ 2 * i →
    group_together.l0 t (n : Int) aggs fuel acc (i : Int) = (group_bucket_api_Value_f_group_together_1p t.Rows (n : Int)).bind fun y => group_together.l2 t (n : Int) (acc ++ kindsA (aggs.drop i)) y (((y.length : Int) - 0).toNat + 1) [] 0
  | 0, i, _, _, h, _ => by omega
  | fuel + 1, i, acc, h1, h2, h3 => by
    rw [group_together.l0]
    by_cases hi : i < aggs.length
    · obtain ⟨a, ha', ea⟩ := getE hi
      rw [if_pos (dlt hi), ix_of ha', Option.bind_some, width_eq, Option.bind_some]
      have e : (if a.Kind = 5 then (2 : Int) else 1) = ((if a.Kind = 5 then 2 else 1 : Nat) : Int) := by split <;> rfl
      have hw : (if a.Kind = 5 then 2 else 1 : Nat) ≤ 2 := by split <;> omega
      rw [e, fuel_nat, show (0 : Int) = ((0 : Nat) : Int) from rfl, tog_l1 hw _ 0 _ (Nat.zero_le _) (by omega) (by omega), w64_nat i (by omega), tog_l0 ha fuel (i + 1) _ (by omega) (by omega) (by simp; split <;> omega), ea, kindsA_cons]
      have e2 : List.replicate ((if a.Kind = 5 then 2 else 1 : Nat) - 0) a.Kind = if a.Kind = 5 then [5, 5] else [a.Kind] := by
        split
        · rename_i h; rw [h]; rfl
        · rfl
      rw [e2, List.append_assoc]
      rfl
    · rw [if_neg (dnl (by omega)), List.drop_of_length_le (by omega)]
      simp [kindsA]
def togS (n : Nat) (aggs : List api_Agg) (t : api_Table) : api_Table := canonS ⟨t.Cols, grpS n (kindsA aggs) t.Rows⟩
structure OkG (n : Nat) (K : List Int) (aggs : List api_Agg) (t : api_Table) : Prop where
  n20 : n ≤ 20
  a20 : aggs.length ≤ 20
  c : t.Cols.length ≤ 1000
  r : t.Rows.length ≤ 400
  good : ∀ r ∈ t.Rows, Good n (n + (kindsA aggs).length) K r
theorem tog_eq {n : Nat} {K : List Int} {aggs : List api_Agg} {t : api_Table} (h : OkG n K aggs t) : group_together t (n : Int) aggs = some (togS n aggs t) := by
  unfold group_together togS
  have h1 := h.n20; have h2 := h.a20; have h3 := h.r; have h4 := kindsA_len aggs
  rw [fuel_nat, show (0 : Int) = ((0 : Nat) : Int) from rfl, tog_l0 h.a20 _ 0 [] (Nat.zero_le _) (by omega) (by simp), bucket_eq h.n20 (by omega) (by omega) h.good, Option.bind_some, fuel_nat, show (0 : Int) = ((0 : Nat) : Int) from rfl, List.drop_zero, List.nil_append]
  have g := foldl_insB (ks := kindsA aggs) rfl (rows := t.Rows) (B := []) (fun b hb => by cases hb) h.good
  have s := foldl_insB_sz (n := n) t.Rows [] 0 (by simp) (fun b hb => by cases hb)
  rw [tog_l2 rfl (by omega) (by have := s.1; omega) (fun b hb => by have := s.2 b hb; omega) g.1 _ 0 [] (Nat.zero_le _) (by omega) rfl, List.drop_zero, List.nil_append, g.2]
  have q := grpS_good (n := n) (ks := kindsA aggs) rfl h.good
  exact canon_eq' (by have := h.c; show t.Cols.length * 24 ≤ _; omega) (by have := q.2; show (grpS n (kindsA aggs) t.Rows).length * 24 ≤ _; omega) (fun r hr => by have := (q.1 r hr).len; omega)
section
variable {t : api_Table} {n : Nat} {K : List Int} {aggs : List api_Agg}
end
end Go.Proofs.YtonfglmfdhljnaaGreatDoor.M
end
section
namespace Go.Proofs.YtonfglmfdhljnaaGreatDoor.M
open Go Go.Eng Go.Proofs Go.RowKit
set_option maxRecDepth 100000
set_option linter.unusedVariables false
set_option linter.unusedSimpArgs false
def vOne : api_Value := ⟨1, 1, ⟨#[]⟩, ⟨0, 0, 0, 0, 0, 0, 0, 0⟩⟩
def valAt (cols : List api_Col) (row : List api_Value) (n : ByteArray) : api_Value := (row[(findS cols n).toNat]?).getD vOne
def partA1 (cols : List api_Col) (row : List api_Value) (a : api_Agg) : List api_Value := if a.Kind = 1 then [vOne] else valAt cols row a.Col :: if a.Kind = 5 then [vOne] else []
def partA (cols : List api_Col) (row : List api_Value) (aggs : List api_Agg) : List api_Value := aggs.flatMap (partA1 cols row)
def partR (cols : List api_Col) (names : List ByteArray) (aggs : List api_Agg) (row : List api_Value) : List api_Value := names.map (valAt cols row) ++ partA cols row aggs
theorem partA1_len (cols : List api_Col) (row : List api_Value) (a : api_Agg) : (partA1 cols row a).length = (if a.Kind = 5 then [5, 5] else [a.Kind] : List Int).length := by
  unfold partA1
  by_cases h1 : a.Kind = 1
  · rw [if_pos h1, if_neg (by omega)]; rfl
  · rw [if_neg h1]
    by_cases h5 : a.Kind = 5
    · rw [if_pos h5, if_pos h5]; rfl
    · rw [if_neg h5, if_neg h5]; rfl
theorem partA1_len2 (cols : List api_Col) (row : List api_Value) (a : api_Agg) : (partA1 cols row a).length ≤ 2 := by
  rw [partA1_len]; split <;> simp
structure Fnd (cols : List api_Col) (names : List ByteArray) (aggs : List api_Agg) : Prop where
  nm : ∀ n ∈ names, 0 ≤ findS cols n
  ag : ∀ a ∈ aggs, a.Kind ≠ 1 → 0 ≤ findS cols a.Col
theorem pickC_fnd {cols : List api_Col} : ∀ {names : List ByteArray} {acc l : List api_Col}, pickC cols acc names = some l → ∀ n ∈ names, 0 ≤ findS cols n
  | [], _, _, _, n, hn => by cases hn
  | x :: r, acc, l, h, n, hn => by
    rw [pickC] at h
    split at h
    · cases h
    · rename_i hx
      rcases List.mem_cons.1 hn with rfl | hn
      · omega
      · exact pickC_fnd h n hn
theorem aggC_fnd {cols : List api_Col} {a : api_Agg} {c : api_Col} (h : aggC cols a = some c) (h1 : a.Kind ≠ 1) : 0 ≤ findS cols a.Col := by
  unfold aggC at h
  rw [if_neg h1] at h
  split at h
  · cases h
  · omega
theorem aggsC_cons {cols : List api_Col} {a : api_Agg} {r : List api_Agg} {m : List api_Col} (h : aggsC cols (a :: r) = some m) : ∃ c m', aggC cols a = some c ∧ aggsC cols r = some m' ∧ m = c :: m' := by
  rw [aggsC] at h
  cases h1 : aggC cols a with
  | none => rw [h1] at h; cases h
  | some c =>
    rw [h1, Option.bind_some] at h
    cases h2 : aggsC cols r with
    | none => rw [h2] at h; cases h
    | some l =>
      rw [h2, Option.bind_some] at h
      exact ⟨c, l, rfl, rfl, (Option.some.inj h).symm⟩
theorem aggsC_fnd {cols : List api_Col} : ∀ {aggs : List api_Agg} {m : List api_Col}, aggsC cols aggs = some m → ∀ a ∈ aggs, a.Kind ≠ 1 → 0 ≤ findS cols a.Col
  | [], _, _, a, ha, _ => by cases ha
  | x :: r, m, h, a, ha, h1 => by
    obtain ⟨c, m', e1, e2, _⟩ := aggsC_cons h
    rcases List.mem_cons.1 ha with rfl | ha
    · exact aggC_fnd e1 h1
    · exact aggsC_fnd e2 a ha h1
section
variable {cols : List api_Col} {names : List ByteArray} {aggs : List api_Agg} {row : List api_Value}
theorem valAt_ix (hl : row.length = cols.length) {n : ByteArray} (h : 0 ≤ findS cols n) : ix row (findS cols n) = some (valAt cols row n) := by
  obtain ⟨i, h1, h2⟩ := findS_col h
  have hi : i < row.length := by
    have : i < cols.length := by
      rcases Nat.lt_or_ge i cols.length with h3 | h3
      · exact h3
      · rw [List.getElem?_eq_none h3] at h2; cases h2
    omega
  obtain ⟨v, hv, _⟩ := getE hi
  unfold valAt
  rw [h1, Int.toNat_natCast, hv, ix_of hv]; rfl
theorem part1_eq {rows : List (List api_Value)} (hc : cols.length ≤ 16) (hl : row.length = cols.length) {n : ByteArray} (h : 0 ≤ findS cols n) : group_Partial_1_cp_cp n row ⟨cols, rows⟩ = some (valAt cols row n) := by
  unfold group_Partial_1_cp_cp
  rw [find_eq (by show cols.length < _; omega), Option.bind_some]
  show (ix row (findS cols n)).bind _ = _
  rw [valAt_ix hl h]; rfl
theorem part_l2 {kl : List (List api_Value) → Int → Option (api_Table × Int)} {rows out : List (List api_Value)} {x : Int} (hc : cols.length ≤ 16) (hg : aggs.length ≤ 20) (hf : Fnd cols names aggs) (hl : row.length = cols.length) (ho : out.length ≤ 1000) : ∀ (fuel i : Nat) (cur : List api_Value), i ≤ aggs.length → aggs.length < i + fuel → cur.length ≤ 20 + 2 * i →
    group_Partial.l2 kl ⟨cols, rows⟩ aggs out x row fuel cur (i : Int) = kl (out ++ [cur ++ partA cols row (aggs.drop i)]) (IntKind.i64.wrap (x + 1))
  | 0, i, _, _, h, _ => by omega
  | fuel + 1, i, cur, h1, h2, h3 => by
    rw [group_Partial.l2]
    by_cases hi : i < aggs.length
    · obtain ⟨a, ha, ea⟩ := getE hi
      have hfa := hf.ag a (List.mem_of_getElem? ha)
      have key := part_l2 (kl := kl) (rows := rows) (out := out) (x := x) hc hg hf hl ho fuel (i + 1) (cur ++ partA1 cols row a) (by omega) (by omega) (by have := partA1_len2 cols row a; simp; omega)
      have er : partA cols row (aggs.drop i) = partA1 cols row a ++ partA cols row (aggs.drop (i + 1)) := by rw [ea]; rfl
      rw [if_pos (dlt hi), ix_of ha, Option.bind_some, er]
      unfold group_Partial.j3 group_Partial.j4 group_Partial.j5 value_OfInt
      rw [← List.append_assoc, ← key]
      by_cases h1' : a.Kind = 1
      · rw [if_neg (by simp [h1']), if_pos (by simpa using h1'), if_pos rfl, Option.bind_some, apd_of (by simp; omega), Option.bind_some, w64_nat i (by omega)]
        unfold partA1
        rw [if_pos h1']; rfl
      · rw [if_pos (by simpa using h1'), part1_eq hc hl (hfa h1'), Option.bind_some, apd_of (by simp; omega), Option.bind_some, if_neg (by simpa using h1')]
        by_cases h5 : a.Kind = 5
        · rw [if_pos (by simpa using h5), Option.bind_some, apd_of (by simp; omega), Option.bind_some, w64_nat i (by omega)]
          unfold partA1
          rw [if_neg h1', if_pos h5]
          simp [vOne]
        · rw [if_neg (by simpa using h5), w64_nat i (by omega)]
          unfold partA1
          rw [if_neg h1', if_neg h5]
    · rw [if_neg (dnl (by omega)), List.drop_of_length_le (by omega), apd_of (by simp; omega), Option.bind_some]
      simp [partA]
theorem part_l1 {kl : List (List api_Value) → Int → Option (api_Table × Int)} {rows out : List (List api_Value)} {x : Int} (hc : cols.length ≤ 16) (hn : names.length ≤ 20) (hg : aggs.length ≤ 20) (hf : Fnd cols names aggs) (hl : row.length = cols.length) (ho : out.length ≤ 1000) : ∀ (fuel i : Nat) (cur : List api_Value), i ≤ names.length → names.length < i + fuel → cur.length = i →
    group_Partial.l1 kl ⟨cols, rows⟩ names aggs out x row fuel cur (i : Int) = kl (out ++ [cur ++ ((names.drop i).map (valAt cols row) ++ partA cols row aggs)]) (IntKind.i64.wrap (x + 1))
  | 0, i, _, _, h, _ => by omega
  | fuel + 1, i, cur, h1, h2, h3 => by
    rw [group_Partial.l1]
    by_cases hi : i < names.length
    · obtain ⟨a, ha, ea⟩ := getE hi
      rw [if_pos (dlt hi), ix_of ha, Option.bind_some, part1_eq hc hl (hf.nm a (List.mem_of_getElem? ha)), Option.bind_some, apd_of (by simp; omega), Option.bind_some, w64_nat i (by omega), part_l1 hc hn hg hf hl ho fuel (i + 1) _ (by omega) (by omega) (by simp; omega), ea]
      simp
    · rw [if_neg (dnl (by omega)), List.drop_of_length_le (by omega), fuel_nat, show (0 : Int) = ((0 : Nat) : Int) from rfl, part_l2 hc hg hf hl ho _ 0 cur (Nat.zero_le _) (by omega) (by omega)]
      simp
theorem part_l0 {t : api_Table} {y : List api_Col × List api_Col × Bool} (hc : t.Cols.length ≤ 16) (hn : names.length ≤ 20) (hg : aggs.length ≤ 20) (hf : Fnd t.Cols names aggs) (hr : ∀ r ∈ t.Rows, r.length = t.Cols.length) (hl : t.Rows.length ≤ 400) : ∀ (fuel i : Nat) (out : List (List api_Value)), i ≤ t.Rows.length → t.Rows.length < i + fuel → out.length = i →
    group_Partial.l0 t names aggs y fuel out (i : Int) = (group_together ⟨y.1, out ++ (t.Rows.drop i).map (partR t.Cols names aggs)⟩ (names.length : Int) aggs).bind fun z => some (z, 0)
  | 0, i, _, _, h, _ => by omega
  | fuel + 1, i, out, h1, h2, h3 => by
    rw [group_Partial.l0]
    by_cases hi : i < t.Rows.length
    · obtain ⟨r, hr', er⟩ := getE hi
      have e := part_l1 (kl := group_Partial.l0 t names aggs y fuel) (rows := t.Rows) (out := out) (x := (i : Int)) hc hn hg hf (hr r (List.mem_of_getElem? hr')) (by omega) (names.length + 1) 0 [] (Nat.zero_le _) (by omega) rfl
      rw [if_pos (dlt hi), ix_of hr', Option.bind_some, fuel_nat]
      refine Eq.trans e ?_
      rw [w64_nat i (by omega), part_l0 hc hn hg hf hr hl fuel (i + 1) _ (by omega) (by omega) (by simp; omega), er]
      simp [partR]
    · rw [if_neg (dnl (by omega)), List.drop_of_length_le (by omega)]
      simp
end
theorem wrapZ : addH H0 H0 = H0 := by decide
theorem addS_valid {a b : api_Value} (ha : validS a = true) (hb : validS b = true) (hk : a.Kind = b.Kind) (h : a.Kind = 1 ∨ a.Kind = 4) : (addS a b).1.Kind = a.Kind ∧ validS (addS a b).1 = true := by
  unfold addS
  rw [if_pos ⟨ha, hb, hk, h⟩]
  refine ⟨rfl, ?_⟩
  rcases h with h | h
  · obtain ⟨e1, e2⟩ := valid1 ha h
    obtain ⟨e3, e4⟩ := valid1 hb (by omega)
    unfold validS
    dsimp only
    rw [if_pos h, e2, e4, wrapZ]; rfl
  · obtain ⟨e1, e2⟩ := valid4 ha h
    obtain ⟨e3, e4⟩ := valid4 hb (by omega)
    unfold validS
    dsimp only
    rw [if_neg (by omega), if_neg (by omega), if_neg (by omega), if_pos h, e1, e3]; rfl
theorem layV_valid {k : Int} {a b : api_Value} (ha : validS a = true) (hb : validS b = true) (hk : a.Kind = b.Kind) (h : k = 3 ∨ k = 4 ∨ a.Kind = 1 ∨ a.Kind = 4) : (layV k a b).Kind = a.Kind ∧ validS (layV k a b) = true := by
  unfold layV
  by_cases h3 : k = 3
  · rw [if_pos h3]; split
    · exact ⟨rfl, ha⟩
    · exact ⟨hk.symm, hb⟩
  · rw [if_neg h3]
    by_cases h4 : k = 4
    · rw [if_pos h4]; split
      · exact ⟨rfl, ha⟩
      · exact ⟨hk.symm, hb⟩
    · rw [if_neg h4]; exact addS_valid ha hb hk (by omega)
def layOk : List Int → List api_Col → Prop
  | [], [] => True
  | k :: ks, c :: cs => (k = 3 ∨ k = 4 ∨ c.Kind = 1 ∨ c.Kind = 4) ∧ layOk ks cs
  | _, _ => False
theorem layOk_len : ∀ {ks : List Int} {cs : List api_Col}, layOk ks cs → ks.length = cs.length
  | [], [], _ => rfl
  | [], _ :: _, h => by cases h
  | _ :: _, [], h => by cases h
  | k :: ks, c :: cs, h => by rw [List.length_cons, List.length_cons, layOk_len h.2]
theorem layOk_app : ∀ {ks ks' : List Int} {cs cs' : List api_Col}, layOk ks cs → layOk ks' cs' → layOk (ks ++ ks') (cs ++ cs')
  | [], _, [], _, _, h => h
  | [], _, _ :: _, _, h, _ => by cases h
  | _ :: _, _, [], _, h, _ => by cases h
  | k :: ks, ks', c :: cs, cs', h, h' => ⟨h.1, layOk_app h.2 h'⟩
theorem layL_rowOk : ∀ {ks : List Int} {cs : List api_Col} {a b : List api_Value}, layOk ks cs → rowOk a cs = true → rowOk b cs = true → rowOk (layL ks a b) cs = true
  | [], [], [], [], _, _, _ => rfl
  | [], [], _ :: _, _, _, h, _ => by simp [rowOk] at h
  | [], [], [], _ :: _, _, _, h => by simp [rowOk] at h
  | [], _ :: _, _, _, h, _, _ => by cases h
  | _ :: _, [], _, _, h, _, _ => by cases h
  | k :: ks, c :: cs, [], _, _, h, _ => by simp [rowOk] at h
  | k :: ks, c :: cs, _ :: _, [], _, _, h => by simp [rowOk] at h
  | k :: ks, c :: cs, x :: a, y :: b, h, h1, h2 => by
    simp only [rowOk, Bool.and_eq_true, decide_eq_true_eq] at h1 h2
    have e := layV_valid (k := k) h1.1.2 h2.1.2 (by rw [h1.1.1, h2.1.1]) (by rw [h1.1.1]; exact h.1)
    simp only [layL, rowOk, Bool.and_eq_true, decide_eq_true_eq]
    exact ⟨⟨by rw [e.1, h1.1.1], e.2⟩, layL_rowOk h.2 h1.2 h2.2⟩
theorem rowOk_app : ∀ {a : List api_Value} {c : List api_Col} {b : List api_Value} {d : List api_Col}, rowOk a c = true → rowOk b d = true → rowOk (a ++ b) (c ++ d) = true
  | [], [], _, _, _, h => h
  | [], _ :: _, _, _, h, _ => by simp [rowOk] at h
  | _ :: _, [], _, _, h, _ => by simp [rowOk] at h
  | v :: a, x :: c, b, d, h, h' => by
    simp only [rowOk, Bool.and_eq_true, List.cons_append] at h ⊢
    exact ⟨h.1, rowOk_app h.2 h'⟩
theorem rowOk_take : ∀ {r : List api_Value} {c : List api_Col} (n : Nat), rowOk r c = true → rowOk (r.take n) (c.take n) = true ∧ rowOk (r.drop n) (c.drop n) = true
  | r, c, 0, h => ⟨by simp [rowOk], by simpa using h⟩
  | [], [], n + 1, h => ⟨rfl, rfl⟩
  | [], _ :: _, _ + 1, h => by simp [rowOk] at h
  | _ :: _, [], _ + 1, h => by simp [rowOk] at h
  | v :: r, x :: c, n + 1, h => by
    simp only [rowOk, Bool.and_eq_true] at h
    obtain ⟨h1, h2⟩ := rowOk_take n h.2
    simp only [List.take_succ_cons, List.drop_succ_cons, rowOk, Bool.and_eq_true]
    exact ⟨⟨h.1, h1⟩, h2⟩
theorem layR_rowOk {n : Nat} {ks : List Int} {p : List api_Col} (hk : layOk ks (p.drop n)) {a b : List api_Value} (ha : rowOk a p = true) (hb : rowOk b p = true) : rowOk (layR n ks a b) p = true := by
  unfold layR
  have := rowOk_app (rowOk_take n ha).1 (layL_rowOk hk (rowOk_take n ha).2 (rowOk_take n hb).2)
  rwa [List.take_append_drop] at this
theorem aggC_lay {cols : List api_Col} {a : api_Agg} {c : api_Col} (h : aggC cols a = some c) : a.Kind = 3 ∨ a.Kind = 4 ∨ c.Kind = 1 ∨ c.Kind = 4 := by
  unfold aggC at h
  repeat' split at h
  all_goals first | (cases h; done) | (cases h; simp_all; done) | (cases h; dsimp only; omega)
theorem aggC_5 {cols : List api_Col} {a : api_Agg} {c : api_Col} (h : aggC cols a = some c) (h5 : a.Kind = 5) : c.Kind = 1 := by
  unfold aggC at h
  rw [if_neg (by omega)] at h
  split at h
  · cases h
  · rw [if_pos (Or.inr h5)] at h
    split at h
    · obtain rfl := Option.some.inj h; rfl
    · cases h
theorem pcols_lay {cols : List api_Col} : ∀ {aggs : List api_Agg} {m : List api_Col} (i : Nat), aggsC cols aggs = some m → layOk (kindsA aggs) (pcols i aggs m)
  | [], m, i, h => by rw [pcols_nil]; trivial
  | a :: r, m, i, h => by
    obtain ⟨c, m', e1, e2, rfl⟩ := aggsC_cons h
    rw [pcols, kindsA_cons]
    refine layOk_app ?_ (pcols_lay (i + 1) e2)
    unfold pcol2
    by_cases h5 : a.Kind = 5
    · rw [if_pos h5, if_pos h5]
      have e5 := aggC_5 e1 h5
      exact ⟨Or.inr (Or.inr (Or.inl e5)), Or.inr (Or.inr (Or.inl rfl)), trivial⟩
    · rw [if_neg h5, if_neg h5]
      have el := aggC_lay e1
      exact ⟨el, trivial⟩
theorem colsG_some {cols : List api_Col} {names : List ByteArray} {aggs : List api_Agg} {p w : List api_Col} (h : colsG cols names aggs = some (p, w)) :
    colsS cols = true ∧ colsS p = true ∧ colsS w = true ∧ ∃ m, pickC cols [] names = some (names.map (colOf cols)) ∧ aggs ≠ [] ∧ (∀ n ∈ names, kindOf cols n ≠ 4) ∧ aggsC cols aggs = some m ∧ w = names.map (colOf cols) ++ m ∧ p = names.map (colOf cols) ++ pcols 0 aggs m := by
  unfold colsG at h
  cases ht : typesC cols names aggs with
  | none => rw [ht] at h; cases h
  | some w' =>
    rw [ht, Option.bind_some] at h
    split at h
    · rename_i hp
      obtain ⟨g0, l, m, g1, g2, g3, g4, g5, g6, g7, g8⟩ := typesC_some ht
      have hl := pickC_len g1
      rw [List.nil_append] at hl
      simp only [Option.some.injEq, Prod.mk.injEq] at h
      obtain ⟨rfl, rfl⟩ := h
      have e1 : w'.take names.length = names.map (colOf cols) := by rw [g5, List.take_append_of_le_length (by omega), List.take_of_length_le (by omega), hl]
      have e2 : w'.drop names.length = m := by rw [g5, List.drop_append_of_le_length (by omega), List.drop_of_length_le (by omega), List.nil_append]
      rw [e1, e2] at hp ⊢
      refine ⟨g0, hp, g6, m, by rw [g1, hl], g2, fun n hn => ?_, g4, by rw [g5, hl], rfl⟩
      exact g3 (colOf cols n) (by rw [hl]; exact List.mem_map_of_mem hn)
    · cases h
section
variable {cols : List api_Col} {names : List ByteArray} {aggs : List api_Agg} {p w : List api_Col}
theorem colsG_fnd (h : colsG cols names aggs = some (p, w)) : Fnd cols names aggs := by
  obtain ⟨h1, h2, h3, m, g1, g2, g3, g4, g5, g6⟩ := colsG_some h
  exact ⟨pickC_fnd g1, aggsC_fnd g4⟩
theorem colsG_len (h : colsG cols names aggs = some (p, w)) : p.length = names.length + (kindsA aggs).length ∧ layOk (kindsA aggs) (p.drop names.length) := by
  obtain ⟨h1, h2, h3, m, g1, g2, g3, g4, g5, g6⟩ := colsG_some h
  have hl := pcols_lay 0 g4
  have e := layOk_len hl
  rw [g6]
  refine ⟨by simp [e], ?_⟩
  rw [List.drop_append_of_le_length (by simp), List.drop_of_length_le (by simp), List.nil_append]
  exact hl
theorem valAt_ok {row : List api_Value} (hr : rowOk row cols = true) {n : ByteArray} (h : 0 ≤ findS cols n) : (valAt cols row n).Kind = kindOf cols n ∧ validS (valAt cols row n) = true ∧ valAt cols row n ∈ row := by
  obtain ⟨i, h1, h2⟩ := findS_col h
  have hl := rowOk_len hr
  have hi : i < row.length := by
    rcases Nat.lt_or_ge i cols.length with h3 | h3
    · omega
    · rw [List.getElem?_eq_none h3] at h2; cases h2
  obtain ⟨v, hv, _⟩ := getE hi
  have e : valAt cols row n = v := by unfold valAt; rw [h1, Int.toNat_natCast, hv]; rfl
  rw [e]
  have key : ∀ {r : List api_Value} {cs : List api_Col} {k : Nat} {v : api_Value} {c : api_Col}, rowOk r cs = true → r[k]? = some v → cs[k]? = some c → v.Kind = c.Kind ∧ validS v = true := by
    intro r
    induction r with
    | nil => intro cs k v c _ h; simp at h
    | cons u r ih =>
      intro cs k v c h hv hc
      cases cs with
      | nil => simp at hc
      | cons d cs =>
        simp only [rowOk, Bool.and_eq_true, decide_eq_true_eq] at h
        cases k with
        | zero => simp at hv hc; subst hv; subst hc; exact h.1
        | succ k => exact ih h.2 (by simpa using hv) (by simpa using hc)
  have := key hr hv h2
  exact ⟨this.1, this.2, List.mem_of_getElem? hv⟩
theorem names_rowOk {row : List api_Value} (hr : rowOk row cols = true) : ∀ {names : List ByteArray}, (∀ n ∈ names, 0 ≤ findS cols n) → rowOk (names.map (valAt cols row)) (names.map (colOf cols)) = true
  | [], _ => rfl
  | n :: r, h => by
    obtain ⟨h1, h2, _⟩ := valAt_ok hr (h n (List.mem_cons_self ..))
    simp only [List.map_cons, rowOk, Bool.and_eq_true, decide_eq_true_eq]
    exact ⟨⟨h1, h2⟩, names_rowOk hr fun x hx => h x (List.mem_cons_of_mem _ hx)⟩
theorem aggC_kind {a : api_Agg} {c : api_Col} (h : aggC cols a = some c) : if a.Kind = 1 then c.Kind = 1 else c.Kind = kindOf cols a.Col := by
  unfold aggC at h
  by_cases h1 : a.Kind = 1
  · rw [if_pos h1] at h ⊢
    split at h
    · obtain rfl := Option.some.inj h; rfl
    · cases h
  · rw [if_neg h1] at h ⊢
    repeat' split at h
    all_goals first | (cases h; done) | (obtain rfl := Option.some.inj h; simp_all; done)
theorem part_rowOk {row : List api_Value} (hr : rowOk row cols = true) : ∀ {aggs : List api_Agg} {m : List api_Col} (i : Nat), aggsC cols aggs = some m → rowOk (partA cols row aggs) (pcols i aggs m) = true
  | [], m, i, h => by rw [pcols_nil]; rfl
  | a :: r, m, i, h => by
    obtain ⟨c, m', e1, e2, rfl⟩ := aggsC_cons h
    rw [pcols]
    show rowOk (partA1 cols row a ++ partA cols row r) _ = true
    refine rowOk_app ?_ (part_rowOk hr (i + 1) e2)
    have hk := aggC_kind e1
    have v1 : validS vOne = true := by decide
    unfold partA1 pcol2
    by_cases h1 : a.Kind = 1
    · rw [if_pos h1] at hk ⊢
      rw [if_neg (by omega)]
      simp only [rowOk, Bool.and_eq_true, decide_eq_true_eq, and_true]
      exact ⟨hk.symm, v1⟩
    · rw [if_neg h1] at hk ⊢
      obtain ⟨g1, g2, _⟩ := valAt_ok hr (aggC_fnd e1 h1)
      by_cases h5 : a.Kind = 5
      · rw [if_pos h5, if_pos h5]
        simp only [rowOk, Bool.and_eq_true, decide_eq_true_eq, and_true]
        exact ⟨⟨by rw [g1, hk], g2⟩, rfl, v1⟩
      · rw [if_neg h5, if_neg h5]
        simp only [rowOk, Bool.and_eq_true, decide_eq_true_eq, and_true]
        exact ⟨by rw [g1, hk], g2⟩
theorem partR_rowOk (h : colsG cols names aggs = some (p, w)) {row : List api_Value} (hr : rowOk row cols = true) : rowOk (partR cols names aggs row) p = true := by
  obtain ⟨h1, h2, h3, m, g1, g2, g3, g4, g5, g6⟩ := colsG_some h
  rw [g6]
  exact rowOk_app (names_rowOk hr (pickC_fnd g1)) (part_rowOk hr 0 g4)
theorem partR_mem (h : Fnd cols names aggs) {row : List api_Value} (hr : rowOk row cols = true) : ∀ v ∈ partR cols names aggs row, v ∈ row ∨ v = vOne := by
  intro v hv
  unfold partR at hv
  rcases List.mem_append.1 hv with hv | hv
  · obtain ⟨n, hn, rfl⟩ := List.mem_map.1 hv
    exact Or.inl (valAt_ok hr (h.nm n hn)).2.2
  · obtain ⟨a, ha, hv⟩ := List.mem_flatMap.1 hv
    unfold partA1 at hv
    split at hv
    · exact Or.inr (List.mem_singleton.1 hv)
    · rename_i h1
      rcases List.mem_cons.1 hv with rfl | hv
      · exact Or.inl (valAt_ok hr (h.ag a ha h1)).2.2
      · split at hv
        · exact Or.inr (List.mem_singleton.1 hv)
        · cases hv
end
end Go.Proofs.YtonfglmfdhljnaaGreatDoor.M
end
section
namespace Go.Proofs.YtonfglmfdhljnaaGreatDoor.M
open Go Go.Eng Go.Proofs Go.RowKit
set_option maxRecDepth 100000
set_option linter.unusedVariables false
set_option linter.unusedSimpArgs false
structure In (t : api_Table) : Prop where
  c : okCols t.Cols
  r : okRows t.Rows
  l : t.Rows.length ≤ 400
  wf : ∀ r ∈ t.Rows, ∀ v ∈ r, wfV v
theorem valid_size {v : api_Value} (h : validS v = true) : v.S.size ≤ 64 := by
  have e0 : (⟨#[]⟩ : ByteArray).size = 0 := rfl
  unfold validS at h
  by_cases h1 : v.Kind = 1
  · rw [if_pos h1] at h; simp only [decide_eq_true_eq] at h; rw [h.1, e0]; omega
  · rw [if_neg h1] at h
    by_cases h2 : v.Kind = 2
    · rw [if_pos h2] at h; simp only [decide_eq_true_eq] at h; exact h.2.2
    · rw [if_neg h2] at h
      by_cases h3 : v.Kind = 3
      · rw [if_pos h3] at h; simp only [decide_eq_true_eq] at h; rw [h.2.1, e0]; omega
      · rw [if_neg h3] at h
        by_cases h4 : v.Kind = 4
        · rw [if_pos h4] at h; simp only [decide_eq_true_eq] at h; rw [h.2, e0]; omega
        · rw [if_neg h4] at h; cases h
theorem rowOk_all : ∀ {r : List api_Value} {cs : List api_Col}, rowOk r cs = true → (∀ v ∈ r, validS v = true) ∧ r.map (·.Kind) = cs.map (·.Kind)
  | [], [], _ => ⟨fun v h => (by cases h), rfl⟩
  | [], _ :: _, h => by simp [rowOk] at h
  | _ :: _, [], h => by simp [rowOk] at h
  | v :: r, c :: cs, h => by
    simp only [rowOk, Bool.and_eq_true, decide_eq_true_eq] at h
    obtain ⟨h1, h2⟩ := rowOk_all h.2
    refine ⟨fun x hx => ?_, by simp [h.1.1, h2]⟩
    rcases List.mem_cons.1 hx with rfl | hx
    · exact h.1.2
    · exact h1 x hx
theorem good_of {r : List api_Value} {p : List api_Col} {n m : Nat} (h : rowOk r p = true) (hw : ∀ v ∈ r, wfV v) (hm : p.length = m) : Good n m ((p.take n).map (·.Kind)) r := by
  obtain ⟨h1, h2⟩ := rowOk_all h
  refine ⟨by rw [rowOk_len h]; exact hm, fun v hv => ⟨valid_size (h1 v hv), hw v hv⟩, fun v hv => h1 v (List.mem_of_mem_take hv), ?_⟩
  rw [List.map_take, h2, List.map_take]
theorem foldl_P {n : Nat} {ks : List Int} {P : List api_Value → Prop} (hP : ∀ a b, P a → P b → P (layR n ks a b)) : ∀ {rows G : List (List api_Value)}, (∀ g ∈ G, P g) → (∀ r ∈ rows, P r) → ∀ g ∈ rows.foldl (insG n ks) G, P g
  | [], G, hG, _ => hG
  | r :: rows, G, hG, hr => by
    have ins : ∀ {G : List (List api_Value)}, (∀ g ∈ G, P g) → ∀ g ∈ insG n ks G r, P g := by
      intro G
      induction G with
      | nil => intro _ g hg; rw [insG, List.mem_singleton] at hg; rw [hg]; exact hr r (List.mem_cons_self ..)
      | cons x G ih =>
        intro hG g hg
        rw [insG] at hg
        split at hg
        · rcases List.mem_cons.1 hg with rfl | hg
          · exact hP _ _ (hG x (List.mem_cons_self ..)) (hr r (List.mem_cons_self ..))
          · exact hG g (List.mem_cons_of_mem _ hg)
        · rcases List.mem_cons.1 hg with rfl | hg
          · exact hG _ (List.mem_cons_self ..)
          · exact ih (fun y hy => hG y (List.mem_cons_of_mem _ hy)) g hg
    rw [List.foldl_cons]
    exact foldl_P hP (ins hG) (fun x hx => hr x (List.mem_cons_of_mem _ hx))
structure Prt (n : Nat) (aggs : List api_Agg) (t : api_Table) : Prop where
  n20 : n ≤ 20
  a20 : aggs.length ≤ 20
  i : In t
  c : colsS t.Cols = true
  r : ∀ r ∈ t.Rows, rowOk r t.Cols = true
  len : t.Cols.length = n + (kindsA aggs).length
  lay : layOk (kindsA aggs) (t.Cols.drop n)
theorem Prt.okg {n : Nat} {aggs : List api_Agg} {t : api_Table} (h : Prt n aggs t) : OkG n ((t.Cols.take n).map (·.Kind)) aggs t :=
  ⟨h.n20, h.a20, by have := colsS_len h.c; omega, h.i.l, fun r hr => good_of (h.r r hr) (h.i.wf r hr) h.len⟩
theorem Prt.grp {n : Nat} {aggs : List api_Agg} {t : api_Table} (h : Prt n aggs t) : (∀ g ∈ grpS n (kindsA aggs) t.Rows, rowOk g t.Cols = true ∧ ∀ v ∈ g, wfV v) ∧ (grpS n (kindsA aggs) t.Rows).length ≤ t.Rows.length := by
  have g := grpS_good (n := n) (ks := kindsA aggs) rfl h.okg.good
  have q := foldl_P (n := n) (ks := kindsA aggs) (P := fun r => rowOk r t.Cols = true) (fun a b ha hb => layR_rowOk h.lay ha hb) (rows := t.Rows) (G := []) (fun g hg => by cases hg) h.r
  exact ⟨fun x hx => ⟨q x hx, fun v hv => ((g.1 x hx).ok v hv).2⟩, g.2⟩
theorem Prt.of {n : Nat} {aggs : List api_Agg} {t u : api_Table} (h : Prt n aggs t) (hc : u.Cols = t.Cols) (hl : u.Rows.length ≤ 400) (hr : ∀ r ∈ u.Rows, rowOk r t.Cols = true ∧ ∀ v ∈ r, wfV v) : Prt n aggs u :=
  ⟨h.n20, h.a20, ⟨by rw [hc]; exact h.i.c, ⟨by omega, fun r hr' => by rw [rowOk_len (hr r hr').1]; have := colsS_len h.c; omega⟩, hl, fun r hr' => (hr r hr').2⟩, by rw [hc]; exact h.c, fun r hr' => by rw [hc]; exact (hr r hr').1, by rw [hc]; exact h.len, by rw [hc]; exact h.lay⟩
theorem Prt.tog {n : Nat} {aggs : List api_Agg} {t : api_Table} (h : Prt n aggs t) : Prt n aggs (togS n aggs t) ∧ (togS n aggs t).Rows.length ≤ t.Rows.length := by
  obtain ⟨g1, g2⟩ := h.grp
  have hl : (togS n aggs t).Rows.length = (grpS n (kindsA aggs) t.Rows).length := sortC_len _ _
  exact ⟨h.of rfl (by have := h.i.l; omega) (fun r hr => g1 r (mem_sortC.1 hr)), by omega⟩
theorem Prt.check {n : Nat} {aggs : List api_Agg} {t : api_Table} (h : Prt n aggs t) : checkS t = 0 := checkS_zero.2 ⟨h.c, h.r⟩
def rawS (t : api_Table) (names : List ByteArray) (aggs : List api_Agg) (p : List api_Col) : api_Table := ⟨p, t.Rows.map (partR t.Cols names aggs)⟩
def partS (t : api_Table) (names : List ByteArray) (aggs : List api_Agg) : api_Table × Int :=
  if checkS t ≠ 0 then (none2, checkS t) else match colsG t.Cols names aggs with
  | none => (none2, 1)
  | some (p, _) => (togS names.length aggs (rawS t names aggs p), 0)
theorem wf_one : wfV vOne := by
  constructor
  · constructor <;> decide
  · intro x hx
    simp only [vOne, Arr8.list, List.mem_cons, List.not_mem_nil, or_false, or_self] at hx
    subst hx
    constructor <;> decide
section
variable {t : api_Table} {names : List ByteArray} {aggs : List api_Agg}
theorem raw_prt {p w : List api_Col} (ht : In t) (hb : OkB names aggs) (hz : checkS t = 0) (h : colsG t.Cols names aggs = some (p, w)) : Prt names.length aggs (rawS t names aggs p) := by
  obtain ⟨h1, h2, h3, m, g1, g2, g3, g4, g5, g6⟩ := colsG_some h
  obtain ⟨e1, e2⟩ := colsG_len h
  obtain ⟨z1, z2⟩ := checkS_zero.1 hz
  have hp := colsS_len h2
  refine ⟨hb.nl, hb.al, ⟨⟨by show p.length < _; omega, fun c hc => ?_⟩, ⟨by show (t.Rows.map _).length < _; have := ht.l; simp; omega, fun r hr => ?_⟩, by show (t.Rows.map _).length ≤ _; have := ht.l; simpa using this, fun r hr v hv => ?_⟩, h2, fun r hr => ?_, e1, e2⟩
  · have h2' := h2
    unfold colsS at h2'
    rw [Bool.and_eq_true] at h2'
    have key : ∀ {l : List api_Col} {q : List api_Col} {i : Nat}, allFrom (colOk q) i l = true → ∀ c ∈ l, c.Name.size ≤ 24 := by
      intro l
      induction l with
      | nil => intro q i _ c hc; cases hc
      | cons d l ih =>
        intro q i h c hc
        simp only [allFrom, Bool.and_eq_true] at h
        rcases List.mem_cons.1 hc with rfl | hc
        · have := h.1
          unfold colOk at this
          simp only [Bool.and_eq_true] at this
          have hn := this.1.1
          unfold nameS at hn
          split at hn
          · cases hn
          · simp only [Bool.and_eq_true, decide_eq_true_eq] at hn; exact hn.2
        · exact ih h.2 c hc
    have := key h2'.1 c hc
    omega
  · obtain ⟨s, hs, rfl⟩ := List.mem_map.1 hr
    have := rowOk_len (partR_rowOk h (z2 s hs))
    omega
  · obtain ⟨s, hs, rfl⟩ := List.mem_map.1 hr
    rcases partR_mem (colsG_fnd h) (z2 s hs) v hv with hv | rfl
    · exact ht.wf s hs v hv
    · exact wf_one
  · obtain ⟨s, hs, rfl⟩ := List.mem_map.1 hr
    exact partR_rowOk h (z2 s hs)
theorem partial_eq (ht : In t) (hb : OkB names aggs) : group_Partial t names aggs = some (partS t names aggs) := by
  unfold group_Partial partS
  rw [check_eq ht.c ht.r, Option.bind_some]
  by_cases hz : checkS t = 0
  · rw [if_neg (by simp [hz]), if_neg (by simp [hz]), gcols_eq ht.c hb, Option.bind_some]
    cases h : colsG t.Cols names aggs with
    | none => rw [if_pos (by rfl)]; rfl
    | some pw =>
      obtain ⟨p, w⟩ := pw
      obtain ⟨z1, z2⟩ := checkS_zero.1 hz
      have hp := raw_prt ht hb hz h
      show group_Partial.l0 t names aggs (p, w, true) (((t.Rows.length : Int) - 0).toNat + 1) [] 0 = _
      rw [fuel_nat, show (0 : Int) = ((0 : Nat) : Int) from rfl, part_l0 (colsS_len z1) hb.nl hb.al (colsG_fnd h) (fun r hr => rowOk_len (z2 r hr)) ht.l _ 0 [] (Nat.zero_le _) (by omega) rfl, List.drop_zero, List.nil_append]
      rw [show (⟨(p, w, true).1, t.Rows.map (partR t.Cols names aggs)⟩ : api_Table) = rawS t names aggs p from rfl, tog_eq hp.okg]
      rfl
  · rw [if_pos (by simpa using hz), if_pos hz]; rfl
theorem partS_prt (ht : In t) (hb : OkB names aggs) (h : (partS t names aggs).2 = 0) : ∃ p w, checkS t = 0 ∧ colsG t.Cols names aggs = some (p, w) ∧ partS t names aggs = (togS names.length aggs (rawS t names aggs p), 0) ∧ Prt names.length aggs (partS t names aggs).1 := by
  unfold partS at h ⊢
  by_cases hz : checkS t = 0
  · rw [if_neg (by simp [hz])] at h ⊢
    cases hc : colsG t.Cols names aggs with
    | none => rw [hc] at h; cases h
    | some pw =>
      obtain ⟨p, w⟩ := pw
      exact ⟨p, w, hz, rfl, rfl, (raw_prt ht hb hz hc).tog.1⟩
  · rw [if_pos hz] at h; exact absurd h hz
end
end Go.Proofs.YtonfglmfdhljnaaGreatDoor.M
end
section
namespace Go.Proofs.YtonfglmfdhljnaaGreatDoor.M
open Go Go.Eng Go.Proofs Go.RowKit
set_option maxRecDepth 100000
set_option linter.unusedVariables false
set_option linter.unusedSimpArgs false
def wdA (a : api_Agg) : Nat := if a.Kind = 5 then 2 else 1
def stepC (acc : List api_Col) (a : api_Agg) (c : api_Col) : List api_Col := if a.Kind ≠ 1 ∧ findS acc a.Col < 0 then acc ++ [⟨a.Col, c.Kind⟩] else acc
def orgC : List api_Col → List api_Col → List api_Agg → Option (List api_Col)
  | acc, _, [] => some acc
  | _, [], _ :: _ => none
  | acc, c :: cs, a :: r => orgC (stepC acc a c) ((c :: cs).drop (wdA a)) r
theorem orgC_nil (acc rest : List api_Col) : orgC acc rest [] = some acc := by cases rest <;> rfl
def anyC (l : List api_Col) : List api_Col := if l = [] then [⟨⟨#[97, 110, 121]⟩, 1⟩] else l
def endO (parts : List api_Col) (names : List ByteArray) (aggs : List api_Agg) : Option (List api_Col) → Option (List api_Col × List api_Col)
  | none => none
  | some l => (colsG (anyC l) names aggs).bind fun pw => if pw.1 = parts then some (anyC l, pw.2) else none
theorem endO_eq (parts : List api_Col) (names : List ByteArray) (aggs : List api_Agg) (l : List api_Col) : endO parts names aggs (some l) = (colsG (anyC l) names aggs).bind fun pw => if pw.1 = parts then some (anyC l, pw.2) else none := rfl
def originS (parts : List api_Col) (names : List ByteArray) (aggs : List api_Agg) : Option (List api_Col × List api_Col) :=
  if parts.length < names.length then none else endO parts names aggs (orgC (parts.take names.length) (parts.drop names.length) aggs)
theorem eqC_l0 {a b : List api_Col} (hn : a.length < 4611686018427387904) (hl : a.length = b.length) : ∀ (fuel i : Nat), i ≤ a.length → a.length < i + fuel →
    slices_Equal_api_Col_api_Col.l0 a b fuel (i : Int) = some (decide (a.drop i = b.drop i))
  | 0, i, _, h => by omega
  | fuel + 1, i, h1, h2 => by
    rw [slices_Equal_api_Col_api_Col.l0]
    by_cases hi : i < a.length
    · obtain ⟨x, hx, ex⟩ := getE hi
      obtain ⟨y, hy, ey⟩ := getE (l := b) (i := i) (by omega)
      rw [if_pos (dlt hi), ix_of hx, Option.bind_some, ix_of hy, Option.bind_some, w64_nat i (by omega), eqC_l0 hn hl fuel (i + 1) (by omega) (by omega), ex, ey]
      by_cases h : x = y
      · rw [if_neg (by simp [h])]; simp [h]
      · rw [if_pos (by simp [h])]; simp [h]
    · rw [if_neg (dnl (by omega)), List.drop_of_length_le (by omega), List.drop_of_length_le (by omega)]
      simp
theorem eqC_eq {a b : List api_Col} (hn : a.length < 4611686018427387904) : slices_Equal_api_Col_api_Col a b = some (decide (a = b)) := by
  unfold slices_Equal_api_Col_api_Col
  by_cases hl : a.length = b.length
  · rw [if_neg (by simp; omega), fuel_nat, show (0 : Int) = ((0 : Nat) : Int) from rfl, eqC_l0 hn hl _ 0 (Nat.zero_le _) (by omega), List.drop_zero, List.drop_zero]
  · rw [if_pos (by simp; omega)]
    have : a ≠ b := fun h => hl (by rw [h])
    simp [this]
theorem stepC_len {acc : List api_Col} {a : api_Agg} {c : api_Col} : (stepC acc a c).length ≤ acc.length + 1 := by unfold stepC; split <;> simp
theorem stepC_ok {acc : List api_Col} {a : api_Agg} {c : api_Col} (h : okN acc) (ha : okA a) : okN (stepC acc a c) := by
  unfold stepC
  split
  · exact okN_app h fun d hd => by rw [List.mem_singleton.1 hd]; unfold okA at ha; show a.Col.size < _; omega
  · exact h
theorem anyC_ok {l : List api_Col} (h : l.length ≤ 100) (hn : okN l) : okCols (anyC l) := by
  unfold anyC
  split
  · exact ⟨by show 1 < _; decide, fun c hc => by rw [List.mem_singleton.1 hc]; show 3 < _; decide⟩
  · exact ⟨by omega, hn⟩
section
variable {parts : List api_Col} {names : List ByteArray} {aggs : List api_Agg}
def AnsO (o : Option (List api_Col × List api_Col)) (y : List api_Col × List api_Col × Bool) : Prop := match o with
  | some (l, w) => y = (l, w, true)
  | none => y.2.2 = false
theorem org_j3 (hb : OkB names aggs) {l : List api_Col} (hl : l.length ≤ 100) (hn : okN l) : ∃ y, (if ((l.length : Int) == 0) = true then group_origin.j3 parts names aggs [(⟨(⟨#[97, 110, 121]⟩ : ByteArray), 1⟩ : api_Col)] else group_origin.j3 parts names aggs l) = some y ∧ AnsO (endO parts names aggs (some l)) y := by
  have key : ∀ q : List api_Col, q = anyC l → ∃ y, group_origin.j3 parts names aggs q = some y ∧ AnsO (endO parts names aggs (some l)) y := by
    rintro q rfl
    unfold group_origin.j3
    rw [endO_eq, gcols_eq (anyC_ok hl hn) hb, Option.bind_some]
    cases h : colsG (anyC l) names aggs with
    | none => rw [if_neg (by decide)]; exact ⟨_, rfl, rfl⟩
    | some pw =>
      obtain ⟨p, w⟩ := pw
      have hp := colsS_len (colsG_some h).2.1
      rw [if_pos (by rfl), show (okG (some (p, w))).1 = p from rfl, eqC_eq (by omega), Option.bind_some]
      refine ⟨_, rfl, ?_⟩
      show AnsO (if p = parts then some (anyC l, w) else none) (anyC l, w, decide (p = parts))
      by_cases e : p = parts
      · rw [if_pos e]; simp [AnsO, e]
      · rw [if_neg e]; simp [AnsO, e]
  by_cases he : l = []
  · rw [if_pos (by simp [he])]
    exact key _ (by unfold anyC; rw [if_pos he])
  · have : l.length ≠ 0 := fun h => he (List.eq_nil_of_length_eq_zero h)
    rw [if_neg (by simp; exact he)]
    exact key _ (by unfold anyC; rw [if_neg he])
theorem org_l0 (hb : OkB names aggs) : ∀ (fuel i : Nat) (acc rest : List api_Col), i ≤ aggs.length → aggs.length < i + fuel → acc.length ≤ 30 + i → okN acc → rest.length ≤ 100 →
    ∃ y, group_origin.l0 parts names aggs fuel acc rest (i : Int) = some y ∧ AnsO (endO parts names aggs (orgC acc rest (aggs.drop i))) y
  | 0, i, _, _, _, h, _, _, _ => by omega
  | fuel + 1, i, acc, rest, h1, h2, h3, h4, h5 => by
    have al := hb.al
    rw [group_origin.l0]
    by_cases hi : i < aggs.length
    · obtain ⟨a, ha, ea⟩ := getE hi
      rw [if_pos (dlt hi), ix_of ha, Option.bind_some, ea]
      cases hr : rest with
      | nil => rw [if_pos (by simp)]; exact ⟨_, rfl, rfl⟩
      | cons c cs =>
        rw [hr] at h5
        rw [if_neg (by simp; omega), orgC]
        unfold group_origin.j1 group_origin.j2
        have tail : ∃ y, ((group_width a).bind fun y_321 => ((cut (c :: cs) (min (((c :: cs).length : Nat) : Int) y_321) (((c :: cs).length : Nat) : Int)).bind fun y_323 => (group_origin.l0 parts names aggs fuel (stepC acc a c) y_323 (IntKind.i64.wrap ((i : Int) + 1))))) = some y ∧ AnsO (endO parts names aggs (orgC (stepC acc a c) ((c :: cs).drop (wdA a)) (aggs.drop (i + 1)))) y := by
          rw [width_eq, Option.bind_some]
          have hw : (if a.Kind = 5 then (2 : Int) else 1) = ((wdA a : Nat) : Int) := by unfold wdA; split <;> rfl
          rw [hw, cut_of (by omega) (by omega) (by omega), Option.bind_some, w64_nat i (by omega)]
          have e : ((c :: cs).drop (min (((c :: cs).length : Nat) : Int) ((wdA a : Nat) : Int)).toNat).take ((((c :: cs).length : Nat) : Int).toNat - (min (((c :: cs).length : Nat) : Int) ((wdA a : Nat) : Int)).toNat) = (c :: cs).drop (wdA a) := by
            have e1 : (min (((c :: cs).length : Nat) : Int) ((wdA a : Nat) : Int)).toNat = min (c :: cs).length (wdA a) := by omega
            rw [e1, List.take_of_length_le (by simp)]
            rcases Nat.le_total (c :: cs).length (wdA a) with h | h
            · rw [Nat.min_eq_left h, List.drop_of_length_le (Nat.le_refl _), List.drop_of_length_le h]
            · rw [Nat.min_eq_right h]
          rw [e]
          exact org_l0 hb fuel (i + 1) _ _ (by omega) (by omega) (by have := stepC_len (acc := acc) (a := a) (c := c); omega) (stepC_ok h4 (hb.ok a (List.mem_of_getElem? ha))) (by simp only [List.length_drop]; omega)
        by_cases hk : a.Kind = 1
        · rw [if_neg (by simp [hk]), if_neg (by decide)]
          have e : stepC acc a c = acc := by unfold stepC; rw [if_neg (by simp [hk])]
          rw [e] at tail ⊢
          exact tail
        · rw [if_pos (by simpa using hk), find_eq (by omega), Option.bind_some]
          by_cases hf : findS acc a.Col < 0
          · have e : stepC acc a c = acc ++ [⟨a.Col, c.Kind⟩] := by unfold stepC; rw [if_pos ⟨hk, hf⟩]
            rw [if_pos (by simpa using hf), show ix (c :: cs) 0 = some c from rfl, Option.bind_some, apd_of (by simp; omega), Option.bind_some]
            rw [e] at tail ⊢
            exact tail
          · have e : stepC acc a c = acc := by unfold stepC; rw [if_neg (by simp [hf])]
            rw [if_neg (by simpa using hf)]
            rw [e] at tail ⊢
            exact tail
    · rw [if_neg (dnl (by omega)), List.drop_of_length_le (l := aggs) (by omega), orgC_nil]
      exact org_j3 hb (by omega) h4
theorem origin_eq (hb : OkB names aggs) (hp : parts.length ≤ 16) (hn : okN parts) : ∃ y, group_origin parts names aggs = some y ∧ AnsO (originS parts names aggs) y := by
  unfold group_origin originS
  by_cases h : parts.length < names.length
  · rw [if_pos (by simpa using h), if_pos h]; exact ⟨_, rfl, rfl⟩
  · rw [if_neg (by simpa using h), if_neg h, cut_of (by omega) (by omega) (by omega), Option.bind_some]
    have e1 : (parts.drop (0 : Int).toNat).take ((names.length : Int).toNat - (0 : Int).toNat) = parts.take names.length := by simp
    rw [e1, cloneC_eq (by simp; omega), Option.bind_some, cut_of (by omega) (by omega) (by omega), Option.bind_some]
    have e2 : (parts.drop (names.length : Int).toNat).take ((parts.length : Int).toNat - (names.length : Int).toNat) = parts.drop names.length := by
      rw [Int.toNat_natCast, Int.toNat_natCast, List.take_of_length_le (by simp)]
    rw [e2, fuel_nat, show (0 : Int) = ((0 : Nat) : Int) from rfl]
    have := org_l0 (parts := parts) hb (aggs.length + 1) 0 (parts.take names.length) (parts.drop names.length) (Nat.zero_le _) (by omega) (by simp; omega) (fun c hc => hn c (List.mem_of_mem_take hc)) (by simp; omega)
    rwa [List.drop_zero] at this
theorem endO_names {o : Option (List api_Col)} {l w : List api_Col} (h : endO parts names aggs o = some (l, w)) : (parts.take names.length).map (·.Name) = names ∧ colsG l names aggs = some (parts, w) := by
  cases o with
  | none => cases h
  | some q =>
    rw [endO_eq] at h
    cases hc : colsG (anyC q) names aggs with
    | none => rw [hc] at h; cases h
    | some pw =>
      obtain ⟨p, w'⟩ := pw
      rw [hc, Option.bind_some] at h
      dsimp only at h
      split at h
      · rename_i e
        simp only [Option.some.injEq, Prod.mk.injEq] at h
        obtain ⟨rfl, rfl⟩ := h
        subst e
        obtain ⟨_, _, _, m, _, _, _, _, _, g6⟩ := colsG_some hc
        refine ⟨?_, hc⟩
        rw [g6, List.take_append_of_le_length (by simp), List.take_of_length_le (by simp), List.map_map]
        have : ((fun c : api_Col => c.Name) ∘ colOf (anyC q)) = id := rfl
        rw [this, List.map_id]
      · cases h
theorem originS_some {l w : List api_Col} (h : originS parts names aggs = some (l, w)) : colsG l names aggs = some (parts, w) := by
  unfold originS at h
  split at h
  · cases h
  · exact (endO_names h).2
end
end Go.Proofs.YtonfglmfdhljnaaGreatDoor.M
end
section
namespace Go.Proofs.YtonfglmfdhljnaaGreatDoor.M
open Go Go.Eng Go.Proofs Go.RowKit
set_option maxRecDepth 100000
set_option linter.unusedVariables false
set_option linter.unusedSimpArgs false
def mergeS (t : api_Table) (names : List ByteArray) (aggs : List api_Agg) : api_Table × Int :=
  if checkS t ≠ 0 then (none2, checkS t) else match originS t.Cols names aggs with
  | none => (none2, 1)
  | some _ => (togS names.length aggs t, 0)
def finA : List api_Agg → List api_Value → List api_Value
  | [], _ => []
  | _ :: _, [] => []
  | a :: r, v :: vs => if a.Kind = 5 then (match vs with
    | c :: vs' => ⟨v.Kind, if c.N = 0 then 0 else IntKind.i64.wrap (v.N.tdiv c.N), v.S, v.H⟩ :: finA r vs'
    | [] => []) else v :: finA r vs
theorem finA_cons (a : api_Agg) (r : List api_Agg) (v : api_Value) (vs : List api_Value) : finA (a :: r) (v :: vs) = if a.Kind = 5 then (match vs with
    | c :: vs' => ⟨v.Kind, if c.N = 0 then 0 else IntKind.i64.wrap (v.N.tdiv c.N), v.S, v.H⟩ :: finA r vs'
    | [] => []) else v :: finA r vs := by rw [finA.eq_def]
def finR (n : Nat) (aggs : List api_Agg) (row : List api_Value) : List api_Value := row.take n ++ finA aggs (row.drop n)
def finishS (t : api_Table) (names : List ByteArray) (aggs : List api_Agg) : api_Table × Int :=
  if checkS t ≠ 0 then (none2, checkS t) else match originS t.Cols names aggs with
  | none => (none2, 1)
  | some (_, w) => (canonS ⟨w, t.Rows.map (finR names.length aggs)⟩, 0)
theorem finA_nil (vs : List api_Value) : finA [] vs = [] := by cases vs <;> rfl
section
variable {t : api_Table} {names : List ByteArray} {aggs : List api_Agg}
theorem colsS_okN {p : List api_Col} (h2 : colsS p = true) : okCols p := by
  have hl := colsS_len h2
  refine ⟨by omega, fun c hc => ?_⟩
  unfold colsS at h2
  rw [Bool.and_eq_true] at h2
  have key : ∀ {l : List api_Col} {q : List api_Col} {i : Nat}, allFrom (colOk q) i l = true → ∀ c ∈ l, c.Name.size ≤ 24 := by
    intro l
    induction l with
    | nil => intro q i _ c hc; cases hc
    | cons d l ih =>
      intro q i h c hc
      simp only [allFrom, Bool.and_eq_true] at h
      rcases List.mem_cons.1 hc with rfl | hc
      · have := h.1
        unfold colOk at this
        simp only [Bool.and_eq_true] at this
        have hn := this.1.1
        unfold nameS at hn
        split at hn
        · cases hn
        · simp only [Bool.and_eq_true, decide_eq_true_eq] at hn; exact hn.2
      · exact ih h.2 c hc
  have := key h2.1 c hc
  omega
theorem org_prt (ht : In t) (hb : OkB names aggs) (hz : checkS t = 0) {l w : List api_Col} (h : originS t.Cols names aggs = some (l, w)) : Prt names.length aggs t := by
  obtain ⟨z1, z2⟩ := checkS_zero.1 hz
  obtain ⟨e1, e2⟩ := colsG_len (originS_some h)
  exact ⟨hb.nl, hb.al, ht, z1, z2, e1, e2⟩
theorem merge_eq (ht : In t) (hb : OkB names aggs) : group_Merge t names aggs = some (mergeS t names aggs) := by
  unfold group_Merge mergeS
  rw [check_eq ht.c ht.r, Option.bind_some]
  by_cases hz : checkS t = 0
  · obtain ⟨y, y1, y2⟩ := origin_eq (parts := t.Cols) hb (colsS_len (checkS_zero.1 hz).1) ht.c.2
    rw [if_neg (by simp [hz]), if_neg (by simp [hz]), y1, Option.bind_some]
    cases h : originS t.Cols names aggs with
    | none =>
      rw [h] at y2
      have e : y.2.2 = false := y2
      rw [if_pos (by simp [e])]; rfl
    | some lw =>
      obtain ⟨l, w⟩ := lw
      rw [h] at y2
      have e : y = (l, w, true) := y2
      rw [if_neg (by simp [e]), tog_eq (org_prt ht hb hz h).okg]; rfl
  · rw [if_pos (by simpa using hz), if_pos hz]; rfl
theorem finA_len : ∀ {aggs : List api_Agg} {vs : List api_Value}, vs.length = (kindsA aggs).length → (finA aggs vs).length = aggs.length
  | [], vs, _ => by rw [finA_nil]; rfl
  | a :: r, [], h => by rw [kindsA_cons] at h; split at h <;> simp at h
  | a :: r, v :: vs, h => by
    rw [kindsA_cons] at h
    rw [finA_cons]
    by_cases h5 : a.Kind = 5
    · rw [if_pos h5] at h ⊢
      cases vs with
      | nil => simp at h
      | cons c vs => simp at h; simp [finA_len (aggs := r) (vs := vs) (by omega)]
    · rw [if_neg h5] at h ⊢
      simp at h; simp [finA_len (aggs := r) (vs := vs) (by omega)]
theorem fin_l1 {kl : List (List api_Value) → Int → Option (api_Table × Int)} {out : List (List api_Value)} {x : Nat} (hg : aggs.length ≤ 20) (ho : out.length ≤ 1000) (hx : x ≤ 1000) : ∀ (fuel i : Nat) (cur rest : List api_Value), i ≤ aggs.length → aggs.length < i + fuel → cur.length ≤ 20 + i → rest.length = (kindsA (aggs.drop i)).length →
    group_Finish.l1 kl t aggs out (x : Int) fuel cur rest (i : Int) = kl (out ++ [cur ++ finA (aggs.drop i) rest]) ((x + 1 : Nat) : Int)
  | 0, i, _, _, _, h, _, _ => by omega
  | fuel + 1, i, cur, rest, h1, h2, h3, h4 => by
    rw [group_Finish.l1]
    by_cases hi : i < aggs.length
    · obtain ⟨a, ha, ea⟩ := getE hi
      rw [ea, kindsA_cons] at h4
      rw [if_pos (dlt hi), ix_of ha, Option.bind_some, ea]
      cases hr : rest with
      | nil => rw [hr] at h4; split at h4 <;> simp at h4
      | cons v vs =>
        rw [hr] at h4
        have hk2 := kindsA_len (aggs.drop (i + 1))
        have hdl : (aggs.drop (i + 1)).length ≤ 20 := by simp; omega
        rw [show ix (v :: vs) 0 = some v from rfl, Option.bind_some, finA_cons]
        unfold group_Finish.j3 group_Finish.j2
        by_cases h5 : a.Kind = 5
        · rw [if_pos h5] at h4 ⊢
          rw [if_pos (by simpa using h5)]
          cases hvs : vs with
          | nil => rw [hvs] at h4; simp at h4
          | cons c vs' =>
            rw [hvs] at h4
            simp only [List.length_cons, List.length_append, List.length_nil] at h4
            rw [show ix (v :: c :: vs') 1 = some c from rfl, Option.bind_some, width_eq, if_pos h5]
            have ec : cut (v :: c :: vs') 2 (((v :: c :: vs').length : Nat) : Int) = some vs' := by
              rw [cut_of (by omega) (by simp; omega) (by omega)]
              congr 1
              show vs'.take _ = vs'
              rw [List.take_of_length_le (by simp; omega)]
            have tail : ∀ N : Int, ((apd 96 cur [(⟨v.Kind, N, v.S, v.H⟩ : api_Value)]).bind fun y_972 => ((some (2 : Int)).bind fun y_978 => ((cut (v :: c :: vs') y_978 (((v :: c :: vs').length : Nat) : Int)).bind fun y_980 => (group_Finish.l1 kl t aggs out (x : Int) fuel y_972 y_980 (IntKind.i64.wrap ((i : Int) + 1)))))) = kl (out ++ [cur ++ (⟨v.Kind, N, v.S, v.H⟩ :: finA (aggs.drop (i + 1)) vs')]) ((x + 1 : Nat) : Int) := by
              intro N
              rw [apd_of (by simp; omega), Option.bind_some, Option.bind_some, ec, Option.bind_some, w64_nat i (by omega), fin_l1 hg ho hx fuel (i + 1) _ _ (by omega) (by omega) (by simp; omega) (by omega)]
              simp
            dsimp only
            by_cases hN : c.N = 0
            · rw [if_pos (by simpa using hN), if_pos hN]
              exact tail 0
            · rw [if_neg (by simpa using hN), if_pos (by simpa using hN), if_neg hN]
              exact tail _
        · rw [if_neg h5] at h4 ⊢
          simp only [List.length_cons, List.length_append, List.length_nil] at h4
          have ec : cut (v :: vs) 1 (((v :: vs).length : Nat) : Int) = some vs := by
            rw [cut_of (by omega) (by simp; omega) (by omega)]
            congr 1
            show vs.take _ = vs
            rw [List.take_of_length_le (by simp)]
          rw [if_neg (by simpa using h5), apd_of (by simp; omega), Option.bind_some, width_eq, if_neg h5, Option.bind_some, ec, Option.bind_some, w64_nat i (by omega), fin_l1 hg ho hx fuel (i + 1) _ _ (by omega) (by omega) (by simp; omega) (by omega)]
          simp
    · rw [if_neg (dnl (by omega)), List.drop_of_length_le (by omega), finA_nil, apd_of (by simp; omega), Option.bind_some, w64_nat x (by omega)]
      simp
theorem fin_l0 {y : List api_Col × List api_Col × Bool} (h : Prt names.length aggs t) : ∀ (fuel i : Nat) (out : List (List api_Value)), i ≤ t.Rows.length → t.Rows.length < i + fuel → out.length = i →
    group_Finish.l0 t names aggs y fuel out (i : Int) = (table_Canon ⟨y.2.1, out ++ (t.Rows.drop i).map (finR names.length aggs)⟩).bind fun z => some (z, 0)
  | 0, i, _, _, h, _ => by omega
  | fuel + 1, i, out, h1, h2, h3 => by
    have hl := h.i.l
    rw [group_Finish.l0]
    by_cases hi : i < t.Rows.length
    · obtain ⟨r, hr, er⟩ := getE hi
      have hrl : r.length = names.length + (kindsA aggs).length := by rw [rowOk_len (h.r r (List.mem_of_getElem? hr)), h.len]
      have h20 := h.n20
      have e1 : (r.drop (0 : Int).toNat).take ((names.length : Int).toNat - (0 : Int).toNat) = r.take names.length := by simp
      have e2 : (r.drop (names.length : Int).toNat).take ((r.length : Int).toNat - (names.length : Int).toNat) = r.drop names.length := by
        rw [Int.toNat_natCast, Int.toNat_natCast, List.take_of_length_le (by simp)]
      rw [if_pos (dlt hi), ix_of hr, Option.bind_some, cut_of (by omega) (by omega) (by omega), Option.bind_some, e1, cut_of (by omega) (by omega) (by omega), Option.bind_some, e2, clone_eq (by simp; omega), Option.bind_some, fuel_nat, show (0 : Int) = ((0 : Nat) : Int) from rfl,
        fin_l1 h.a20 (by omega) (by omega) _ 0 _ _ (Nat.zero_le _) (by omega) (by simp; omega) (by rw [List.drop_zero]; simp; omega), fin_l0 h fuel (i + 1) _ (by omega) (by omega) (by simp; omega), er, List.drop_zero]
      simp [finR]
    · rw [if_neg (dnl (by omega)), List.drop_of_length_le (by omega)]
      simp
theorem finA_S : ∀ {aggs : List api_Agg} {vs : List api_Value}, (∀ v ∈ vs, v.S.size ≤ 64) → ∀ v ∈ finA aggs vs, v.S.size ≤ 64
  | [], vs, _, v, h => by rw [finA_nil] at h; cases h
  | a :: r, [], _, v, h => by cases h
  | a :: r, x :: vs, hv, v, h => by
    rw [finA_cons] at h
    split at h
    · cases vs with
      | nil => cases h
      | cons c vs =>
        rcases List.mem_cons.1 h with rfl | h
        · exact hv x (List.mem_cons_self ..)
        · exact finA_S (fun y hy => hv y (List.mem_cons_of_mem _ (List.mem_cons_of_mem _ hy))) v h
    · rcases List.mem_cons.1 h with rfl | h
      · exact hv v (List.mem_cons_self ..)
      · exact finA_S (fun y hy => hv y (List.mem_cons_of_mem _ hy)) v h
theorem fin_row (h : Prt names.length aggs t) {r : List api_Value} (hr : r ∈ t.Rows) : (finR names.length aggs r).length = names.length + aggs.length ∧ ∀ v ∈ finR names.length aggs r, v.S.size ≤ 64 := by
  have hrl : r.length = names.length + (kindsA aggs).length := by rw [rowOk_len (h.r r hr), h.len]
  obtain ⟨g1, _⟩ := rowOk_all (h.r r hr)
  unfold finR
  refine ⟨?_, fun v hv => ?_⟩
  · rw [List.length_append, finA_len (by simp; omega)]; simp; omega
  · rcases List.mem_append.1 hv with hv | hv
    · exact valid_size (g1 v (List.mem_of_mem_take hv))
    · exact finA_S (fun y hy => valid_size (g1 y (List.mem_of_mem_drop hy))) v hv
theorem fin_sz (h : Prt names.length aggs t) : Sz (t.Rows.map (finR names.length aggs)) := by
  have hl := h.i.l; have h1 := h.n20; have h2 := h.a20
  refine ⟨by rw [List.length_map]; omega, fun r hr => ?_⟩
  obtain ⟨s, hs, rfl⟩ := List.mem_map.1 hr
  obtain ⟨f1, f2⟩ := fin_row h hs
  exact ⟨by omega, fun v hv => by have := f2 v hv; unfold okV; omega⟩
theorem finish_eq (ht : In t) (hb : OkB names aggs) : group_Finish t names aggs = some (finishS t names aggs) := by
  unfold group_Finish finishS
  rw [check_eq ht.c ht.r, Option.bind_some]
  by_cases hz : checkS t = 0
  · obtain ⟨y, y1, y2⟩ := origin_eq (parts := t.Cols) hb (colsS_len (checkS_zero.1 hz).1) ht.c.2
    rw [if_neg (by simp [hz]), if_neg (by simp [hz]), y1, Option.bind_some]
    cases h : originS t.Cols names aggs with
    | none =>
      rw [h] at y2
      have e : y.2.2 = false := y2
      rw [if_pos (by simp [e])]; rfl
    | some lw =>
      obtain ⟨l, w⟩ := lw
      rw [h] at y2
      have e : y = (l, w, true) := y2
      have hp := org_prt ht hb hz h
      have hw := colsS_len (colsG_some (originS_some h)).2.2.1
      have hl := ht.l; have h1 := hb.nl; have h2 := hb.al
      subst e
      have hcan : table_Canon ⟨w, t.Rows.map (finR names.length aggs)⟩ = some (canonS ⟨w, t.Rows.map (finR names.length aggs)⟩) := by
        refine canon_eq' ?_ (fin_sz hp).1 ?_
        · show w.length * 24 ≤ _; omega
        · intro r hr
          obtain ⟨s, hs, rfl⟩ := List.mem_map.1 hr
          have := (fin_row hp hs).1
          omega
      have e1 := fin_l0 (y := (l, w, true)) hp (t.Rows.length + 1) 0 [] (Nat.zero_le _) (by omega) rfl
      rw [List.drop_zero, List.nil_append] at e1
      rw [if_neg (show ¬ (!true) = true by decide), fuel_nat]
      refine Eq.trans e1 ?_
      rw [hcan]; rfl
  · rw [if_pos (by simpa using hz), if_pos hz]; rfl
def groupS (t : api_Table) (names : List ByteArray) (aggs : List api_Agg) : api_Table × Int :=
  if (partS t names aggs).2 ≠ 0 then (none2, (partS t names aggs).2) else if (mergeS (partS t names aggs).1 names aggs).2 ≠ 0 then (none2, (mergeS (partS t names aggs).1 names aggs).2)
  else if (finishS (mergeS (partS t names aggs).1 names aggs).1 names aggs).2 ≠ 0 then (none2, (finishS (mergeS (partS t names aggs).1 names aggs).1 names aggs).2) else finishS (mergeS (partS t names aggs).1 names aggs).1 names aggs
theorem mergeS_prt (ht : In t) (hb : OkB names aggs) (h : (mergeS t names aggs).2 = 0) : mergeS t names aggs = (togS names.length aggs t, 0) ∧ Prt names.length aggs t ∧ Prt names.length aggs (mergeS t names aggs).1 := by
  unfold mergeS at h ⊢
  by_cases hz : checkS t = 0
  · rw [if_neg (by simp [hz])] at h ⊢
    cases ho : originS t.Cols names aggs with
    | none => rw [ho] at h; cases h
    | some lw =>
      have hp := org_prt ht hb hz ho
      exact ⟨rfl, hp, hp.tog.1⟩
  · rw [if_pos hz] at h; exact absurd h hz
theorem group_eq (ht : In t) (hb : OkB names aggs) : group_Group t names aggs = some (groupS t names aggs) := by
  unfold group_Group groupS
  rw [show ((3 : Int) - 0).toNat + 1 = 0 + 1 + 1 + 1 + 1 from rfl, group_Group.l0, if_pos (by decide), if_pos (by decide), show (⟨t.Cols, t.Rows⟩ : api_Table) = t from rfl, partial_eq ht hb, Option.bind_some]
  by_cases h1 : (partS t names aggs).2 = 0
  · obtain ⟨p, w, _, _, _, hp⟩ := partS_prt ht hb h1
    rw [if_neg (by simp [h1]), if_neg (by simp [h1]), show IntKind.i64.wrap ((0 : Int) + 1) = 1 from by decide, group_Group.l0, if_pos (by decide), if_neg (by decide), if_pos (by decide)]
    rw [show (⟨(partS t names aggs).1.Cols, (partS t names aggs).1.Rows⟩ : api_Table) = (partS t names aggs).1 from rfl, merge_eq hp.i hb, Option.bind_some]
    by_cases h2 : (mergeS (partS t names aggs).1 names aggs).2 = 0
    · obtain ⟨_, _, hq⟩ := mergeS_prt hp.i hb h2
      rw [if_neg (by simp [h2]), if_neg (by simp [h2]), show IntKind.i64.wrap ((1 : Int) + 1) = 2 from by decide, group_Group.l0, if_pos (by decide), if_neg (by decide), if_neg (by decide), if_pos (by decide)]
      rw [show (⟨(mergeS (partS t names aggs).1 names aggs).1.Cols, (mergeS (partS t names aggs).1 names aggs).1.Rows⟩ : api_Table) = (mergeS (partS t names aggs).1 names aggs).1 from rfl, finish_eq hq.i hb, Option.bind_some]
      by_cases h3 : (finishS (mergeS (partS t names aggs).1 names aggs).1 names aggs).2 = 0
      · rw [if_neg (by simp [h3]), if_neg (by simp [h3]), show IntKind.i64.wrap ((2 : Int) + 1) = 3 from by decide, group_Group.l0, if_neg (by decide)]
        have : finishS (mergeS (partS t names aggs).1 names aggs).1 names aggs = ((finishS (mergeS (partS t names aggs).1 names aggs).1 names aggs).1, 0) := Prod.ext rfl h3
        rw [this]
      · rw [if_pos (by simpa using h3), if_pos h3]; rfl
    · rw [if_pos (by simpa using h2), if_pos h2]; rfl
  · rw [if_pos (by simpa using h1), if_pos h1]; rfl
theorem finishS_bad (h : (finishS t names aggs).2 ≠ 0) : (finishS t names aggs).1 = none2 := by
  unfold finishS at h ⊢
  by_cases hz : checkS t = 0
  · rw [if_neg (by simp [hz])] at h ⊢
    cases ho : originS t.Cols names aggs with
    | none => rfl
    | some lw => rw [ho] at h; exact absurd rfl h
  · rw [if_pos hz]
theorem finishS_sz (ht : In t) (hb : OkB names aggs) : (finishS t names aggs).1.Cols.length < 4611686018427387904 ∧ Sz (finishS t names aggs).1.Rows := by
  by_cases h : (finishS t names aggs).2 = 0
  · unfold finishS at h ⊢
    by_cases hz : checkS t = 0
    · rw [if_neg (by simp [hz])] at h ⊢
      cases ho : originS t.Cols names aggs with
      | none => rw [ho] at h; cases h
      | some lw =>
        obtain ⟨l, w⟩ := lw
        have hw := colsS_len (colsG_some (originS_some ho)).2.2.1
        have hs := fin_sz (org_prt ht hb hz ho)
        refine ⟨by show w.length < _; omega, ?_, fun r hr => hs.2 r (mem_sortC.1 hr)⟩
        show (sortC cmpR _).length * 24 ≤ _
        rw [sortC_len]; exact hs.1
    · rw [if_pos hz] at h; exact absurd h hz
  · rw [finishS_bad h]
    exact ⟨by show 0 < _; decide, by show 0 * 24 ≤ _; decide, fun r hr => by cases hr⟩
theorem none2_sz : none2.Cols.length < 4611686018427387904 ∧ Sz none2.Rows := ⟨by show 0 < _; decide, by show 0 * 24 ≤ _; decide, fun r hr => by cases hr⟩
theorem groupS_sz (ht : In t) (hb : OkB names aggs) : (groupS t names aggs).1.Cols.length < 4611686018427387904 ∧ Sz (groupS t names aggs).1.Rows := by
  unfold groupS
  split
  · exact none2_sz
  · rename_i h1
    have h1' : (partS t names aggs).2 = 0 := by omega
    obtain ⟨p, w, _, _, _, hp⟩ := partS_prt ht hb h1'
    split
    · exact none2_sz
    · rename_i h2
      have h2' : (mergeS (partS t names aggs).1 names aggs).2 = 0 := by omega
      obtain ⟨_, _, hq⟩ := mergeS_prt hp.i hb h2'
      split
      · exact none2_sz
      · exact finishS_sz hq.i hb
end
end Go.Proofs.YtonfglmfdhljnaaGreatDoor.M
end
section
namespace Go.Proofs.YtonfglmfdhljnaaGreatDoor.M
open Go Go.Eng Go.Proofs Go.RowKit
set_option maxRecDepth 100000
set_option linter.unusedVariables false
set_option linter.unusedSimpArgs false
def isortS (t : api_Table) : api_Table := ⟨t.Cols, isortC cmpR t.Rows⟩
theorem canonI (t : api_Table) : canonS t = isortS t := by unfold canonS isortS; rw [sortC_isort cmpR_cmp cmpR_zero]
def togI (n : Nat) (aggs : List api_Agg) (t : api_Table) : api_Table := isortS ⟨t.Cols, grpS n (kindsA aggs) t.Rows⟩
theorem togI_eq (n : Nat) (aggs : List api_Agg) (t : api_Table) : togS n aggs t = togI n aggs t := canonI _
def partI (t : api_Table) (names : List ByteArray) (aggs : List api_Agg) : api_Table × Int :=
  if checkS t ≠ 0 then (none2, checkS t) else match colsG t.Cols names aggs with
  | none => (none2, 1)
  | some (p, _) => (togI names.length aggs (rawS t names aggs p), 0)
theorem partI_eq (t : api_Table) (names : List ByteArray) (aggs : List api_Agg) : partS t names aggs = partI t names aggs := by
  unfold partS partI
  cases colsG t.Cols names aggs with
  | none => rfl
  | some pw => simp only [togI_eq]
def mergeI (t : api_Table) (names : List ByteArray) (aggs : List api_Agg) : api_Table × Int :=
  if checkS t ≠ 0 then (none2, checkS t) else match originS t.Cols names aggs with
  | none => (none2, 1)
  | some _ => (togI names.length aggs t, 0)
theorem mergeI_eq (t : api_Table) (names : List ByteArray) (aggs : List api_Agg) : mergeS t names aggs = mergeI t names aggs := by
  unfold mergeS mergeI
  cases originS t.Cols names aggs with
  | none => rfl
  | some pw => simp only [togI_eq]
def finishI (t : api_Table) (names : List ByteArray) (aggs : List api_Agg) : api_Table × Int :=
  if checkS t ≠ 0 then (none2, checkS t) else match originS t.Cols names aggs with
  | none => (none2, 1)
  | some (_, w) => (isortS ⟨w, t.Rows.map (finR names.length aggs)⟩, 0)
theorem finishI_eq (t : api_Table) (names : List ByteArray) (aggs : List api_Agg) : finishS t names aggs = finishI t names aggs := by
  unfold finishS finishI
  cases originS t.Cols names aggs with
  | none => rfl
  | some pw => simp only [canonI]
def groupI (t : api_Table) (names : List ByteArray) (aggs : List api_Agg) : api_Table × Int :=
  if (partI t names aggs).2 ≠ 0 then (none2, (partI t names aggs).2) else if (mergeI (partI t names aggs).1 names aggs).2 ≠ 0 then (none2, (mergeI (partI t names aggs).1 names aggs).2)
  else if (finishI (mergeI (partI t names aggs).1 names aggs).1 names aggs).2 ≠ 0 then (none2, (finishI (mergeI (partI t names aggs).1 names aggs).1 names aggs).2) else finishI (mergeI (partI t names aggs).1 names aggs).1 names aggs
theorem groupI_eq (t : api_Table) (names : List ByteArray) (aggs : List api_Agg) : groupS t names aggs = groupI t names aggs := by
  unfold groupS groupI
  simp only [partI_eq, mergeI_eq, finishI_eq]
def nK : ByteArray := ⟨#[107]⟩
def nN : ByteArray := ⟨#[110]⟩
def iv (n : Int) : api_Value := ⟨1, n, ⟨#[]⟩, ⟨0, 0, 0, 0, 0, 0, 0, 0⟩⟩
def sv (c : UInt8) : api_Value := ⟨2, 0, ⟨#[c]⟩, ⟨0, 0, 0, 0, 0, 0, 0, 0⟩⟩
def tP : api_Table := ⟨[⟨nK, 2⟩, ⟨nN, 1⟩], [[sv 97, iv 1], [sv 97, iv 4], [sv 98, iv 7]]⟩
def tQ : api_Table := ⟨[⟨nK, 2⟩, ⟨nN, 1⟩], []⟩
def wfB (t : api_Table) : Bool := t.Rows.all fun r => r.all fun v => decide (-9223372036854775808 ≤ v.N ∧ v.N ≤ 9223372036854775807) && v.H.list.all fun x => decide (-9223372036854775808 ≤ x ∧ x ≤ 9223372036854775807)
theorem in_of {t : api_Table} (hz : checkS t = 0) (hl : t.Rows.length ≤ 400) (hw : wfB t = true) : In t := by
  obtain ⟨z1, z2⟩ := checkS_zero.1 hz
  refine ⟨colsS_okN z1, ⟨by omega, fun r hr => by have := rowOk_len (z2 r hr); have := colsS_len z1; omega⟩, hl, fun r hr v hv => ?_⟩
  simp only [wfB, List.all_eq_true, Bool.and_eq_true, decide_eq_true_eq] at hw
  obtain ⟨h1, h2⟩ := hw r hr v hv
  exact ⟨h1, h2⟩
theorem shown_eq : law18_shown = some true := by
  have iP : In tP := in_of (by decide +kernel) (by decide) (by decide +kernel)
  have iQ : In tQ := in_of (by decide +kernel) (by decide) (by decide +kernel)
  have e1 : law18_pairs (⟨#[97, 97, 98]⟩ : ByteArray) [1, 4, 7] = some tP := by decide +kernel
  have e2 : law18_pairs (⟨#[]⟩ : ByteArray) ([] : List Int) = some tQ := by decide +kernel
  have b1 : OkB [(⟨#[107]⟩ : ByteArray)] [(⟨1, (⟨#[]⟩ : ByteArray)⟩ : api_Agg), (⟨2, (⟨#[110]⟩ : ByteArray)⟩ : api_Agg), (⟨5, (⟨#[110]⟩ : ByteArray)⟩ : api_Agg)] := ⟨by decide, by decide, by decide +kernel, by unfold okA; decide +kernel⟩
  have b2 : OkB [(⟨#[107]⟩ : ByteArray)] [(⟨5, (⟨#[110]⟩ : ByteArray)⟩ : api_Agg)] := ⟨by decide, by decide, by decide +kernel, by unfold okA; decide +kernel⟩
  have b3 : OkB ([] : List ByteArray) [(⟨4, (⟨#[110]⟩ : ByteArray)⟩ : api_Agg)] := ⟨by decide, by decide, by decide +kernel, by unfold okA; decide +kernel⟩
  have b4 : OkB [(⟨#[107]⟩ : ByteArray)] [(⟨1, (⟨#[]⟩ : ByteArray)⟩ : api_Agg)] := ⟨by decide, by decide, by decide +kernel, by unfold okA; decide +kernel⟩
  have b5 : OkB [(⟨#[120]⟩ : ByteArray)] [(⟨1, (⟨#[]⟩ : ByteArray)⟩ : api_Agg)] := ⟨by decide, by decide, by decide +kernel, by unfold okA; decide +kernel⟩
  unfold law18_shown
  rw [e1, Option.bind_some, group_eq iP b1, Option.bind_some, partial_eq iP b2, Option.bind_some, group_eq iP b3, Option.bind_some, e2, Option.bind_some, group_eq iQ b4, Option.bind_some, group_eq iP b5, Option.bind_some]
  simp only [groupI_eq, partI_eq]
  decide +kernel
def cutS (t : api_Table) : api_Table := ⟨t.Cols, t.Rows.take 60⟩
theorem cut_eq' (t : api_Table) : law18_cut t = some (cutS t) := by
  unfold law18_cut cutS
  by_cases h : t.Rows.length > 60
  · rw [if_pos (by simp; omega), cut_of (by omega) (by omega) (by omega), Option.bind_some]; rfl
  · rw [if_neg (by simp; omega), List.take_of_length_le (by omega)]
theorem wf_of {v : api_Value} (h : ok_api_Value v) : wfV v := by
  obtain ⟨h1, h2, h3, h4⟩ := h
  exact ⟨i64_range h2, fun x hx => i64_range (h4 x hx)⟩
theorem cut_in {t : api_Table} (h : ok_api_Table t) : In (cutS t) := by
  have hs := szT_of h
  refine ⟨hs.cols, ⟨by show (t.Rows.take 60).length < _; simp; omega, fun r hr => ?_⟩, by show (t.Rows.take 60).length ≤ _; simp; omega, fun r hr v hv => ?_⟩
  · have := hs.w r (List.mem_of_mem_take hr); omega
  · exact wf_of ((h.2.2 r (List.mem_of_mem_take hr)).2 v hv)
end Go.Proofs.YtonfglmfdhljnaaGreatDoor.M
end
section
namespace Go.Proofs.YtonfglmfdhljnaaGreatDoor.M
open Go Go.Eng Go.Proofs Go.RowKit
set_option maxRecDepth 100000
set_option linter.unusedVariables false
set_option linter.unusedSimpArgs false
theorem allFrom_mem {α : Type} {p : Nat → α → Bool} : ∀ {l : List α} {i : Nat}, allFrom p i l = true → ∀ x ∈ l, ∃ j, p j x = true
  | [], _, _, x, hx => by cases hx
  | y :: l, i, h, x, hx => by
    simp only [allFrom, Bool.and_eq_true] at h
    rcases List.mem_cons.1 hx with rfl | hx
    · exact ⟨i, h.1⟩
    · exact allFrom_mem h.2 x hx
theorem findS_mem {cols : List api_Col} {c : api_Col} (h : c ∈ cols) : 0 ≤ findS cols c.Name := by
  have h1 := (findS_ge cols c.Name).1
  by_cases h2 : findS cols c.Name = -1
  · exact absurd rfl (findS_none.1 h2 c h)
  · omega
theorem findS_get {cols : List api_Col} {n : ByteArray} (h : 0 ≤ findS cols n) : ∃ (i : Nat) (c : api_Col), findS cols n = (i : Int) ∧ cols[i]? = some c ∧ c.Name = n := by
  obtain ⟨i, c, h1, h2, h3, _⟩ := findS_some h
  exact ⟨i, c, h1, h2, h3⟩
theorem allFrom_of {α : Type} {p : Nat → α → Bool} : ∀ {xs : List α} {i : Nat}, (∀ (j : Nat) x, xs[j]? = some x → p (i + j) x = true) → allFrom p i xs = true
  | [], _, _ => rfl
  | x :: r, i, h => by
    simp only [allFrom, Bool.and_eq_true]
    exact ⟨h 0 x rfl, allFrom_of fun j y hy => by have := h (j + 1) y (by simpa using hy); rwa [show i + 1 + j = i + (j + 1) by omega]⟩
theorem allFrom_get {α : Type} {p : Nat → α → Bool} : ∀ {xs : List α} {i : Nat}, allFrom p i xs = true → ∀ (j : Nat) x, xs[j]? = some x → p (i + j) x = true
  | [], _, _, j, x, hx => by simp at hx
  | y :: r, i, h, j, x, hx => by
    simp only [allFrom, Bool.and_eq_true] at h
    cases j with
    | zero => simp at hx; subst hx; exact h.1
    | succ j =>
      have := allFrom_get h.2 j x (by simpa using hx)
      rwa [show i + (j + 1) = i + 1 + j by omega]
theorem cols_find {cols : List api_Col} (h : colsS cols = true) {i : Nat} {c : api_Col} (hc : cols[i]? = some c) : findS cols c.Name = (i : Int) := by
  unfold colsS at h
  rw [Bool.and_eq_true] at h
  have := allFrom_get h.1 i c hc
  unfold colOk at this
  simp only [Bool.and_eq_true, decide_eq_true_eq, Nat.zero_add] at this
  exact this.2
def names (cols : List api_Col) : List ByteArray := cols.map (·.Name)
theorem nodup_find : ∀ {cols : List api_Col} {i : Nat} {c : api_Col}, (names cols).Nodup → cols[i]? = some c → findS cols c.Name = (i : Int)
  | [], _, _, _, h => by simp at h
  | d :: cols, i, c, hn, h => by
    unfold names at hn
    rw [List.map_cons, List.nodup_cons] at hn
    rw [findS_cons]
    cases i with
    | zero =>
      simp only [List.getElem?_cons_zero, Option.some.injEq] at h
      rw [if_pos (by rw [h])]; rfl
    | succ i =>
      have hc : cols[i]? = some c := by simpa using h
      have ih := nodup_find (cols := cols) hn.2 hc
      rw [if_neg (fun e => hn.1 (by rw [e]; exact List.mem_map_of_mem (List.mem_of_getElem? hc))), ih, if_neg (by omega)]
      omega
theorem names_nodup : ∀ {cols : List api_Col}, (∀ (i : Nat) c, cols[i]? = some c → findS cols c.Name = (i : Int)) → (names cols).Nodup := by
  intro cols h
  unfold names
  rw [List.Nodup, List.pairwise_map, List.pairwise_iff_getElem]
  intro i j hi hj hij e
  have h1 := h i _ (List.getElem?_eq_getElem hi)
  have h2 := h j _ (List.getElem?_eq_getElem hj)
  rw [e, h2] at h1
  omega
theorem colsS_iff {cols : List api_Col} : colsS cols = true ↔ (∀ c ∈ cols, nameS c.Name = true ∧ 1 ≤ c.Kind ∧ c.Kind ≤ 4) ∧ (names cols).Nodup ∧ 1 ≤ cols.length ∧ cols.length ≤ 16 := by
  constructor
  · intro h
    refine ⟨fun c hc => ?_, names_nodup fun i c hc => cols_find h hc, ?_⟩
    · unfold colsS at h
      rw [Bool.and_eq_true] at h
      obtain ⟨j, hj⟩ := allFrom_mem h.1 c hc
      unfold colOk at hj
      simp only [Bool.and_eq_true, decide_eq_true_eq] at hj
      exact ⟨hj.1.1, hj.1.2⟩
    · unfold colsS at h
      rw [Bool.and_eq_true] at h
      simpa using h.2
  · rintro ⟨h1, h2, h3⟩
    unfold colsS
    rw [Bool.and_eq_true]
    refine ⟨allFrom_of fun j c hc => ?_, by simpa using h3⟩
    unfold colOk
    simp only [Bool.and_eq_true, decide_eq_true_eq, Nat.zero_add]
    exact ⟨h1 c (List.mem_of_getElem? hc), nodup_find h2 hc⟩
theorem find_mem {cols : List api_Col} {n : ByteArray} : 0 ≤ findS cols n ↔ n ∈ names cols := by
  unfold names
  rw [List.mem_map]
  constructor
  · intro h
    obtain ⟨i, c, _, h2, h3⟩ := findS_get h
    exact ⟨c, List.mem_of_getElem? h2, h3⟩
  · rintro ⟨c, hc, rfl⟩
    exact findS_mem hc
theorem layV_comm (k : Int) (a b : api_Value) : layV k a b = layV k b a := by
  have hn := cmpV_neg a b
  unfold layV
  by_cases h3 : k = 3
  · rw [if_pos h3, if_pos h3]
    by_cases h : cmpV a b ≤ 0
    · rw [if_pos h]
      by_cases h' : cmpV b a ≤ 0
      · rw [if_pos h']; exact cmpV_zero a b (by omega)
      · rw [if_neg h']
    · rw [if_neg h, if_pos (by omega)]
  · rw [if_neg h3, if_neg h3]
    by_cases h4 : k = 4
    · rw [if_pos h4, if_pos h4]
      by_cases h : cmpV a b ≥ 0
      · rw [if_pos h]
        by_cases h' : cmpV b a ≥ 0
        · rw [if_pos h']; exact cmpV_zero a b (by omega)
        · rw [if_neg h']
      · rw [if_neg h, if_pos (by omega)]
    · rw [if_neg h4, if_neg h4, addS_comm]
theorem wrap_in (x y : Int) : IntKind.i64.wrap (IntKind.i64.wrap x + y) = IntKind.i64.wrap (x + y) := by
  obtain ⟨m, h⟩ := w64_mod x
  rw [h, show x + 18446744073709551616 * m + y = (x + y) + 18446744073709551616 * m by omega, w64_add]
theorem wrap_assoc (x y z : Int) : IntKind.i64.wrap (IntKind.i64.wrap (x + y) + z) = IntKind.i64.wrap (x + IntKind.i64.wrap (y + z)) := by
  rw [wrap_in, Int.add_comm x (IntKind.i64.wrap (y + z)), wrap_in]
  congr 1; omega
theorem addH_assoc (x y z : Arr8) : addH (addH x y) z = addH x (addH y z) := by
  unfold addH
  simp only [wrap_assoc]
def okAdd (a b : api_Value) : Prop := validS a = true ∧ validS b = true ∧ a.Kind = b.Kind ∧ (a.Kind = 1 ∨ a.Kind = 4)
theorem addS_yes {a b : api_Value} (h : okAdd a b) : (addS a b).1 = ⟨a.Kind, IntKind.i64.wrap (a.N + b.N), ⟨#[]⟩, addH a.H b.H⟩ := by
  unfold addS; rw [if_pos (show validS a = true ∧ validS b = true ∧ a.Kind = b.Kind ∧ (a.Kind = 1 ∨ a.Kind = 4) from h)]
theorem addS_no {a b : api_Value} (h : ¬ okAdd a b) : (addS a b).1 = ⟨0, 0, ⟨#[]⟩, H0⟩ := by
  unfold addS; rw [if_neg (show ¬ (validS a = true ∧ validS b = true ∧ a.Kind = b.Kind ∧ (a.Kind = 1 ∨ a.Kind = 4)) from h)]
theorem zV_bad : validS ⟨0, 0, ⟨#[]⟩, H0⟩ = false := by decide
theorem zV_l (c : api_Value) : ¬ okAdd ⟨0, 0, ⟨#[]⟩, H0⟩ c := fun h => absurd (zV_bad.symm.trans h.1) (by decide)
theorem zV_r (c : api_Value) : ¬ okAdd c ⟨0, 0, ⟨#[]⟩, H0⟩ := fun h => absurd (zV_bad.symm.trans h.2.1) (by decide)
theorem addS_assoc (a b c : api_Value) : (addS (addS a b).1 c).1 = (addS a (addS b c).1).1 := by
  by_cases h1 : okAdd a b
  · obtain ⟨v1, v2⟩ := addS_valid h1.1 h1.2.1 h1.2.2.1 h1.2.2.2
    by_cases h2 : okAdd b c
    · obtain ⟨u1, u2⟩ := addS_valid h2.1 h2.2.1 h2.2.2.1 h2.2.2.2
      rw [addS_yes (a := (addS a b).1) ⟨v2, h2.2.1, by rw [v1, h1.2.2.1, h2.2.2.1], by rw [v1]; exact h1.2.2.2⟩, addS_yes (b := (addS b c).1) ⟨h1.1, u2, by rw [u1, h1.2.2.1], h1.2.2.2⟩, addS_yes h1, addS_yes h2]
      simp only [wrap_assoc, addH_assoc]
    · rw [addS_no (a := (addS a b).1) (fun h => h2 ⟨h1.2.1, h.2.1, by rw [← h1.2.2.1, ← v1]; exact h.2.2.1, by rw [← h1.2.2.1]; exact h1.2.2.2⟩), addS_no h2, addS_no (zV_r _)]
  · rw [addS_no h1, addS_no (zV_l _)]
    by_cases h2 : okAdd b c
    · obtain ⟨u1, u2⟩ := addS_valid h2.1 h2.2.1 h2.2.2.1 h2.2.2.2
      rw [addS_no (fun h => h1 ⟨h.1, h2.1, by rw [h.2.2.1, u1], h.2.2.2⟩)]
    · rw [addS_no h2, addS_no (zV_r _)]
theorem layV_assoc (k : Int) (a b c : api_Value) : layV k (layV k a b) c = layV k a (layV k b c) := by
  have n1 := cmpV_neg a b; have n2 := cmpV_neg b c; have n3 := cmpV_neg a c
  have t1 := cmpV_cmp.trans a b c; have t2 := cmpV_cmp.trans c b a; have t3 := cmpV_cmp.trans b a c; have t4 := cmpV_cmp.trans a c b; have t5 := cmpV_cmp.trans b c a; have t6 := cmpV_cmp.trans c a b
  have z1 := cmpV_zero a b; have z2 := cmpV_zero b c; have z3 := cmpV_zero a c
  unfold layV
  by_cases h3 : k = 3
  · simp only [if_pos h3]
    by_cases h : cmpV a b ≤ 0
    · rw [if_pos h]
      by_cases g : cmpV b c ≤ 0
      · rw [if_pos g, if_pos h, if_pos (t1 h g)]
      · rw [if_neg g]
    · rw [if_neg h]
      by_cases g : cmpV b c ≤ 0
      · rw [if_pos g, if_neg h]
      · rw [if_neg g]
        by_cases f : cmpV a c ≤ 0
        · have := t4 f (by omega); omega
        · rw [if_neg f]
  · simp only [if_neg h3]
    by_cases h4 : k = 4
    · simp only [if_pos h4]
      by_cases h : cmpV a b ≥ 0
      · rw [if_pos h]
        by_cases g : cmpV b c ≥ 0
        · rw [if_pos g, if_pos h, if_pos (by have := t2 (by omega) (by omega); omega)]
        · rw [if_neg g]
      · rw [if_neg h]
        by_cases g : cmpV b c ≥ 0
        · rw [if_pos g, if_neg h]
        · rw [if_neg g]
          by_cases f : cmpV a c ≥ 0
          · have := t6 (by omega) (by omega); omega
          · rw [if_neg f]
    · simp only [if_neg h4, addS_assoc]
theorem layL_comm : ∀ (ks : List Int) (a b : List api_Value), layL ks a b = layL ks b a
  | [], _, _ => by simp [layL]
  | k :: ks, [], [] => rfl
  | k :: ks, [], _ :: _ => rfl
  | k :: ks, _ :: _, [] => rfl
  | k :: ks, x :: a, y :: b => by rw [layL, layL, layV_comm, layL_comm ks a b]
theorem layL_assoc : ∀ (ks : List Int) (a b c : List api_Value), layL ks (layL ks a b) c = layL ks a (layL ks b c)
  | [], _, _, _ => by simp [layL]
  | k :: ks, [], b, c => by simp [layL]
  | k :: ks, _ :: _, [], c => by simp [layL]
  | k :: ks, _ :: _, _ :: _, [] => by simp [layL]
  | k :: ks, x :: a, y :: b, z :: c => by simp only [layL]; rw [layV_assoc, layL_assoc ks a b c]
section
variable {n m : Nat} {K ks : List Int}
theorem layR_comm {a b : List api_Value} (h : a.take n = b.take n) : layR n ks a b = layR n ks b a := by unfold layR; rw [h, layL_comm]
theorem layR_drop {a b : List api_Value} (h : n ≤ a.length) : (layR n ks a b).drop n = layL ks (a.drop n) (b.drop n) := by
  unfold layR
  have e : (a.take n).length = n := by simp; omega
  rw [List.drop_append_of_le_length (by omega), List.drop_of_length_le (by omega), List.nil_append]
theorem layR_assoc {a b c : List api_Value} (ha : n ≤ a.length) (hb : n ≤ b.length) : layR n ks (layR n ks a b) c = layR n ks a (layR n ks b c) := by
  have e1 : layR n ks (layR n ks a b) c = (layR n ks a b).take n ++ layL ks ((layR n ks a b).drop n) (c.drop n) := rfl
  have e2 : layR n ks a (layR n ks b c) = a.take n ++ layL ks (a.drop n) ((layR n ks b c).drop n) := rfl
  rw [e1, e2, layR_take ha, layR_drop ha, layR_drop hb, layL_assoc]
def NK (n : Nat) (G : List (List api_Value)) : Prop := (G.map (·.take n)).Nodup
theorem NK.perm {G G' : List (List api_Value)} (h : NK n G) (p : G.Perm G') : NK n G' := (p.map _).nodup_iff.1 h
theorem NK.tail {g : List api_Value} {G : List (List api_Value)} (h : NK n (g :: G)) : NK n G := by unfold NK at h ⊢; rw [List.map_cons, List.nodup_cons] at h; exact h.2
theorem NK.head {g : List api_Value} {G : List (List api_Value)} (h : NK n (g :: G)) : ∀ x ∈ G, x.take n ≠ g.take n := by
  unfold NK at h; rw [List.map_cons, List.nodup_cons] at h
  intro x hx e
  exact h.1 (by rw [← e]; exact List.mem_map_of_mem hx)
def AG (n m : Nat) (K : List Int) (G : List (List api_Value)) : Prop := ∀ g ∈ G, Good n m K g
theorem insG_keys : ∀ {G : List (List api_Value)} {r : List api_Value}, AG n m K G → n ≤ m → (insG n ks G r).map (·.take n) = if r.take n ∈ G.map (·.take n) then G.map (·.take n) else G.map (·.take n) ++ [r.take n]
  | [], r, _, _ => by simp [insG]
  | g :: G, r, h, hn => by
    have hg := (h g (List.mem_cons_self ..)).len
    rw [insG]
    by_cases e : g.take n = r.take n
    · rw [if_pos e, List.map_cons, layR_take (by omega), if_pos (by rw [← e]; simp)]; rfl
    · rw [if_neg e, List.map_cons, insG_keys (fun x hx => h x (List.mem_cons_of_mem _ hx)) hn, List.map_cons]
      by_cases f : r.take n ∈ G.map (·.take n)
      · rw [if_pos f, if_pos (List.mem_cons_of_mem _ f)]
      · rw [if_neg f, if_neg (fun hc => by rcases List.mem_cons.1 hc with hc | hc; exact e hc.symm; exact f hc)]; rfl
theorem insG_NK {G : List (List api_Value)} {r : List api_Value} (h : AG n m K G) (hn : n ≤ m) (hk : NK n G) : NK n (insG n ks G r) := by
  unfold NK at hk ⊢
  rw [insG_keys h hn]
  split
  · exact hk
  · rename_i f
    rw [List.nodup_append]
    refine ⟨hk, by simp, fun x hx y hy e => ?_⟩
    rw [List.mem_singleton.1 hy] at e
    exact f (e ▸ hx)
theorem insG_swap (hm : m = n + ks.length) : ∀ {G : List (List api_Value)} {x y : List api_Value}, AG n m K G → Good n m K x → Good n m K y → (insG n ks (insG n ks G x) y).Perm (insG n ks (insG n ks G y) x)
  | [], x, y, _, hx, hy => by
    have lx := hx.len; have ly := hy.len
    show (if x.take n = y.take n then [layR n ks x y] else [x, y]).Perm (if y.take n = x.take n then [layR n ks y x] else [y, x])
    by_cases e : x.take n = y.take n
    · rw [if_pos e, if_pos e.symm, layR_comm e]
    · have e' : ¬ y.take n = x.take n := fun h => e h.symm
      rw [if_neg e, if_neg e']
      exact List.Perm.swap _ _ _
  | g :: G, x, y, h, hx, hy => by
    have hg := h g (List.mem_cons_self ..)
    have lg := hg.len; have lx := hx.len; have ly := hy.len
    have ih := insG_swap hm (G := G) (fun z hz => h z (List.mem_cons_of_mem _ hz)) hx hy
    rw [insG, insG]
    by_cases e : g.take n = x.take n
    · rw [if_pos e, insG, layR_take (by omega)]
      by_cases f : g.take n = y.take n
      · rw [if_pos f, if_pos f, insG, layR_take (by omega), if_pos e, layR_assoc (by omega) (by omega), layR_assoc (by omega) (by omega), layR_comm (a := x) (b := y) (by rw [← e, f])]
      · rw [if_neg f, if_neg f, insG, if_pos e]
    · rw [if_neg e, insG]
      by_cases f : g.take n = y.take n
      · rw [if_pos f, if_pos f, insG, layR_take (by omega), if_neg e]
      · rw [if_neg f, if_neg f, insG, if_neg e]
        exact ih.cons g
theorem insG_perm (hm : m = n + ks.length) {x : List api_Value} (hx : Good n m K x) {G G' : List (List api_Value)} (p : G.Perm G') : AG n m K G → NK n G → (insG n ks G x).Perm (insG n ks G' x) := by
  induction p with
  | nil => intro _ _; exact List.Perm.refl _
  | cons g p ih =>
    intro h hk
    rw [insG, insG]
    split
    · exact p.cons _
    · exact (ih (fun z hz => h z (List.mem_cons_of_mem _ hz)) hk.tail).cons g
  | swap a b l =>
    intro h hk
    have hab : b.take n ≠ a.take n := fun e => hk.head a (List.mem_cons_self ..) e.symm
    rw [insG, insG, insG, insG]
    by_cases e : b.take n = x.take n
    · rw [if_pos e]
      by_cases f : a.take n = x.take n
      · exact absurd (by rw [e, f]) hab
      · rw [if_neg f, if_pos e]; exact List.Perm.swap _ _ _
    · rw [if_neg e]
      by_cases f : a.take n = x.take n
      · rw [if_pos f, if_pos f]; exact List.Perm.swap _ _ _
      · rw [if_neg f, if_neg f, if_neg e]; exact List.Perm.swap _ _ _
  | trans p q ih1 ih2 =>
    intro h hk
    exact (ih1 h hk).trans (ih2 (fun z hz => h z (p.mem_iff.2 hz)) (hk.perm p))
theorem fold_perm1 (hm : m = n + ks.length) : ∀ {rows G G' : List (List api_Value)}, G.Perm G' → AG n m K G → NK n G → AG n m K rows → (rows.foldl (insG n ks) G).Perm (rows.foldl (insG n ks) G')
  | [], G, G', p, _, _, _ => p
  | r :: rows, G, G', p, h, hk, hr => by
    have h0 := hr r (List.mem_cons_self ..)
    rw [List.foldl_cons, List.foldl_cons]
    exact fold_perm1 hm (insG_perm hm h0 p h hk) (insG_good hm h h0) (insG_NK h (by omega) hk) (fun z hz => hr z (List.mem_cons_of_mem _ hz))
theorem fold_perm (hm : m = n + ks.length) {rows rows' : List (List api_Value)} (p : rows.Perm rows') : ∀ {G : List (List api_Value)}, AG n m K G → NK n G → AG n m K rows → (rows.foldl (insG n ks) G).Perm (rows'.foldl (insG n ks) G) := by
  induction p with
  | nil => intro G _ _ _; exact List.Perm.refl _
  | cons r p ih =>
    intro G h hk hr
    have h0 := hr r (List.mem_cons_self ..)
    rw [List.foldl_cons, List.foldl_cons]
    exact ih (insG_good hm h h0) (insG_NK h (by omega) hk) (fun z hz => hr z (List.mem_cons_of_mem _ hz))
  | swap a b l =>
    intro G h hk hr
    have hb := hr b (List.mem_cons_self ..)
    have ha := hr a (List.mem_cons_of_mem _ (List.mem_cons_self ..))
    simp only [List.foldl_cons]
    exact fold_perm1 hm (insG_swap hm h hb ha) (insG_good hm (insG_good hm h hb) ha) (insG_NK (insG_good hm h hb) (by omega) (insG_NK h (by omega) hk)) (fun z hz => hr z (List.mem_cons_of_mem _ (List.mem_cons_of_mem _ hz)))
  | trans p q ih1 ih2 =>
    intro G h hk hr
    exact (ih1 h hk hr).trans (ih2 h hk (fun z hz => hr z (p.mem_iff.2 hz)))
theorem grpS_perm (hm : m = n + ks.length) {rows rows' : List (List api_Value)} (p : rows.Perm rows') (hr : AG n m K rows) : (grpS n ks rows).Perm (grpS n ks rows') := fold_perm hm p (fun g hg => by cases hg) (by simp [NK]) hr
theorem fold_NK (hm : m = n + ks.length) : ∀ {rows G : List (List api_Value)}, AG n m K G → NK n G → AG n m K rows → NK n (rows.foldl (insG n ks) G)
  | [], G, _, hk, _ => hk
  | r :: rows, G, h, hk, hr => by
    have h0 := hr r (List.mem_cons_self ..)
    rw [List.foldl_cons]
    exact fold_NK hm (insG_good hm h h0) (insG_NK h (by omega) hk) (fun z hz => hr z (List.mem_cons_of_mem _ hz))
theorem grpS_NK (hm : m = n + ks.length) {rows : List (List api_Value)} (hr : AG n m K rows) : NK n (grpS n ks rows) := fold_NK hm (fun g hg => by cases hg) (by simp [NK]) hr
theorem insG_new : ∀ {G : List (List api_Value)} {r : List api_Value}, (∀ g ∈ G, g.take n ≠ r.take n) → insG n ks G r = G ++ [r]
  | [], r, _ => rfl
  | g :: G, r, h => by
    rw [insG, if_neg (h g (List.mem_cons_self ..)), insG_new fun x hx => h x (List.mem_cons_of_mem _ hx)]; rfl
theorem fold_id : ∀ {H G : List (List api_Value)}, NK n (G ++ H) → H.foldl (insG n ks) G = G ++ H
  | [], G, _ => by simp
  | x :: H, G, h => by
    have e : G ++ x :: H = (G ++ [x]) ++ H := by simp
    rw [List.foldl_cons, insG_new (fun g hg e' => ?_), fold_id (by rw [← e]; exact h), ← e]
    unfold NK at h
    rw [List.map_append, List.nodup_append] at h
    exact h.2.2 _ (List.mem_map_of_mem hg) _ (List.mem_map_of_mem (List.mem_cons_self ..)) e'
theorem grpS_grpS (hm : m = n + ks.length) {A X : List (List api_Value)} (hA : AG n m K A) : grpS n ks (grpS n ks A ++ X) = grpS n ks (A ++ X) := by
  have e := fold_id (ks := ks) (G := []) (H := grpS n ks A) (by simpa using grpS_NK hm hA)
  rw [List.nil_append] at e
  unfold grpS at e ⊢
  rw [List.foldl_append, e, List.foldl_append]
def Eqv (n : Nat) (ks : List Int) (A B : List (List api_Value)) : Prop := (grpS n ks A).Perm (grpS n ks B)
def canG (n : Nat) (ks : List Int) (A : List (List api_Value)) : List (List api_Value) := sortC cmpR (grpS n ks A)
theorem Eqv.can {A B : List (List api_Value)} (h : Eqv n ks A B) : canG n ks A = canG n ks B := sortR_perm h
theorem canG_good (hm : m = n + ks.length) {A : List (List api_Value)} (hA : AG n m K A) : AG n m K (canG n ks A) := fun g hg => (grpS_good hm hA).1 g (mem_sortC.1 hg)
theorem AG.app {A B : List (List api_Value)} (hA : AG n m K A) (hB : AG n m K B) : AG n m K (A ++ B) := fun g hg => (List.mem_append.1 hg).elim (hA g) (hB g)
theorem can_app (hm : m = n + ks.length) {A X : List (List api_Value)} (hA : AG n m K A) (hX : AG n m K X) : Eqv n ks (canG n ks A ++ X) (A ++ X) := by
  unfold Eqv
  rw [← grpS_grpS hm (X := X) hA]
  exact grpS_perm hm ((sortC_perm _ _).append_right X) ((canG_good hm hA).app hX)
end
end Go.Proofs.YtonfglmfdhljnaaGreatDoor.M
end
section
namespace Go.Proofs.YtonfglmfdhljnaaGreatDoor.M
open Go Go.Eng Go.Proofs Go.RowKit
set_option maxRecDepth 100000
set_option linter.unusedVariables false
set_option linter.unusedSimpArgs false
theorem names_mem {cols : List api_Col} {n : ByteArray} : n ∈ names cols ↔ ∃ c ∈ cols, c.Name = n := by unfold names; rw [List.mem_map]
structure SubC (cols l : List api_Col) : Prop where
  mem : ∀ c ∈ l, 0 ≤ findS cols c.Name ∧ c = colOf cols c.Name
  nd : (names l).Nodup
theorem find_kind {l : List api_Col} {c : api_Col} (hn : (names l).Nodup) (hc : c ∈ l) : 0 ≤ findS l c.Name ∧ kindOf l c.Name = c.Kind := by
  obtain ⟨i, hi, e⟩ := List.getElem_of_mem hc
  have hg : l[i]? = some c := by rw [List.getElem?_eq_getElem hi, e]
  have hf := nodup_find hn hg
  refine ⟨by omega, ?_⟩
  unfold kindOf
  rw [hf, Int.toNat_natCast, hg]
theorem SubC.kind {cols l : List api_Col} (h : SubC cols l) {n : ByteArray} (hn : n ∈ names l) : 0 ≤ findS l n ∧ kindOf l n = kindOf cols n := by
  obtain ⟨c, hc, rfl⟩ := names_mem.1 hn
  obtain ⟨h1, h2⟩ := find_kind h.nd hc
  refine ⟨h1, ?_⟩
  rw [h2]
  have := (h.mem c hc).2
  exact congrArg api_Col.Kind this
theorem SubC.step {cols l : List api_Col} (h : SubC cols l) {a : api_Agg} {c : api_Col} (hf : a.Kind ≠ 1 → 0 ≤ findS cols a.Col ∧ c.Kind = kindOf cols a.Col) : SubC cols (stepC l a c) ∧ (∀ n ∈ names l, n ∈ names (stepC l a c)) ∧ (a.Kind ≠ 1 → a.Col ∈ names (stepC l a c)) := by
  unfold stepC
  by_cases h1 : a.Kind ≠ 1 ∧ findS l a.Col < 0
  · rw [if_pos h1]
    obtain ⟨f1, f2⟩ := hf h1.1
    have e : (⟨a.Col, c.Kind⟩ : api_Col) = colOf cols a.Col := by unfold colOf; rw [f2]
    refine ⟨⟨fun d hd => ?_, ?_⟩, fun n hn => ?_, fun _ => ?_⟩
    · rcases List.mem_append.1 hd with hd | hd
      · exact h.mem d hd
      · rw [List.mem_singleton.1 hd, e]
        exact ⟨f1, rfl⟩
    · unfold names
      rw [List.map_append, List.nodup_append]
      refine ⟨h.nd, by simp, fun x hx y hy exy => ?_⟩
      simp only [List.map_cons, List.map_nil, List.mem_singleton] at hy
      rw [hy] at exy
      have : 0 ≤ findS l a.Col := find_mem.2 (by unfold names; rw [← exy]; exact hx)
      omega
    · unfold names at hn ⊢; rw [List.map_append]; exact List.mem_append_left _ hn
    · unfold names; rw [List.map_append]; exact List.mem_append_right _ (by simp)
  · rw [if_neg h1]
    refine ⟨h, fun n hn => hn, fun hk => ?_⟩
    exact find_mem.1 (by omega)
theorem nodup_len {α : Type} [DecidableEq α] : ∀ {l m : List α}, l.Nodup → (∀ x ∈ l, x ∈ m) → l.length ≤ m.length
  | [], m, _, _ => by simp
  | x :: l, m, hn, hm => by
    rw [List.nodup_cons] at hn
    have hx := hm x (List.mem_cons_self ..)
    have := nodup_len (l := l) (m := m.erase x) hn.2 (fun y hy => (List.mem_erase_of_ne (fun (e : y = x) => hn.1 (by rw [← e]; exact hy))).2 (hm y (List.mem_cons_of_mem _ hy)))
    rw [List.length_erase_of_mem hx] at this
    have hp : 0 < m.length := List.length_pos_of_mem hx
    simp only [List.length_cons]; omega
theorem pcol2_wd (i : Nat) (a : api_Agg) (c : api_Col) : (pcol2 i a c).length = wdA a := by unfold pcol2 wdA; split <;> rfl
theorem org_ok {cols : List api_Col} : ∀ {aggs : List api_Agg} {m acc : List api_Col} (i : Nat), aggsC cols aggs = some m → SubC cols acc →
    ∃ l, orgC acc (pcols i aggs m) aggs = some l ∧ SubC cols l ∧ (∀ n ∈ names acc, n ∈ names l) ∧ ∀ a ∈ aggs, a.Kind ≠ 1 → a.Col ∈ names l
  | [], m, acc, i, h, ha => ⟨acc, orgC_nil _ _, ha, fun n hn => hn, fun a ha => by cases ha⟩
  | a :: r, m, acc, i, h, ha => by
    obtain ⟨c, m', e1, e2, rfl⟩ := aggsC_cons h
    have hk := aggC_kind e1
    obtain ⟨s1, s2, s3⟩ := ha.step (a := a) (c := ⟨pnm i, c.Kind⟩) (fun h1 => ⟨aggC_fnd e1 h1, by rw [if_neg h1] at hk; exact hk⟩)
    obtain ⟨l, l1, l2, l3, l4⟩ := org_ok (i + 1) e2 s1
    refine ⟨l, ?_, l2, fun n hn => l3 n (s2 n hn), fun b hb h1 => ?_⟩
    · have hp : pcols i (a :: r) (c :: m') = (⟨pnm i, c.Kind⟩ : api_Col) :: ((if a.Kind = 5 then [⟨pnn i, 1⟩] else []) ++ pcols (i + 1) r m') := rfl
      rw [hp, orgC]
      have hd : ((⟨pnm i, c.Kind⟩ : api_Col) :: ((if a.Kind = 5 then [⟨pnn i, 1⟩] else []) ++ pcols (i + 1) r m')).drop (wdA a) = pcols (i + 1) r m' := by
        show (pcol2 i a c ++ pcols (i + 1) r m').drop (wdA a) = _
        rw [← pcol2_wd i a c, List.drop_append_of_le_length (Nat.le_refl _), List.drop_of_length_le (Nat.le_refl _), List.nil_append]
      rw [hd]
      exact l1
    · rcases List.mem_cons.1 hb with rfl | hb
      · exact l3 _ (s3 h1)
      · exact l4 b hb h1
theorem pick_same {cols l : List api_Col} : ∀ {ns : List ByteArray} {acc r : List api_Col}, (∀ n ∈ ns, 0 ≤ findS l n ∧ kindOf l n = kindOf cols n) → pickC cols acc ns = some r → pickC l acc ns = some r
  | [], acc, r, _, h => h
  | n :: ns, acc, r, hk, h => by
    obtain ⟨k1, k2⟩ := hk n (List.mem_cons_self ..)
    rw [pickC] at h ⊢
    split at h
    · cases h
    · rename_i hx
      have e : colOf l n = colOf cols n := by unfold colOf; rw [k2]
      rw [if_neg (by omega), e]
      exact pick_same (fun x hx => hk x (List.mem_cons_of_mem _ hx)) h
theorem agg_same {cols l : List api_Col} {a : api_Agg} (hk : a.Kind ≠ 1 → (0 ≤ findS l a.Col ∧ kindOf l a.Col = kindOf cols a.Col) ∧ 0 ≤ findS cols a.Col) : aggC l a = aggC cols a := by
  unfold aggC
  by_cases h1 : a.Kind = 1
  · rw [if_pos h1, if_pos h1]
  · obtain ⟨⟨k1, k2⟩, k3⟩ := hk h1
    rw [if_neg h1, if_neg h1, if_neg (show ¬ findS l a.Col < 0 by omega), if_neg (show ¬ findS cols a.Col < 0 by omega), k2]
theorem aggs_same {cols l : List api_Col} : ∀ {aggs : List api_Agg}, (∀ a ∈ aggs, a.Kind ≠ 1 → (0 ≤ findS l a.Col ∧ kindOf l a.Col = kindOf cols a.Col) ∧ 0 ≤ findS cols a.Col) → aggsC l aggs = aggsC cols aggs
  | [], _ => rfl
  | a :: r, h => by rw [aggsC, aggsC, agg_same (h a (List.mem_cons_self ..)), aggs_same fun b hb => h b (List.mem_cons_of_mem _ hb)]
theorem colsG_same {cols l p w : List api_Col} {ns : List ByteArray} {aggs : List api_Agg} (hl : colsS l = true) (h : colsG cols ns aggs = some (p, w)) (hn : ∀ n ∈ ns, 0 ≤ findS l n ∧ kindOf l n = kindOf cols n) (ha : ∀ a ∈ aggs, a.Kind ≠ 1 → 0 ≤ findS l a.Col ∧ kindOf l a.Col = kindOf cols a.Col) : colsG l ns aggs = some (p, w) := by
  obtain ⟨h1, h2, h3, m, g1, g2, g3, g4, g5, g6⟩ := colsG_some h
  have hf := colsG_fnd h
  have e1 := pick_same hn g1
  have e2 : aggsC l aggs = some m := by rw [aggs_same fun a ha' hk => ⟨ha a ha' hk, hf.ag a ha' hk⟩]; exact g4
  have hlen : (ns.map (colOf cols)).length = ns.length := by simp
  have ht : typesC l ns aggs = some w := by
    unfold typesC groupC
    rw [if_pos hl, e1, Option.bind_some, if_neg g2, if_neg (by
      intro hh
      obtain ⟨c, hc, hk⟩ := List.any_eq_true.1 hh
      obtain ⟨n, hn', rfl⟩ := List.mem_map.1 hc
      have h4 := of_decide_eq_true hk
      exact g3 n hn' h4), e2]
    unfold endC
    dsimp only
    rw [← g5, if_pos h3]
  unfold colsG
  rw [ht, Option.bind_some]
  have t1 : w.take ns.length = ns.map (colOf cols) := by rw [g5, List.take_append_of_le_length (by simp), List.take_of_length_le (by simp)]
  have t2 : w.drop ns.length = m := by rw [g5, List.drop_append_of_le_length (by simp), List.drop_of_length_le (by simp), List.nil_append]
  rw [t1, t2, ← g6, if_pos h2]
theorem origin_ok {cols p w : List api_Col} {ns : List ByteArray} {aggs : List api_Agg} (h : colsG cols ns aggs = some (p, w)) : ∃ l, originS p ns aggs = some (l, w) := by
  obtain ⟨h1, h2, h3, m, g1, g2, g3, g4, g5, g6⟩ := colsG_some h
  have hf := colsG_fnd h
  have t1 : p.take ns.length = ns.map (colOf cols) := by rw [g6, List.take_append_of_le_length (by simp), List.take_of_length_le (by simp)]
  have t2 : p.drop ns.length = pcols 0 aggs m := by rw [g6, List.drop_append_of_le_length (by simp), List.drop_of_length_le (by simp), List.nil_append]
  obtain ⟨_, pn, _⟩ := colsS_iff.1 h2
  have s0 : SubC cols (ns.map (colOf cols)) := by
    refine ⟨fun c hc => ?_, ?_⟩
    · obtain ⟨n, hn, rfl⟩ := List.mem_map.1 hc
      exact ⟨hf.nm n hn, rfl⟩
    · rw [g6] at pn
      unfold names at pn ⊢
      rw [List.map_append, List.nodup_append] at pn
      exact pn.1
  obtain ⟨l, l1, l2, l3, l4⟩ := org_ok 0 g4 s0
  have hns : ∀ n ∈ ns, n ∈ names l := fun n hn => l3 n (by unfold names; rw [List.map_map]; exact List.mem_map.2 ⟨n, hn, rfl⟩)
  obtain ⟨c1, c2, c3, c4⟩ := colsS_iff.1 h1
  have hl : colsS (anyC l) = true := by
    unfold anyC
    by_cases he : l = []
    · rw [if_pos he]; decide +kernel
    · rw [if_neg he]
      refine colsS_iff.2 ⟨fun c hc => ?_, l2.nd, by have : l.length ≠ 0 := fun h => he (List.eq_nil_of_length_eq_zero h); omega, ?_⟩
      · obtain ⟨f1, f2⟩ := l2.mem c hc
        obtain ⟨i, _, hi⟩ := findS_col f1
        rw [f2]
        exact c1 _ (List.mem_of_getElem? hi)
      · have hs : (names l).length ≤ (names cols).length := nodup_len l2.nd (fun n hn => by
          obtain ⟨c, hc, rfl⟩ := names_mem.1 hn
          exact find_mem.1 (l2.mem c hc).1)
        unfold names at hs
        rw [List.length_map, List.length_map] at hs
        omega
  have key : ∀ n, n ∈ names l → 0 ≤ findS (anyC l) n ∧ kindOf (anyC l) n = kindOf cols n := by
    intro n hn
    have he : l ≠ [] := by rintro rfl; cases hn
    have : anyC l = l := by unfold anyC; rw [if_neg he]
    rw [this]
    exact l2.kind hn
  have hG := colsG_same hl h (fun n hn => key n (hns n hn)) (fun a ha hk => key _ (l4 a ha hk))
  refine ⟨anyC l, ?_⟩
  unfold originS
  have hlen : ¬ p.length < ns.length := by rw [g6]; simp
  rw [if_neg hlen, t1, t2, l1, endO_eq, hG, Option.bind_some, if_pos rfl]
section
variable {t : api_Table} {ns : List ByteArray} {aggs : List api_Agg} {p w : List api_Col}
def wholeS (ns : List ByteArray) (aggs : List api_Agg) (w : List api_Col) (R : List (List api_Value)) : api_Table := canonS ⟨w, R.map (finR ns.length aggs)⟩
theorem merge_ok (h : colsG t.Cols ns aggs = some (p, w)) {u : api_Table} (hu : Prt ns.length aggs u) (hc : u.Cols = p) : mergeS u ns aggs = (⟨p, canG ns.length (kindsA aggs) u.Rows⟩, 0) := by
  obtain ⟨l, hl⟩ := origin_ok h
  unfold mergeS
  rw [if_neg (by rw [hu.check]; simp), hc, hl]
  dsimp only
  unfold togS canonS canG
  rw [hc]
theorem finish_ok (h : colsG t.Cols ns aggs = some (p, w)) {u : api_Table} (hu : Prt ns.length aggs u) (hc : u.Cols = p) : finishS u ns aggs = (wholeS ns aggs w u.Rows, 0) := by
  obtain ⟨l, hl⟩ := origin_ok h
  unfold finishS
  rw [if_neg (by rw [hu.check]; simp), hc, hl]
  rfl
theorem canG_prt {u : api_Table} (hu : Prt ns.length aggs u) (hc : u.Cols = p) : Prt ns.length aggs ⟨p, canG ns.length (kindsA aggs) u.Rows⟩ ∧ (canG ns.length (kindsA aggs) u.Rows).length ≤ u.Rows.length := by
  have := hu.tog
  unfold togS canonS at this
  rw [hc] at this
  exact this
theorem part_ok (hz : checkS t = 0) (h : colsG t.Cols ns aggs = some (p, w)) : partS t ns aggs = (⟨p, canG ns.length (kindsA aggs) (t.Rows.map (partR t.Cols ns aggs))⟩, 0) := by
  unfold partS
  rw [if_neg (by simp [hz]), h]
  rfl
theorem prt_ag {u : api_Table} (hu : Prt ns.length aggs u) : AG ns.length (ns.length + (kindsA aggs).length) ((u.Cols.take ns.length).map (·.Kind)) u.Rows := hu.okg.good
theorem group_ok (ht : In t) (hb : OkB ns aggs) (hz : checkS t = 0) (h : colsG t.Cols ns aggs = some (p, w)) : groupS t ns aggs = (wholeS ns aggs w (canG ns.length (kindsA aggs) (t.Rows.map (partR t.Cols ns aggs))), 0) := by
  have hr := raw_prt ht hb hz h
  have h1 := part_ok hz h
  obtain ⟨q1, _⟩ := canG_prt hr (p := p) rfl
  have q1' : Prt ns.length aggs ⟨p, canG ns.length (kindsA aggs) (t.Rows.map (partR t.Cols ns aggs))⟩ := q1
  have h2 := merge_ok h q1' rfl
  have e : canG ns.length (kindsA aggs) (canG ns.length (kindsA aggs) (t.Rows.map (partR t.Cols ns aggs))) = canG ns.length (kindsA aggs) (t.Rows.map (partR t.Cols ns aggs)) := by
    have := (can_app (K := (p.take ns.length).map (·.Kind)) (ks := kindsA aggs) (X := []) rfl (prt_ag hr) (fun g hg => by cases hg)).can
    rw [List.append_nil, List.append_nil] at this
    exact this
  dsimp only at h2
  rw [e] at h2
  have h3 := finish_ok h q1' rfl
  unfold groupS
  rw [h1]
  dsimp only
  rw [if_neg (by decide), h2]
  dsimp only
  rw [if_neg (by decide), h3]
  dsimp only
  rw [if_neg (by decide)]
end
end Go.Proofs.YtonfglmfdhljnaaGreatDoor.M
end
section
namespace Go.Proofs.YtonfglmfdhljnaaGreatDoor.M
open Go Go.Eng Go.Proofs Go.RowKit
set_option maxRecDepth 100000
set_option linter.unusedVariables false
set_option linter.unusedSimpArgs false
def nCount : ByteArray := ⟨#[99, 111, 117, 110, 116]⟩
def aCount : api_Agg := ⟨1, ⟨#[]⟩⟩
def nP0 : ByteArray := ⟨#[112, 35, 48]⟩
theorem pnm0 : pnm 0 = nP0 := by decide +kernel
def cnt (n : Nat) (r : List api_Value) : Int := ((r[n]?).getD vOne).N
section
variable {cols : List api_Col}
theorem pick_all : ∀ {ns : List ByteArray} {acc : List api_Col}, (∀ n ∈ ns, 0 ≤ findS cols n) → ns.Nodup → (∀ n ∈ ns, n ∉ names acc) → pickC cols acc ns = some (acc ++ ns.map (colOf cols))
  | [], acc, _, _, _ => by simp [pickC]
  | n :: ns, acc, h1, h2, h3 => by
    rw [List.nodup_cons] at h2
    have f : findS acc n < 0 := by
      have : ¬ 0 ≤ findS acc n := fun h => h3 n (List.mem_cons_self ..) (find_mem.1 h)
      omega
    rw [pickC, if_neg (by have := h1 n (List.mem_cons_self ..); omega), pick_all (fun x hx => h1 x (List.mem_cons_of_mem _ hx)) h2.2 (fun x hx hm => ?_)]
    · simp
    · unfold names at hm
      rw [List.map_append, List.mem_append] at hm
      rcases hm with hm | hm
      · exact h3 x (List.mem_cons_of_mem _ hx) hm
      · simp only [List.map_cons, List.map_nil, List.mem_singleton] at hm
        exact h2.1 (by rw [show n = x from hm.symm]; exact hx)
theorem take_names {k : Nat} (hc : colsS cols = true) : ((names cols).take k).map (colOf cols) = cols.take k := by
  obtain ⟨_, nd, _⟩ := colsS_iff.1 hc
  unfold names
  rw [← List.map_take, List.map_map]
  have : ∀ c ∈ cols.take k, (colOf cols ∘ fun c => c.Name) c = c := fun c hc' => by
    have hm := List.mem_of_mem_take hc'
    obtain ⟨h1, h2⟩ := find_kind nd hm
    show colOf cols c.Name = c
    unfold colOf; rw [h2]
  rw [List.map_congr_left this, List.map_id']
theorem counts_cols {k : Nat} (hc : colsS cols = true) (hk : k ≤ cols.length) (hk2 : k < 16) (h4 : ∀ c ∈ cols.take k, c.Kind ≠ 4) (hn : ∀ c ∈ cols.take k, c.Name ≠ nCount) (hp : ∀ c ∈ cols.take k, c.Name ≠ nP0) :
    colsG cols ((names cols).take k) [aCount] = some (cols.take k ++ [⟨nP0, 1⟩], cols.take k ++ [⟨nCount, 1⟩]) := by
  obtain ⟨c1, nd, c3, c4⟩ := colsS_iff.1 hc
  have hl : ((names cols).take k).length = k := by unfold names; simp; omega
  have mem : ∀ n ∈ (names cols).take k, n ∈ names cols := fun n h => List.mem_of_mem_take h
  have e1 := pick_all (cols := cols) (ns := (names cols).take k) (acc := []) (fun n h => find_mem.2 (mem n h)) (nd.sublist (List.take_sublist k _)) (fun n h hm => by cases hm)
  rw [List.nil_append, take_names hc] at e1
  have e2 : aggsC cols [aCount] = some [⟨nCount, 1⟩] := by rfl
  have good : ∀ x : ByteArray, nameS x = true → (∀ c ∈ cols.take k, c.Name ≠ x) → colsS (cols.take k ++ [⟨x, 1⟩]) = true := by
    intro x hx hne
    refine colsS_iff.2 ⟨fun c hc' => ?_, ?_, by simp, by simp; omega⟩
    · rcases List.mem_append.1 hc' with h | h
      · exact c1 c (List.mem_of_mem_take h)
      · rw [List.mem_singleton.1 h]; exact ⟨hx, by show (1 : Int) ≤ 1; decide, by show (1 : Int) ≤ 4; decide⟩
    · unfold names at nd ⊢
      rw [List.map_append, List.nodup_append]
      refine ⟨nd.sublist ((List.take_sublist k _).map _), by simp, fun y hy z hz e => ?_⟩
      simp only [List.map_cons, List.map_nil, List.mem_singleton] at hz
      obtain ⟨c, hc', hcy⟩ := List.mem_map.1 hy
      exact hne c hc' (by rw [hcy, e, hz])
  have g1 := good nCount (by decide +kernel) hn
  have g2 := good nP0 (by decide +kernel) hp
  have ht : typesC cols ((names cols).take k) [aCount] = some (cols.take k ++ [⟨nCount, 1⟩]) := by
    unfold typesC groupC
    rw [if_pos hc, e1, Option.bind_some, if_neg (by simp), if_neg (by
      intro hh
      obtain ⟨c, hc', hk'⟩ := List.any_eq_true.1 hh
      exact h4 c hc' (of_decide_eq_true hk')), e2]
    unfold endC
    dsimp only
    rw [if_pos g1]
  unfold colsG
  have tk : (cols.take k).length = k := by simp; omega
  rw [ht, Option.bind_some, hl, List.take_append_of_le_length (by omega), List.take_of_length_le (l := cols.take k) (by omega), List.drop_append_of_le_length (by omega), List.drop_of_length_le (l := cols.take k) (by omega), List.nil_append]
  have ep : pcols 0 [aCount] [⟨nCount, 1⟩] = [⟨nP0, 1⟩] := by
    show [(⟨pnm 0, 1⟩ : api_Col)] ++ [] = _
    rw [pnm0]; rfl
  rw [ep, if_pos g2]
end
structure CntR (n : Nat) (r : List api_Value) : Prop where
  len : r.length = n + 1
  ok : ∃ v, r.drop n = [v] ∧ v.Kind = 1 ∧ validS v = true
theorem CntR.get {n : Nat} {r : List api_Value} (h : CntR n r) : ∃ v, r[n]? = some v ∧ r.drop n = [v] ∧ v.Kind = 1 ∧ validS v = true ∧ cnt n r = v.N := by
  obtain ⟨v, h1, h2, h3⟩ := h.ok
  have e : r[n]? = some v := by
    have := congrArg (fun l : List api_Value => l[0]?) h1
    simpa using this
  exact ⟨v, e, h1, h2, h3, by unfold cnt; rw [e]; rfl⟩
theorem cnt_lay {n : Nat} {a b : List api_Value} (ha : CntR n a) (hb : CntR n b) : CntR n (layR n [1] a b) ∧ cnt n (layR n [1] a b) = IntKind.i64.wrap (cnt n a + cnt n b) := by
  obtain ⟨u, u1, u2, u3, u4, u5⟩ := ha.get
  obtain ⟨v, v1, v2, v3, v4, v5⟩ := hb.get
  have hl := ha.len
  have hd : (layR n [1] a b).drop n = [(addS u v).1] := by
    rw [layR_drop (by omega), u2, v2]; rfl
  obtain ⟨k1, k2⟩ := addS_valid u4 v4 (by rw [u3, v3]) (Or.inl u3)
  have hc : CntR n (layR n [1] a b) := by
    refine ⟨?_, _, hd, by rw [k1]; exact u3, k2⟩
    unfold layR
    rw [List.length_append, u2, v2]
    simp [layL]; omega
  obtain ⟨w, w1, w2, _, _, w5⟩ := hc.get
  refine ⟨hc, ?_⟩
  rw [hd] at w2
  have : w = (addS u v).1 := by simpa using w2.symm
  rw [w5, this, addS_yes ⟨u4, v4, by rw [u3, v3], Or.inl u3⟩, u5, v5]
def sumN (n : Nat) : List (List api_Value) → Int
  | [] => 0
  | r :: R => cnt n r + sumN n R
theorem sumN_perm {n : Nat} {A B : List (List api_Value)} (p : A.Perm B) : sumN n A = sumN n B := by
  induction p with
  | nil => rfl
  | cons x p ih => simp only [sumN, ih]
  | swap x y l => simp only [sumN]; omega
  | trans p q ih1 ih2 => rw [ih1, ih2]
theorem sumN_nn {n : Nat} : ∀ {G : List (List api_Value)}, (∀ g ∈ G, 1 ≤ cnt n g) → 0 ≤ sumN n G
  | [], _ => by simp [sumN]
  | g :: G, h => by
    have h1 := h g (List.mem_cons_self ..)
    have h2 := sumN_nn (G := G) fun x hx => h x (List.mem_cons_of_mem _ hx)
    simp only [sumN]; omega
theorem ins_sum {n : Nat} : ∀ {G : List (List api_Value)} {r : List api_Value}, (∀ g ∈ G, CntR n g ∧ 1 ≤ cnt n g) → CntR n r → cnt n r = 1 → sumN n G ≤ 1000 → sumN n (insG n [1] G r) = sumN n G + 1 ∧ ∀ g ∈ insG n [1] G r, CntR n g ∧ 1 ≤ cnt n g
  | [], r, _, hr, h1, _ => ⟨by simp [insG, sumN, h1], fun g hg => by rw [insG, List.mem_singleton] at hg; rw [hg]; exact ⟨hr, by omega⟩⟩
  | x :: G, r, h, hr, h1, hs => by
    obtain ⟨hx, hx1⟩ := h x (List.mem_cons_self ..)
    have hG := fun y hy => h y (List.mem_cons_of_mem x hy)
    have nn := sumN_nn (n := n) (G := G) fun y hy => (hG y hy).2
    simp only [sumN] at hs
    rw [insG]
    by_cases e : x.take n = r.take n
    · rw [if_pos e]
      obtain ⟨l1, l2⟩ := cnt_lay hx hr
      rw [w64 (by omega) (by omega)] at l2
      refine ⟨by simp only [sumN]; omega, fun g hg => ?_⟩
      rcases List.mem_cons.1 hg with rfl | hg
      · exact ⟨l1, by omega⟩
      · exact hG g hg
    · rw [if_neg e]
      obtain ⟨s1, s2⟩ := ins_sum hG hr h1 (by omega)
      refine ⟨by simp only [sumN]; omega, fun g hg => ?_⟩
      rcases List.mem_cons.1 hg with rfl | hg
      · exact ⟨hx, hx1⟩
      · exact s2 g hg
theorem fold_sum {n : Nat} : ∀ {rows G : List (List api_Value)}, (∀ g ∈ G, CntR n g ∧ 1 ≤ cnt n g) → (∀ r ∈ rows, CntR n r ∧ cnt n r = 1) → sumN n G + rows.length ≤ 1000 → sumN n (rows.foldl (insG n [1]) G) = sumN n G + rows.length ∧ ∀ g ∈ rows.foldl (insG n [1]) G, CntR n g ∧ 1 ≤ cnt n g
  | [], G, h, _, _ => ⟨by simp, h⟩
  | r :: rows, G, h, hr, hs => by
    obtain ⟨r1, r2⟩ := hr r (List.mem_cons_self ..)
    simp only [List.length_cons] at hs
    obtain ⟨s1, s2⟩ := ins_sum h r1 r2 (by omega)
    obtain ⟨t1, t2⟩ := fold_sum s2 (fun x hx => hr x (List.mem_cons_of_mem _ hx)) (by omega)
    rw [List.foldl_cons]
    exact ⟨by rw [t1, s1]; simp only [List.length_cons]; omega, t2⟩
section
variable {t : api_Table} {x : api_Table × Int} {ns : List ByteArray}
theorem counts_l5 {kl : Int → Int → Option Bool} {tot : Int} {i : Nat} {v : api_Value} {r : List api_Value} (hr : x.1.Rows[i]? = some r) (hl : x.1.Rows.length ≤ 1000) (hnl : ns.length ≤ 20) (hok : ∀ g ∈ x.1.Rows, okRow g ∧ ns.length ≤ g.length) (hne : ∀ (j : Nat) g, j < i → x.1.Rows[j]? = some g → g.take ns.length ≠ r.take ns.length) :
    ∀ (fuel j : Nat), j ≤ i → i < j + fuel → law18_GroupCounts.l5 kl ns x tot (i : Int) v fuel (j : Int) = kl (IntKind.i64.wrap (tot + v.N)) ((i + 1 : Nat) : Int)
  | 0, j, _, h => by omega
  | fuel + 1, j, h1, h2 => by
    have hi : i < x.1.Rows.length := by
      rcases Nat.lt_or_ge i x.1.Rows.length with h | h
      · exact h
      · rw [List.getElem?_eq_none h] at hr; cases hr
    rw [law18_GroupCounts.l5]
    by_cases hj : j < i
    · obtain ⟨g, hg, _⟩ := getE (l := x.1.Rows) (i := j) (by omega)
      have og := hok g (List.mem_of_getElem? hg)
      have or' := hok r (List.mem_of_getElem? hr)
      have eg : (g.drop (0 : Int).toNat).take ((ns.length : Int).toNat - (0 : Int).toNat) = g.take ns.length := by simp
      have er : (r.drop (0 : Int).toNat).take ((ns.length : Int).toNat - (0 : Int).toNat) = r.take ns.length := by simp
      have okg : okRow (g.take ns.length) := ⟨by have := og.1.1; simp; omega, fun u hu => og.1.2 u (List.mem_of_mem_take hu)⟩
      rw [if_pos (dlt hj), ix_of hg, Option.bind_some, cut_of (by omega) (by omega) (by omega), Option.bind_some, eg, ix_of hr, Option.bind_some, cut_of (by omega) (by omega) (by omega), Option.bind_some, er, refRow_eq okg, Option.bind_some, if_neg (by
        have := hne j g hj hg
        have hz := fun e => this (cmpR_zero _ _ e)
        simpa using hz), w64_nat j (by omega), counts_l5 hr hl hnl hok hne fuel (j + 1) (by omega) (by omega)]
    · rw [if_neg (dnl (by omega)), w64_nat i (by omega)]
theorem counts_l4 (hx : x.2 = 0) (hl : x.1.Rows.length ≤ 1000) (hnl : ns.length ≤ 20) (hok : ∀ g ∈ x.1.Rows, okRow g ∧ ns.length ≤ g.length) (hc : ∀ g ∈ x.1.Rows, CntR ns.length g ∧ 1 ≤ cnt ns.length g) (hk : NK ns.length x.1.Rows) (hs : sumN ns.length x.1.Rows = (t.Rows.length : Int)) (ht : t.Rows.length ≤ 60) :
    ∀ (fuel i : Nat) (tot : Int), i ≤ x.1.Rows.length → x.1.Rows.length < i + fuel → tot + sumN ns.length (x.1.Rows.drop i) = (t.Rows.length : Int) → 0 ≤ tot →
    law18_GroupCounts.l4 true t ns x fuel tot (i : Int) = some true
  | 0, i, _, _, h, _, _ => by omega
  | fuel + 1, i, tot, h1, h2, h3, h4 => by
    rw [law18_GroupCounts.l4]
    by_cases hi : i < x.1.Rows.length
    · obtain ⟨r, hr, er⟩ := getE hi
      have hrm := List.mem_of_getElem? hr
      obtain ⟨c1, c2⟩ := hc r hrm
      obtain ⟨v, v1, _, _, _, v5⟩ := c1.get
      have nn := sumN_nn (n := ns.length) (G := x.1.Rows.drop (i + 1)) fun g hg => (hc g (List.mem_of_mem_drop hg)).2
      rw [er] at h3
      simp only [sumN] at h3
      have hne : ∀ (j : Nat) g, j < i → x.1.Rows[j]? = some g → g.take ns.length ≠ r.take ns.length := by
        intro j g hj hg e
        unfold NK at hk
        rw [List.Nodup, List.pairwise_map, List.pairwise_iff_getElem] at hk
        have hj2 : j < x.1.Rows.length := by omega
        have q := hk j i hj2 hi hj
        rw [List.getElem?_eq_getElem hj2] at hg
        rw [List.getElem?_eq_getElem hi] at hr
        rw [Option.some.inj hg, Option.some.inj hr] at q
        exact q e
      rw [if_pos (dlt hi), ix_of hr, Option.bind_some, ix_of v1, Option.bind_some, show ((i : Int) - 0).toNat + 1 = i + 1 by omega, show (0 : Int) = ((0 : Nat) : Int) from rfl, counts_l5 hr hl hnl hok hne _ 0 (Nat.zero_le _) (by omega), w64 (by omega) (by omega),
        counts_l4 hx hl hnl hok hc hk hs ht fuel (i + 1) _ (by omega) (by omega) (by omega) (by omega)]
    · rw [if_neg (dnl (by omega)), if_pos rfl, hx, if_pos (by decide)]
      rw [List.drop_of_length_le (by omega)] at h3
      simp only [sumN] at h3
      have : (tot == (t.Rows.length : Int)) = true := by simp; omega
      rw [this]
end
theorem counts_end {t : api_Table} {k : Nat} (ht : In t) (hl : t.Rows.length ≤ 60) (hz : checkS t = 0) (hk : k ≤ t.Cols.length) (h4 : ∀ c ∈ t.Cols.take k, c.Kind ≠ 4) (hn : ∀ c ∈ t.Cols.take k, c.Name ≠ nCount) (hp : ∀ c ∈ t.Cols.take k, c.Name ≠ nP0) :
    ((group_Group t ((names t.Cols).take k) [aCount]).bind fun y_358 => (if (decide ((((names t.Cols).take k).length : Int) ≥ 16)) = true then some true else (law18_GroupCounts.l4 true t ((names t.Cols).take k) y_358 (((y_358.1.Rows.length : Int) - 0).toNat + 1) 0 0))) = some true := by
  obtain ⟨z1, z2⟩ := checkS_zero.1 hz
  obtain ⟨c1, nd, c3, c4⟩ := colsS_iff.1 z1
  have hlen : ((names t.Cols).take k).length = k := by unfold names; simp; omega
  have hb : OkB ((names t.Cols).take k) [aCount] := ⟨by omega, by decide, fun n hn' => by
    obtain ⟨c, hc, rfl⟩ := names_mem.1 (List.mem_of_mem_take hn')
    have := ht.c.2 c hc
    have hs := (c1 c hc).1
    unfold nameS at hs
    split at hs
    · cases hs
    · simp only [Bool.and_eq_true, decide_eq_true_eq] at hs; have := hs.2; omega, fun a ha => by rw [List.mem_singleton.1 ha]; unfold okA; decide +kernel⟩
  rw [group_eq ht hb, Option.bind_some]
  by_cases h16 : k ≥ 16
  · rw [if_pos (by simp [hlen]; omega)]
  · rw [if_neg (by simp [hlen]; omega)]
    have hG := counts_cols z1 hk (by omega) h4 hn hp
    have base := raw_prt ht hb hz hG
    have hg := group_ok ht hb hz hG
    have hks : kindsA [aCount] = [1] := rfl
    rw [hks, hlen] at hg
    have tk : (t.Cols.take k).length = k := by simp; omega
   
    have P1 : ∀ r ∈ t.Rows.map (partR t.Cols ((names t.Cols).take k) [aCount]), CntR k r ∧ cnt k r = 1 := by
      intro r hr
      obtain ⟨s, hs, rfl⟩ := List.mem_map.1 hr
      have e : partR t.Cols ((names t.Cols).take k) [aCount] s = ((names t.Cols).take k).map (valAt t.Cols s) ++ [vOne] := rfl
      have hl' : (((names t.Cols).take k).map (valAt t.Cols s)).length = k := by rw [List.length_map]; exact hlen
      have hc : CntR k (partR t.Cols ((names t.Cols).take k) [aCount] s) := by
        rw [e]
        refine ⟨by rw [List.length_append, hl']; rfl, vOne, ?_, rfl, by decide⟩
        rw [List.drop_append_of_le_length (by omega), List.drop_of_length_le (by omega)]; rfl
      refine ⟨hc, ?_⟩
      obtain ⟨v, v1, v2, _, _, v5⟩ := hc.get
      rw [e, List.drop_append_of_le_length (by omega), List.drop_of_length_le (by omega)] at v2
      have : v = vOne := by simpa using v2.symm
      rw [v5, this]; rfl
    obtain ⟨s1, s2⟩ := fold_sum (n := k) (G := []) (fun g hg => by cases hg) P1 (by simp [sumN]; omega)
    have hperm : (canG k [1] (t.Rows.map (partR t.Cols ((names t.Cols).take k) [aCount]))).Perm (grpS k [1] (t.Rows.map (partR t.Cols ((names t.Cols).take k) [aCount]))) := sortC_perm _ _
    have hfin : (canG k [1] (t.Rows.map (partR t.Cols ((names t.Cols).take k) [aCount]))).map (finR k [aCount]) = canG k [1] (t.Rows.map (partR t.Cols ((names t.Cols).take k) [aCount])) := by
      have : ∀ g ∈ canG k [1] (t.Rows.map (partR t.Cols ((names t.Cols).take k) [aCount])), finR k [aCount] g = g := fun g hg => by
        obtain ⟨v, h1, h2, _⟩ := (s2 g (hperm.mem_iff.1 hg)).1.ok
        unfold finR
        rw [h1]
        have : finA [aCount] [v] = [v] := rfl
        rw [this, ← h1, List.take_append_drop]
      rw [List.map_congr_left this, List.map_id']
    have hrows : (groupS t ((names t.Cols).take k) [aCount]).1.Rows = canG k [1] (t.Rows.map (partR t.Cols ((names t.Cols).take k) [aCount])) := by
      rw [hg]
      show sortC cmpR ((canG k [1] (t.Rows.map (partR t.Cols ((names t.Cols).take k) [aCount]))).map (finR _ [aCount])) = _
      rw [hlen, hfin]
      unfold canG
      exact sortR_perm (sortC_perm _ _)
    have ag : AG k (k + 1) (((t.Cols.take k ++ [⟨nP0, 1⟩] : List api_Col).take k).map (·.Kind)) (t.Rows.map (partR t.Cols ((names t.Cols).take k) [aCount])) := by
      have := prt_ag base
      rw [hlen] at this
      exact this
    have hnk : NK k (groupS t ((names t.Cols).take k) [aCount]).1.Rows := by
      rw [hrows]
      exact (grpS_NK (ks := [1]) rfl ag).perm hperm.symm
    have hsz := (groupS_sz ht hb).2
    have hmem : ∀ g, g ∈ (groupS t ((names t.Cols).take k) [aCount]).1.Rows → CntR k g ∧ 1 ≤ cnt k g := fun g hg' => by
      rw [hrows] at hg'
      exact s2 g (hperm.mem_iff.1 hg')
    have hcount : (groupS t ((names t.Cols).take k) [aCount]).1.Rows.length ≤ 60 := by
      rw [hrows, hperm.length_eq]
      have := (grpS_good (ks := [1]) rfl ag).2
      simp at this ⊢
      omega
    have hsum : sumN k (groupS t ((names t.Cols).take k) [aCount]).1.Rows = (t.Rows.length : Int) := by
      rw [hrows, sumN_perm hperm]
      have : sumN k (grpS k [1] (t.Rows.map (partR t.Cols ((names t.Cols).take k) [aCount]))) = sumN k [] + ((t.Rows.map (partR t.Cols ((names t.Cols).take k) [aCount])).length : Int) := s1
      rw [this]
      simp [sumN]
    rw [fuel_nat, show (0 : Int) = ((0 : Nat) : Int) from rfl]
    refine counts_l4 (by rw [hg]) (by omega) (by omega) (fun g hg' => ⟨hsz.2 g hg', by have := (hmem g hg').1.len; omega⟩) (by rw [hlen]; exact hmem) (by rw [hlen]; exact hnk) (by rw [hlen]; exact hsum) hl _ 0 _ (Nat.zero_le _) (by omega) (by rw [hlen, List.drop_zero, hsum]; omega) (by omega)
theorem pfx {s : ByteArray} (h : s = nP0) : 1 < s.size ∧ cuts s 0 2 = some (⟨#[112, 35]⟩ : ByteArray) := by
  subst h
  exact ⟨by decide, by decide +kernel⟩
theorem counts_l1 {t : api_Table} {N : Int} {k : Nat} (ht : In t) (hl : t.Rows.length ≤ 60) (hz : checkS t = 0) (hk : N.tmod ((t.Cols.length + 1 : Nat) : Int) = (k : Int)) (hkl : k ≤ t.Cols.length) : ∀ (fuel i : Nat), i ≤ k → k < i + fuel → (∀ c ∈ t.Cols.take i, c.Kind ≠ 4 ∧ c.Name ≠ nCount ∧ c.Name ≠ nP0) →
    law18_GroupCounts.l1 true t N fuel ((names t.Cols).take i) (i : Int) = some true
  | 0, i, _, h, _ => by omega
  | fuel + 1, i, h1, h2, h3 => by
    have hc16 := colsS_len (checkS_zero.1 hz).1
    rw [law18_GroupCounts.l1, w64_nat t.Cols.length (by omega), if_pos (by simp; omega), hk]
    by_cases hi : i < k
    · obtain ⟨c, hc, _⟩ := getE (l := t.Cols) (i := i) (by omega)
      have hnl : ((names t.Cols).take i).length = i := by unfold names; simp; omega
      have next : c.Kind ≠ 4 → c.Name ≠ nCount → c.Name ≠ nP0 → law18_GroupCounts.l1 true t N fuel ((names t.Cols).take i ++ [c.Name]) (IntKind.i64.wrap ((i : Int) + 1)) = some true := by
        intro a1 a2 a3
        have e : (names t.Cols).take i ++ [c.Name] = (names t.Cols).take (i + 1) := by
          unfold names
          rw [List.take_add_one, List.getElem?_map, hc]; rfl
        rw [w64_nat i (by omega), e]
        refine counts_l1 ht hl hz hk hkl fuel (i + 1) (by omega) (by omega) fun d hd => ?_
        rw [List.take_add_one, hc] at hd
        rcases List.mem_append.1 hd with hd | hd
        · exact h3 d hd
        · have : d = c := by simpa using hd
          rw [this]; exact ⟨a1, a2, a3⟩
      have body : ∀ pb : Bool, (c.Name = nP0 → pb = true) → law18_GroupCounts.j2 (law18_GroupCounts.l1 true t N fuel) true t N ((names t.Cols).take i) (i : Int) pb = some true := by
        intro pb hpb
        unfold law18_GroupCounts.j2 law18_GroupCounts.j3
        rw [ix_of hc, Option.bind_some]
        by_cases k4 : c.Kind = 4
        · rw [if_pos (by simpa using k4), if_pos rfl]
        · rw [if_neg (by simpa using k4), Option.bind_some, str_eq, show (⟨#[99, 111, 117, 110, 116]⟩ : ByteArray) = nCount from rfl]
          by_cases kc : c.Name = nCount
          · rw [if_pos (show decide (c.Name = nCount) = true by simpa using kc), if_pos rfl]
          · rw [if_neg (show ¬ decide (c.Name = nCount) = true by simpa using kc)]
            cases pb with
            | true => rw [if_pos rfl]
            | false =>
              rw [if_neg (by decide), Option.bind_some, apd_of (by rw [hnl]; simp; omega), Option.bind_some]
              exact next k4 kc fun e => by have := hpb e; cases this
      rw [if_pos (dlt hi), ix_of hc, Option.bind_some]
      by_cases hs : c.Name.size > 1
      · rw [if_pos (by simp; omega), Option.bind_some]
        obtain ⟨s2, hs2⟩ : ∃ s2, cuts c.Name 0 2 = some s2 := by
          unfold cuts
          rw [if_pos (by decide), if_pos (by decide), if_pos (by omega)]
          exact ⟨_, rfl⟩
        rw [hs2, Option.bind_some, str_eq]
        refine body _ fun e => ?_
        have := (pfx e).2
        rw [hs2] at this
        simpa using this
      · rw [if_neg (by simp; omega)]
        exact body false fun e => absurd (pfx e).1 hs
    · have hik : i = k := by omega
      subst hik
      rw [if_neg (dnl (Nat.le_refl _))]
      exact counts_end ht hl hz hkl (fun c hc => (h3 c hc).1) (fun c hc => (h3 c hc).2.1) (fun c hc => (h3 c hc).2.2)
theorem tmc_ok {x : Int} (h0 : 0 ≤ x) {L : Nat} : ∃ k : Nat, x.tmod ((L + 1 : Nat) : Int) = (k : Int) ∧ k ≤ L := by
  have e : x.tmod ((L + 1 : Nat) : Int) = x % ((L + 1 : Nat) : Int) := Int.tmod_eq_emod_of_nonneg h0
  have h1 := Int.emod_nonneg x (show ((L + 1 : Nat) : Int) ≠ 0 by omega)
  have h2 := Int.emod_lt_of_pos x (show (0 : Int) < ((L + 1 : Nat) : Int) by omega)
  exact ⟨(x % ((L + 1 : Nat) : Int)).toNat, by rw [e]; omega, by omega⟩
theorem GroupCounts_pure (t : api_Table) (ot : ok_api_Table t) (n : Int) (on : (Lit.int .i64 n).wf = true) : law18_GroupCounts t n = some true := by
  have ht := cut_in ot
  have hl : (cutS t).Rows.length ≤ 60 := by show (t.Rows.take 60).length ≤ _; simp; omega
  have hn := i64_range on
  unfold law18_GroupCounts law18_GroupCounts.j0
  rw [shown_eq, Option.bind_some, cut_eq', Option.bind_some, rcheck_eq ht.c ht.r, Option.bind_some]
  by_cases hz : checkS (cutS t) = 0
  · rw [if_neg (by simp [hz])]
    have hc16 := colsS_len (checkS_zero.1 hz).1
    have key : ∀ N : Int, 0 ≤ N → law18_GroupCounts.l1 true (cutS t) N (((N.tmod (IntKind.i64.wrap (((cutS t).Cols.length : Int) + 1))) - 0).toNat + 1) [] 0 = some true := by
      intro N hN
      obtain ⟨k, k1, k2⟩ := tmc_ok hN (L := (cutS t).Cols.length)
      rw [w64_nat (cutS t).Cols.length (by omega), k1]
      have := counts_l1 ht hl hz k1 k2 (((k : Int) - 0).toNat + 1) 0 (Nat.zero_le _) (by omega) (fun c hc => by simp at hc)
      rw [List.take_zero] at this
      exact this
    by_cases h0 : n < 0
    · rw [if_pos (by simpa using h0)]
      have e : IntKind.i64.wrap (0 - (IntKind.i64.wrap (n + 1))) = -(n + 1) := by
        rw [w64 (x := n + 1) (by omega) (by omega), w64 (by omega) (by omega)]; omega
      rw [e]
      exact key _ (by omega)
    · rw [if_neg (by simpa using h0)]
      exact key n (by omega)
  · rw [if_pos (by simpa using hz)]
end Go.Proofs.YtonfglmfdhljnaaGreatDoor.M
end
