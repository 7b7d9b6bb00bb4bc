/- The plain laws of layer 5 (schemas). -/
import Derived.Test.YtiegghohcghmkaaPure
import Derived.Test.YtiegghohcghmkaaPLCn
namespace Go.Proofs.Ytiegghohcghmkaa.M
open Go Go.Eng Go.Proofs Go.RowKit
set_option maxRecDepth 100000
set_option linter.unusedVariables false
set_option linter.unusedSimpArgs false

theorem sc_l0 {a b : List api_Col} (hn : a.length < 4611686018427387904) (hl : a.length = b.length) : ∀ (fuel i : Nat), i ≤ a.length → a.length < i + fuel →
    ref02_SameCols.l0 a b fuel (i : Int) = some (decide (a.drop i = b.drop i))
  | 0, i, _, h => by omega
  | fuel + 1, i, h1, h2 => by
    rw [ref02_SameCols.l0]
    by_cases hi : i < a.length
    · obtain ⟨x, hx, ex⟩ := getE hi
      obtain ⟨y, hy, ey⟩ := getE (l := b) (i := i) (by omega)
      rw [if_pos (dlt hi), ix_of hx, Option.bind_some, ix_of hy, Option.bind_some, ex, ey, w64_nat i (by omega), sc_l0 hn hl fuel (i + 1) (by omega) (by omega)]
      by_cases e : x = y <;> simp [e]
    · rw [if_neg (dnl (by omega)), List.drop_of_length_le (by omega), List.drop_of_length_le (by omega)]; simp
theorem sc_eq {a b : List api_Col} (hn : a.length < 4611686018427387904) : ref02_SameCols a b = some (decide (a = b)) := by
  unfold ref02_SameCols
  by_cases hl : a.length = b.length
  · rw [if_neg (by simp [hl]), fuel_nat]
    exact sc_l0 hn hl _ 0 (Nat.zero_le _) (by omega)
  · rw [if_pos (by simp; omega)]
    have : a ≠ b := fun e => hl (by rw [e])
    simp [this]
/-- What reads as a schema is no larger than this. -/
structure szS (s : api_Schema) : Prop where
  n : s.Name.size ≤ 140737488351232
  k : s.Keys.length * 24 ≤ 140737488351232
  v : s.Vals.length * 24 ≤ 140737488351232
  kn : ∀ c ∈ s.Keys, c.Name.size ≤ 140737488351232
  vn : ∀ c ∈ s.Vals, c.Name.size ≤ 140737488351232
theorem szS_of {s : api_Schema} (h : ok_api_Schema s) : szS s := by
  obtain ⟨h1, ⟨h2, h3⟩, h4, h5⟩ := h
  exact ⟨h1, h2, h4, fun c hc => (h3 c hc).1, fun c hc => (h5 c hc).1⟩
def szL (l : List api_Schema) : Prop := l.length < 4611686018427387904 ∧ ∀ s ∈ l, szS s
def findSc (l : List api_Schema) (name : ByteArray) : api_Schema × Bool := match l.find? (fun s => decide (s.Name = name)) with
  | some s => (s, true)
  | none => (⟨⟨#[]⟩, [], []⟩, false)
theorem findSc_cons (s : api_Schema) (l : List api_Schema) (name : ByteArray) : findSc (s :: l) name = if s.Name = name then (s, true) else findSc l name := by
  unfold findSc
  rw [List.find?_cons]
  by_cases h : s.Name = name <;> simp [h]
theorem find_l0' {l : List api_Schema} {name : ByteArray} (hn : l.length < 4611686018427387904) : ∀ (fuel i : Nat), i ≤ l.length → l.length < i + fuel → schema_Find.l0 l name fuel (i : Int) = some (findSc (l.drop i) name)
  | 0, i, _, h => by omega
  | fuel + 1, i, h1, h2 => by
    rw [schema_Find.l0]
    by_cases hi : i < l.length
    · obtain ⟨x, hx, ex⟩ := getE hi
      rw [if_pos (dlt hi), ix_of hx, Option.bind_some, str_eq, ex, findSc_cons, w64_nat i (by omega), find_l0' hn fuel (i + 1) (by omega) (by omega)]
      by_cases e : x.Name = name <;> simp [e]
    · rw [if_neg (dnl (by omega)), List.drop_of_length_le (by omega)]; rfl
theorem fnd_eq {l : List api_Schema} {name : ByteArray} (hn : l.length < 4611686018427387904) : schema_Find l name = some (findSc l name) := by
  unfold schema_Find
  rw [fuel_nat]
  exact find_l0' hn _ 0 (Nat.zero_le _) (by omega)
theorem rfnd_l0 {l : List api_Schema} {name : ByteArray} (hn : l.length < 4611686018427387904) : ∀ (fuel i : Nat), i ≤ l.length → l.length < i + fuel → ref05_Find.l0 l name fuel (i : Int) = some (findSc (l.drop i) name)
  | 0, i, _, h => by omega
  | fuel + 1, i, h1, h2 => by
    rw [ref05_Find.l0]
    by_cases hi : i < l.length
    · obtain ⟨x, hx, ex⟩ := getE hi
      rw [if_pos (dlt hi), ix_of hx, Option.bind_some, Option.bind_some, str_eq, ex, findSc_cons, w64_nat i (by omega), rfnd_l0 hn fuel (i + 1) (by omega) (by omega)]
      by_cases e : x.Name = name <;> simp [e]
    · rw [if_neg (dnl (by omega)), List.drop_of_length_le (by omega)]; rfl
theorem rfnd_eq {l : List api_Schema} {name : ByteArray} (hn : l.length < 4611686018427387904) : ref05_Find l name = some (findSc l name) := by
  unfold ref05_Find
  rw [fuel_nat]
  exact rfnd_l0 hn _ 0 (Nat.zero_le _) (by omega)
theorem findSc_mem {l : List api_Schema} {name : ByteArray} (h : (findSc l name).2 = true) : (findSc l name).1 ∈ l ∧ (findSc l name).1.Name = name := by
  unfold findSc at *
  split
  · rename_i s hs
    have := List.find?_some hs
    exact ⟨List.mem_of_find?_eq_some hs, by simpa using this⟩
  · rename_i hs; rw [hs] at h; cases h
theorem findSc_none {l : List api_Schema} {name : ByteArray} : (findSc l name).2 = false ↔ ∀ s ∈ l, s.Name ≠ name := by
  unfold findSc
  split
  · rename_i s hs
    have h1 := List.find?_some hs
    have h2 := List.mem_of_find?_eq_some hs
    simp only [Bool.true_eq_false, false_iff]
    intro h; exact h s h2 (by simpa using h1)
  · rename_i hs
    rw [List.find?_eq_none] at hs
    simp only [true_iff]
    intro s hs'; simpa using hs s hs'
theorem szS_find {l : List api_Schema} {name : ByteArray} (h : ∀ s ∈ l, szS s) : szS (findSc l name).1 := by
  unfold findSc
  split
  · rename_i s hs; exact h s (List.mem_of_find?_eq_some hs)
  · exact ⟨by decide +kernel, by decide, by decide, by simp, by simp⟩
/-- All of some columns. -/
theorem all1_l1 {kl : Int → Option Bool} {xs : List (List api_Col)} {j : Int} {l : List api_Col} (hn : l.length < 4611686018427387904) (hs : ∀ c ∈ l, c.Name.size < 4611686018427387904) : ∀ (fuel i : Nat), i ≤ l.length → l.length < i + fuel →
    schema_all_f_schema_one_1.l1 kl xs j l fuel (i : Int) = if ((l.drop i).all fun c => wordS c.Name) = true then kl (IntKind.i64.wrap (j + 1)) else some false
  | 0, i, _, h => by omega
  | fuel + 1, i, h1, h2 => by
    rw [schema_all_f_schema_one_1.l1]
    by_cases hi : i < l.length
    · obtain ⟨x, hx, ex⟩ := getE hi
      unfold schema_one_1
      rw [if_pos (dlt hi), ix_of hx, Option.bind_some, word_eq (hs x (List.mem_of_getElem? hx)), Option.bind_some, Option.bind_some, ex, List.all_cons, w64_nat i (by omega), all1_l1 hn hs fuel (i + 1) (by omega) (by omega)]
      cases wordS x.Name <;> simp
    · rw [if_neg (dnl (by omega)), List.drop_of_length_le (by omega)]; rfl
theorem all1_l0 {xs : List (List api_Col)} (hx : xs.length ≤ 100) (hn : ∀ l ∈ xs, l.length < 4611686018427387904 ∧ ∀ c ∈ l, c.Name.size < 4611686018427387904) : ∀ (fuel i : Nat), i ≤ xs.length → xs.length < i + fuel →
    schema_all_f_schema_one_1.l0 xs fuel (i : Int) = some ((xs.drop i).all fun l => l.all fun c => wordS c.Name)
  | 0, i, _, h => by omega
  | fuel + 1, i, h1, h2 => by
    rw [schema_all_f_schema_one_1.l0]
    by_cases hi : i < xs.length
    · obtain ⟨l, hl, el⟩ := getE hi
      obtain ⟨n1, n2⟩ := hn l (List.mem_of_getElem? hl)
      rw [if_pos (dlt hi), ix_of hl, Option.bind_some, fuel_nat, show (0 : Int) = ((0 : Nat) : Int) from rfl, all1_l1 n1 n2 _ 0 (Nat.zero_le _) (by omega), w64_nat i (by omega), all1_l0 hx hn fuel (i + 1) (by omega) (by omega), el, List.drop_zero, List.all_cons]
      cases (l.all fun c => wordS c.Name) <;> simp
    · rw [if_neg (dnl (by omega)), List.drop_of_length_le (by omega)]; rfl
theorem all1_eq {xs : List (List api_Col)} (hx : xs.length ≤ 100) (hn : ∀ l ∈ xs, l.length < 4611686018427387904 ∧ ∀ c ∈ l, c.Name.size < 4611686018427387904) : schema_all_f_schema_one_1 xs = some (xs.all fun l => l.all fun c => wordS c.Name) := by
  unfold schema_all_f_schema_one_1
  rw [fuel_nat]
  exact all1_l0 hx hn _ 0 (Nat.zero_le _) (by omega)
theorem all2_l1 {kl : Int → Option Bool} {xs : List (List api_Col)} {j : Int} {l : List api_Col} (hn : l.length < 4611686018427387904) : ∀ (fuel i : Nat), i ≤ l.length → l.length < i + fuel →
    schema_all_f_schema_one_2.l1 kl xs j l fuel (i : Int) = if ((l.drop i).all fun c => decide (c.Kind ≠ 4)) = true then kl (IntKind.i64.wrap (j + 1)) else some false
  | 0, i, _, h => by omega
  | fuel + 1, i, h1, h2 => by
    rw [schema_all_f_schema_one_2.l1]
    by_cases hi : i < l.length
    · obtain ⟨x, hx, ex⟩ := getE hi
      unfold schema_one_2
      rw [if_pos (dlt hi), ix_of hx, Option.bind_some, Option.bind_some, ex, List.all_cons, w64_nat i (by omega), all2_l1 hn fuel (i + 1) (by omega) (by omega)]
      by_cases e : x.Kind = 4 <;> simp [e]
    · rw [if_neg (dnl (by omega)), List.drop_of_length_le (by omega)]; rfl
theorem all2_eq {l : List api_Col} (hn : l.length < 4611686018427387904) : schema_all_f_schema_one_2 [l] = some (l.all fun c => decide (c.Kind ≠ 4)) := by
  unfold schema_all_f_schema_one_2
  have e0 : ix [l] 0 = some l := rfl
  have e1 : ((([l] : List (List api_Col)).length : Int) - 0).toNat + 1 = 0 + 1 + 1 := rfl
  have l1 : ((([l] : List (List api_Col)).length : Nat) : Int) = 1 := rfl
  have w0 : IntKind.i64.wrap (0 + 1) = 1 := by decide
  rw [e1, schema_all_f_schema_one_2.l0, l1, if_pos (by decide), e0, Option.bind_some, fuel_nat, show schema_all_f_schema_one_2.l1 (schema_all_f_schema_one_2.l0 [l] (0 + 1)) [l] 0 l (l.length + 1) 0 = schema_all_f_schema_one_2.l1 (schema_all_f_schema_one_2.l0 [l] (0 + 1)) [l] 0 l (l.length + 1) ((0 : Nat) : Int) from rfl, all2_l1 hn _ 0 (Nat.zero_le _) (by omega), List.drop_zero, w0]
  by_cases hq : (l.all fun c => decide (c.Kind ≠ 4)) = true
  · rw [if_pos hq, hq, schema_all_f_schema_one_2.l0, l1]; rfl
  · rw [if_neg hq]
    simp only [Bool.not_eq_true] at hq
    rw [hq]
theorem concatC2 {xs ys : List api_Col} (h : (xs.length + ys.length) * 24 ≤ 140737488355328) : slices_Concat_api_Col_api_Col [xs, ys] = some (xs ++ ys) := by
  unfold slices_Concat_api_Col_api_Col
  have e0 : ix [xs, ys] 0 = some xs := rfl
  have e1 : ix [xs, ys] 1 = some ys := rfl
  have f : ((([xs, ys] : List (List api_Col)).length : Int) - 0).toNat + 1 = 0 + 1 + 1 + 1 := rfl
  have w0 : IntKind.i64.wrap (0 + 1) = 1 := by decide
  have w1 : IntKind.i64.wrap (1 + 1) = 2 := by decide
  have a1 : IntKind.i64.wrap (0 + (xs.length : Int)) = xs.length := by rw [w64 (by omega) (by omega)]; omega
  have a2 : IntKind.i64.wrap ((xs.length : Int) + (ys.length : Int)) = ((xs.length + ys.length : Nat) : Int) := by rw [w64 (by omega) (by omega)]; omega
  have l2 : ((([xs, ys] : List (List api_Col)).length : Nat) : Int) = 2 := rfl
  rw [f]
  rw [slices_Concat_api_Col_api_Col.l0, l2, e0, w0, if_pos (by decide), Option.bind_some, a1, if_neg (by simp), slices_Concat_api_Col_api_Col.l0, l2, e1, w1, if_pos (by decide), Option.bind_some, a2, if_neg (by simp; omega), slices_Concat_api_Col_api_Col.l0, l2, if_neg (by decide)]
  unfold slices_Grow_api_Col_api_Col grow0
  rw [if_pos (by omega), Option.bind_some, show ((2 : Int) - 0).toNat + 1 = 0 + 1 + 1 + 1 from rfl, slices_Concat_api_Col_api_Col.l1, l2, e0, w0, if_pos (by decide), Option.bind_some, apd_of (by simp; omega), Option.bind_some, slices_Concat_api_Col_api_Col.l1, l2, e1, w1, if_pos (by decide), Option.bind_some, apd_of (by simpa using h), Option.bind_some, slices_Concat_api_Col_api_Col.l1, l2, if_neg (by decide), List.nil_append]
theorem concatC3 {xs ys zs : List api_Col} (h : (xs.length + ys.length + zs.length) * 24 ≤ 140737488355328) : slices_Concat_api_Col_api_Col [xs, ys, zs] = some (xs ++ ys ++ zs) := by
  unfold slices_Concat_api_Col_api_Col
  have e0 : ix [xs, ys, zs] 0 = some xs := rfl
  have e1 : ix [xs, ys, zs] 1 = some ys := rfl
  have e2 : ix [xs, ys, zs] 2 = some zs := rfl
  have f : ((([xs, ys, zs] : List (List api_Col)).length : Int) - 0).toNat + 1 = 0 + 1 + 1 + 1 + 1 := rfl
  have w0 : IntKind.i64.wrap (0 + 1) = 1 := by decide
  have w1 : IntKind.i64.wrap (1 + 1) = 2 := by decide
  have w2 : IntKind.i64.wrap (2 + 1) = 3 := by decide
  have a1 : IntKind.i64.wrap (0 + (xs.length : Int)) = xs.length := by rw [w64 (by omega) (by omega)]; omega
  have a2 : IntKind.i64.wrap ((xs.length : Int) + (ys.length : Int)) = ((xs.length + ys.length : Nat) : Int) := by rw [w64 (by omega) (by omega)]; omega
  have a3 : IntKind.i64.wrap (((xs.length + ys.length : Nat) : Int) + (zs.length : Int)) = ((xs.length + ys.length + zs.length : Nat) : Int) := by rw [w64 (by omega) (by omega)]; omega
  have l2 : ((([xs, ys, zs] : List (List api_Col)).length : Nat) : Int) = 3 := rfl
  rw [f]
  rw [slices_Concat_api_Col_api_Col.l0, l2, e0, w0, if_pos (by decide), Option.bind_some, a1, if_neg (by simp), slices_Concat_api_Col_api_Col.l0, l2, e1, w1, if_pos (by decide), Option.bind_some, a2, if_neg (by simp; omega), slices_Concat_api_Col_api_Col.l0, l2, e2, w2, if_pos (by decide), Option.bind_some, a3, if_neg (by simp; omega), slices_Concat_api_Col_api_Col.l0, l2, if_neg (by decide)]
  unfold slices_Grow_api_Col_api_Col grow0
  rw [if_pos (by omega), Option.bind_some, show ((3 : Int) - 0).toNat + 1 = 0 + 1 + 1 + 1 + 1 from rfl, slices_Concat_api_Col_api_Col.l1, l2, e0, w0, if_pos (by decide), Option.bind_some, apd_of (by simp; omega), Option.bind_some, slices_Concat_api_Col_api_Col.l1, l2, e1, w1, if_pos (by decide), Option.bind_some, apd_of (by simp; omega), Option.bind_some, slices_Concat_api_Col_api_Col.l1, l2, e2, w2, if_pos (by decide), Option.bind_some, apd_of (by simp; omega), Option.bind_some, slices_Concat_api_Col_api_Col.l1, l2, if_neg (by decide), List.nil_append]
def few (s : api_Schema) : Bool := decide (1 ≤ s.Keys.length ∧ s.Keys.length ≤ 4 ∧ 1 ≤ s.Vals.length ∧ s.Vals.length ≤ 4)
def oneS (s : api_Schema) : Bool := few s && wordS s.Name && (s.Keys ++ s.Vals).all (fun c => wordS c.Name) && s.Keys.all (fun c => decide (c.Kind ≠ 4)) && colsS (s.Keys ++ s.Vals)
theorem szS.cols {s : api_Schema} (h : szS s) (hf : few s = true) : okCols (s.Keys ++ s.Vals) := by
  unfold few at hf
  simp only [decide_eq_true_eq] at hf
  refine ⟨by rw [List.length_append]; omega, fun c hc => ?_⟩
  rcases List.mem_append.1 hc with hc | hc
  · have := h.kn c hc; omega
  · have := h.vn c hc; omega
theorem one_eq {s : api_Schema} (h : szS s) : schema_one s = some (oneS s) := by
  have hk := h.k
  have hv := h.v
  have hnn := h.n
  unfold schema_one
  rw [all1_eq (by simp) (fun l hl => by
    simp only [List.mem_cons, List.not_mem_nil, or_false] at hl
    rcases hl with rfl | rfl | rfl
    · exact ⟨by omega, fun c hc => by have := h.kn c hc; omega⟩
    · exact ⟨by omega, fun c hc => by have := h.vn c hc; omega⟩
    · exact ⟨by simp, fun c hc => by rw [List.mem_singleton] at hc; subst hc; show s.Name.size < _; omega⟩), Option.bind_some, all2_eq (by omega), Option.bind_some]
  have e : ([s.Keys, s.Vals, [(⟨s.Name, 0⟩ : api_Col)]].all fun l => l.all fun c => wordS c.Name) = (wordS s.Name && (s.Keys ++ s.Vals).all (fun c => wordS c.Name)) := by
    simp only [List.all_cons, List.all_nil, Bool.and_true, List.all_append]
    cases wordS s.Name <;> cases (s.Keys.all fun c => wordS c.Name) <;> cases (s.Vals.all fun c => wordS c.Name) <;> rfl
  rw [e]
  by_cases hf : few s = true
  · have hf' := hf
    unfold few at hf'
    simp only [decide_eq_true_eq] at hf'
    have hc : table_Check ⟨s.Keys ++ s.Vals, []⟩ = some (checkS ⟨s.Keys ++ s.Vals, []⟩) := check_eq (h.cols hf) ⟨by simp, fun _ h => nomatch h⟩
    rw [if_pos (by simp; omega), if_pos (by simp; omega), if_pos (by simp; omega)]
    have : decide ((s.Vals.length : Int) ≤ 4) = true := by simp; omega
    rw [this]
    unfold schema_one.j0 oneS
    rw [if_pos rfl, concatC2 (by omega), Option.bind_some, hc, Option.bind_some, hf]
    have e2 : (checkS ⟨s.Keys ++ s.Vals, []⟩ == 0) = colsS (s.Keys ++ s.Vals) := by
      unfold checkS
      cases colsS (s.Keys ++ s.Vals) <;> rfl
    rw [e2]
    cases wordS s.Name <;> cases ((s.Keys ++ s.Vals).all fun c => wordS c.Name) <;> cases (s.Keys.all fun c => decide (c.Kind ≠ 4)) <;> simp
  · have hf' : few s = false := by simpa using hf
    unfold oneS
    rw [hf']
    unfold few at hf
    simp only [decide_eq_true_eq] at hf
    simp only [schema_one.j0, Bool.false_and]
    by_cases h1 : 1 ≤ s.Keys.length
    · by_cases h2 : s.Keys.length ≤ 4
      · by_cases h3 : 1 ≤ s.Vals.length
        · rw [if_pos (by simp; omega), if_pos (by simp; omega), if_pos (by simp; omega), if_neg (by simp; omega)]
        · rw [if_pos (by simp; omega), if_pos (by simp; omega), if_neg (by simp only [decide_eq_true_eq]; omega), if_neg (by simp)]
      · rw [if_pos (by simp; omega), if_neg (by simp only [decide_eq_true_eq]; omega), if_neg (by simp)]
    · rw [if_neg (by simp only [decide_eq_true_eq]; omega), if_neg (by simp)]
theorem rone_l1 {s : api_Schema} {cs : List api_Col} (hc : okCols cs) : ∀ (fuel i : Nat), i ≤ cs.length → cs.length < i + fuel →
    ref05_One.l1 s cs fuel (i : Int) = some ((cs.drop i).all (fun c => wordS c.Name) && ((cs.take s.Keys.length).drop i).all (fun c => decide (c.Kind ≠ 4)) && colsS cs)
  | 0, i, _, h => by omega
  | fuel + 1, i, h1, h2 => by
    have hn := hc.1
    rw [ref05_One.l1]
    by_cases hi : i < cs.length
    · obtain ⟨x, hx, ex⟩ := getE hi
      have ih := rone_l1 (s := s) hc fuel (i + 1) (by omega) (by omega)
      rw [if_pos (dlt hi), ix_of hx, Option.bind_some, rword_eq (hc.2 x (List.mem_of_getElem? hx)), Option.bind_some, Option.bind_some, ex, List.all_cons]
      simp only [ref05_One.j2, w64_nat i (by omega), ih]
      by_cases hk : i < s.Keys.length
      · have et : (cs.take s.Keys.length).drop i = x :: (cs.take s.Keys.length).drop (i + 1) := by
          have hg : (cs.take s.Keys.length)[i]? = some x := by rw [List.getElem?_take, if_pos hk, hx]
          obtain ⟨y, hy, ey⟩ := getE (l := cs.take s.Keys.length) (i := i) (List.getElem?_eq_some_iff.1 hg).1
          rw [hg] at hy; rw [ey, Option.some.inj hy]
        rw [et, List.all_cons]
        cases wordS x.Name
        · simp
        · by_cases e : x.Kind = 4
          · simp [e, hk]
          · simp [e, hk]
      · have et : ∀ j, s.Keys.length ≤ j → (cs.take s.Keys.length).drop j = [] := fun j hj => List.drop_of_length_le (by rw [List.length_take]; omega)
        rw [et i (by omega), et (i + 1) (by omega)]
        cases wordS x.Name
        · simp
        · simp [hk]
    · rw [if_neg (dnl (by omega)), List.drop_of_length_le (by omega), List.drop_of_length_le (by rw [List.length_take]; omega), rcols_eq hc, Option.bind_some]; rfl
theorem rone_eq {s : api_Schema} (h : szS s) : ref05_One s = some (oneS s) := by
  have hk := h.k
  have hv := h.v
  have hnn := h.n
  have hj : ref05_One.j0 s true = some false := by unfold ref05_One.j0; rw [if_pos rfl]
  unfold ref05_One
  rw [rword_eq (by omega), Option.bind_some, hj]
  by_cases hf : few s = true
  · have hf' := hf
    unfold few at hf'
    simp only [decide_eq_true_eq] at hf'
    have hw := rone_l1 (s := s) (h.cols hf) ((s.Keys ++ s.Vals).length + 1) 0 (Nat.zero_le _) (by omega)
    rw [List.drop_zero, List.drop_zero, List.take_left, show ((0 : Nat) : Int) = 0 from rfl] at hw
    have hj2 : ref05_One.j0 s (decide ((s.Vals.length : Int) > 4)) = some ((s.Keys ++ s.Vals).all (fun c => wordS c.Name) && s.Keys.all (fun c => decide (c.Kind ≠ 4)) && colsS (s.Keys ++ s.Vals)) := by
      unfold ref05_One.j0
      rw [if_neg (by simp; omega), apd_of (by simp; omega), Option.bind_some, List.nil_append, apd_of (by omega), Option.bind_some, fuel_nat, hw]
    rw [hj2, if_neg (by simp; omega : ¬ decide ((s.Keys.length : Int) < 1) = true), if_neg (by simp; omega : ¬ decide ((s.Keys.length : Int) > 4) = true), if_neg (by simp; omega : ¬ decide ((s.Vals.length : Int) < 1) = true)]
    unfold oneS
    rw [hf]
    cases wordS s.Name <;> simp
  · have hf' : few s = false := by simpa using hf
    have e : oneS s = false := by unfold oneS; rw [hf']; rfl
    rw [e]
    unfold few at hf
    simp only [decide_eq_true_eq] at hf
    cases wordS s.Name
    · rfl
    · rw [if_neg (by simp)]
      by_cases h1 : s.Keys.length < 1
      · rw [if_pos (by simp only [decide_eq_true_eq]; omega)]
      · rw [if_neg (by simp only [decide_eq_true_eq]; omega)]
        by_cases h2 : s.Keys.length > 4
        · rw [if_pos (by simp only [decide_eq_true_eq]; omega)]
        · rw [if_neg (by simp only [decide_eq_true_eq]; omega)]
          by_cases h3 : s.Vals.length < 1
          · rw [if_pos (by simp only [decide_eq_true_eq]; omega)]
          · have : decide ((s.Vals.length : Int) > 4) = true := by simp only [decide_eq_true_eq]; omega
            rw [if_neg (by simp only [decide_eq_true_eq]; omega), this, hj]
def namedIn (pre : List api_Schema) (s : api_Schema) : Bool := pre.any fun x => decide (x.Name = s.Name)
def chkL (pre : List api_Schema) : List api_Schema → Bool
  | [] => true
  | s :: r => oneS s && !namedIn pre s && chkL (pre ++ [s]) r
def checkL (l : List api_Schema) : Int := if 1 ≤ l.length ∧ l.length ≤ 8 ∧ chkL [] l = true then 0 else 50
theorem idx_l0 {l : List api_Schema} {s : api_Schema} (hn : l.length < 4611686018427387904) : ∀ (fuel i : Nat), i ≤ l.length → l.length < i + fuel → ∃ j : Int, slices_IndexFunc_api_Schema_api_Schema_f_schema_Check_1p.l0 l s fuel (i : Int) = some j ∧ (decide (j ≥ 0)) = namedIn (l.drop i) s
  | 0, i, _, h => by omega
  | fuel + 1, i, h1, h2 => by
    rw [slices_IndexFunc_api_Schema_api_Schema_f_schema_Check_1p.l0]
    by_cases hi : i < l.length
    · obtain ⟨x, hx, ex⟩ := getE hi
      unfold schema_Check_1_cp
      rw [if_pos (dlt hi), ix_of hx, Option.bind_some, Option.bind_some, str_eq, ex]
      by_cases e : x.Name = s.Name
      · exact ⟨(i : Int), by rw [if_pos (by simpa using e)], by simp [namedIn, e]⟩
      · obtain ⟨j, h3, h4⟩ := idx_l0 (s := s) hn fuel (i + 1) (by omega) (by omega)
        exact ⟨j, by rw [if_neg (by simpa using e), w64_nat i (by omega), h3], by rw [h4]; simp [namedIn, e]⟩
    · exact ⟨-1, by rw [if_neg (dnl (by omega))], by rw [List.drop_of_length_le (by omega)]; rfl⟩
theorem conf_eq {l : List api_Schema} {s : api_Schema} (hn : l.length < 4611686018427387904) : slices_ContainsFunc_api_Schema_api_Schema_f_schema_Check_1p l s = some (namedIn l s) := by
  unfold slices_ContainsFunc_api_Schema_api_Schema_f_schema_Check_1p slices_IndexFunc_api_Schema_api_Schema_f_schema_Check_1p
  obtain ⟨j, h1, h2⟩ := idx_l0 (s := s) hn (l.length + 1) 0 (Nat.zero_le _) (by omega)
  rw [fuel_nat, show (0 : Int) = ((0 : Nat) : Int) from rfl, h1, Option.bind_some]
  rw [List.drop_zero] at h2
  rw [← h2]; rfl
theorem chkS_l1 {l : List api_Schema} (h : szL l) : ∀ (fuel i : Nat), i ≤ l.length → l.length < i + fuel → schema_Check.l1 l fuel (i : Int) = some (if chkL (l.take i) (l.drop i) = true then 0 else 50)
  | 0, i, _, h => by omega
  | fuel + 1, i, h1, h2 => by
    have hn := h.1
    rw [schema_Check.l1]
    by_cases hi : i < l.length
    · obtain ⟨x, hx, ex⟩ := getE hi
      have ih := chkS_l1 h fuel (i + 1) (by omega) (by omega)
      have et : l.take (i + 1) = l.take i ++ [x] := by rw [List.take_add_one, hx]; rfl
      have ec : cut l 0 (i : Int) = some (l.take i) := by rw [cut_of (by omega) (by omega) (by omega)]; simp
      rw [if_pos (dlt hi), ix_of hx, Option.bind_some, one_eq (h.2 x (List.mem_of_getElem? hx)), Option.bind_some, ec, Option.bind_some, conf_eq (by rw [List.length_take]; omega), Option.bind_some, ex, chkL]
      simp only [schema_Check.j2, w64_nat i (by omega), ih, et]
      cases oneS x
      · simp
      · cases namedIn (l.take i) x <;> simp
    · rw [if_neg (dnl (by omega)), List.drop_of_length_le (by omega)]; rfl
theorem chkS_eq {l : List api_Schema} (h : szL l) : schema_Check l = some (checkL l) := by
  have h0 := chkS_l1 h (l.length + 1) 0 (Nat.zero_le _) (by omega)
  rw [List.take_zero, List.drop_zero, show ((0 : Nat) : Int) = 0 from rfl] at h0
  unfold schema_Check checkL schema_Check.j0
  rw [fuel_nat, h0]
  by_cases h1 : l.length < 1
  · rw [if_pos (by simp only [decide_eq_true_eq]; omega), if_pos rfl, if_neg (by omega)]
  · rw [if_neg (by simp only [decide_eq_true_eq]; omega)]
    by_cases h2 : l.length > 8
    · rw [if_pos (by simp only [decide_eq_true_eq]; omega), if_neg (by omega)]
    · rw [if_neg (by simp only [decide_eq_true_eq]; omega)]
      by_cases h3 : chkL [] l = true
      · rw [if_pos h3, if_pos ⟨by omega, by omega, h3⟩]
      · rw [if_neg h3, if_neg (fun h => h3 h.2.2)]
theorem rchk_l2 {l : List api_Schema} {kl : Int → Option Int} {i : Nat} {s : api_Schema} (hi : l[i]? = some s) (hn : l.length < 4611686018427387904) : ∀ (fuel k : Nat), k ≤ i → i < k + fuel →
    ref05_Check.l2 kl l (i : Int) fuel (k : Int) = if namedIn ((l.take i).drop k) s = true then some 50 else kl (IntKind.i64.wrap ((i : Int) + 1))
  | 0, k, _, h => by omega
  | fuel + 1, k, h1, h2 => by
    have hl := (List.getElem?_eq_some_iff.1 hi).1
    rw [ref05_Check.l2]
    by_cases hk : k < i
    · have hg : (l.take i)[k]? = l[k]? := by rw [List.getElem?_take, if_pos hk]
      obtain ⟨x, hx, ex⟩ := getE (l := l.take i) (i := k) (by rw [List.length_take]; omega)
      rw [hg] at hx
      rw [if_pos (by simpa using hk), ix_of hx, Option.bind_some, ix_of hi, Option.bind_some, str_eq, w64_nat k (by omega), rchk_l2 hi hn fuel (k + 1) (by omega) (by omega), ex]
      by_cases e : x.Name = s.Name <;> simp [namedIn, e]
    · rw [if_neg (by simpa using hk), List.drop_of_length_le (by rw [List.length_take]; omega)]; rfl
theorem rchkL_l1 {l : List api_Schema} (h : szL l) : ∀ (fuel i : Nat), i ≤ l.length → l.length < i + fuel → ref05_Check.l1 l fuel (i : Int) = some (if chkL (l.take i) (l.drop i) = true then 0 else 50)
  | 0, i, _, h => by omega
  | fuel + 1, i, h1, h2 => by
    have hn := h.1
    rw [ref05_Check.l1]
    by_cases hi : i < l.length
    · obtain ⟨x, hx, ex⟩ := getE hi
      have ih := rchkL_l1 h fuel (i + 1) (by omega) (by omega)
      have et : l.take (i + 1) = l.take i ++ [x] := by rw [List.take_add_one, hx]; rfl
      rw [if_pos (dlt hi), ix_of hx, Option.bind_some, rone_eq (h.2 x (List.mem_of_getElem? hx)), Option.bind_some, ex, chkL]
      have h2 := rchk_l2 (kl := ref05_Check.l1 l fuel) hx hn (((i : Int) - 0).toNat + 1) 0 (Nat.zero_le _) (by omega)
      rw [List.drop_zero, w64_nat i (by omega), ih, et, show ((0 : Nat) : Int) = 0 from rfl] at h2
      rw [h2]
      cases oneS x
      · simp
      · cases namedIn (l.take i) x <;> simp
    · rw [if_neg (dnl (by omega)), List.drop_of_length_le (by omega)]; rfl
theorem rchkS_eq {l : List api_Schema} (h : szL l) : ref05_Check l = some (checkL l) := by
  have h0 := rchkL_l1 h (l.length + 1) 0 (Nat.zero_le _) (by omega)
  rw [List.take_zero, List.drop_zero, show ((0 : Nat) : Int) = 0 from rfl] at h0
  unfold ref05_Check checkL ref05_Check.j0
  rw [fuel_nat, h0]
  by_cases h1 : l.length < 1
  · rw [if_pos (by simp only [decide_eq_true_eq]; omega), if_pos rfl, if_neg (by omega)]
  · rw [if_neg (by simp only [decide_eq_true_eq]; omega)]
    by_cases h2 : l.length > 8
    · rw [if_pos (by simp only [decide_eq_true_eq]; omega), if_neg (by omega)]
    · rw [if_neg (by simp only [decide_eq_true_eq]; omega)]
      by_cases h3 : chkL [] l = true
      · rw [if_pos h3, if_pos ⟨by omega, by omega, h3⟩]
      · rw [if_neg h3, if_neg (fun h => h3 h.2.2)]
theorem fit_l0 {l : List api_Value} {cs : List api_Col} (hn : l.length < 4611686018427387904) (hl : l.length = cs.length) : ∀ (fuel i : Nat), i ≤ l.length → l.length < i + fuel →
    slices_EqualFunc_api_Value_api_Col_api_Value_api_Col_f_schema_fit_1.l0 l cs fuel (i : Int) = some (rowOk (l.drop i) (cs.drop i))
  | 0, i, _, h => by omega
  | fuel + 1, i, h1, h2 => by
    rw [slices_EqualFunc_api_Value_api_Col_api_Value_api_Col_f_schema_fit_1.l0]
    by_cases hi : i < l.length
    · obtain ⟨v, hv, ev⟩ := getE hi
      obtain ⟨c, hc, ec⟩ := getE (l := cs) (i := i) (by omega)
      unfold schema_fit_1
      rw [if_pos (dlt hi), ix_of hv, Option.bind_some, ix_of hc, Option.bind_some, valid_eq, Option.bind_some, w64_nat i (by omega), fit_l0 hn hl fuel (i + 1) (by omega) (by omega), ev, ec, rowOk]
      by_cases e : v.Kind = c.Kind
      · cases validS v <;> simp [e]
      · simp [e]
    · rw [if_neg (dnl (by omega)), List.drop_of_length_le (by omega), List.drop_of_length_le (by omega)]; rfl
theorem fit_eq {l : List api_Value} {cs : List api_Col} (hn : l.length < 4611686018427387904) : schema_fit l cs = some (rowOk l cs) := by
  unfold schema_fit slices_EqualFunc_api_Value_api_Col_api_Value_api_Col_f_schema_fit_1
  by_cases hl : l.length = cs.length
  · have := fit_l0 hn hl (l.length + 1) 0 (Nat.zero_le _) (by omega)
    rw [if_neg (by simp [hl]), fuel_nat, show (0 : Int) = ((0 : Nat) : Int) from rfl, this]; rfl
  · rw [if_pos (by simp; omega), Option.bind_some]
    cases h : rowOk l cs with
    | false => rfl
    | true => exact absurd (rowOk_len h) hl
theorem rfit_l0 {l : List api_Value} {cs : List api_Col} (hn : l.length < 4611686018427387904) (hl : l.length = cs.length) : ∀ (fuel i : Nat), i ≤ l.length → l.length < i + fuel →
    ref05_fits.l0 l cs fuel (i : Int) = some (rowOk (l.drop i) (cs.drop i))
  | 0, i, _, h => by omega
  | fuel + 1, i, h1, h2 => by
    rw [ref05_fits.l0]
    by_cases hi : i < l.length
    · obtain ⟨v, hv, ev⟩ := getE hi
      obtain ⟨c, hc, ec⟩ := getE (l := cs) (i := i) (by omega)
      rw [if_pos (dlt hi), ix_of hv, Option.bind_some, ix_of hc, Option.bind_some, Option.bind_some, rvalid_eq, Option.bind_some, ev, ec, rowOk]
      simp only [ref05_fits.j1, w64_nat i (by omega), rfit_l0 hn hl fuel (i + 1) (by omega) (by omega)]
      by_cases e : v.Kind = c.Kind
      · cases validS v <;> simp [e]
      · simp [e]
    · rw [if_neg (dnl (by omega)), List.drop_of_length_le (by omega), List.drop_of_length_le (by omega)]; rfl
theorem rfit_eq {l : List api_Value} {cs : List api_Col} (hn : l.length < 4611686018427387904) : ref05_fits l cs = some (rowOk l cs) := by
  unfold ref05_fits
  by_cases hl : l.length = cs.length
  · have := rfit_l0 hn hl (l.length + 1) 0 (Nat.zero_le _) (by omega)
    rw [if_neg (by simp [hl]), fuel_nat, show (0 : Int) = ((0 : Nat) : Int) from rfl, this]; rfl
  · rw [if_pos (by simp; omega)]
    cases h : rowOk l cs with
    | false => rfl
    | true => exact absurd (rowOk_len h) hl
def fitsS (l : List api_Schema) (p : api_Point) : Int :=
  if (findSc l p.Schema).2 = false then 50 else if rowOk p.Keys (findSc l p.Schema).1.Keys = true ∧ rowOk p.Vals (findSc l p.Schema).1.Vals = true ∧ 0 ≤ p.Time ∧ p.Time < 1099511627776 then 0 else 51
structure szP (p : api_Point) : Prop where
  k : p.Keys.length < 4611686018427387904
  v : p.Vals.length < 4611686018427387904
theorem szP_of {p : api_Point} (h : ok_api_Point p) : szP p := by
  obtain ⟨h1, ⟨h2, h3⟩, h4, h5, h6⟩ := h
  exact ⟨by omega, by omega⟩
theorem fits_eq {l : List api_Schema} {p : api_Point} (hl : l.length < 4611686018427387904) (hp : szP p) : schema_Fits l p = some (fitsS l p) := by
  unfold schema_Fits fitsS
  rw [fnd_eq hl, Option.bind_some]
  cases hf : (findSc l p.Schema).2
  · rw [if_pos (by simp), if_pos rfl]
  · rw [if_neg (show ¬ ((!true) = true) by decide), fit_eq hp.k, Option.bind_some]
    simp only [schema_Fits.j0, schema_Fits.j1, schema_Fits.j2]
    cases rowOk p.Keys (findSc l p.Schema).1.Keys
    · simp
    · rw [if_neg (show ¬ ((!true) = true) by decide), fit_eq hp.v, Option.bind_some]
      cases rowOk p.Vals (findSc l p.Schema).1.Vals
      · simp
      · rw [if_neg (show ¬ ((!true) = true) by decide)]
        by_cases h1 : p.Time < 0
        · have h1' : decide (p.Time < 0) = true := by simpa using h1
          rw [if_pos h1', if_pos h1', if_neg (by decide), if_neg (fun h => by omega)]
        · have h1' : ¬ decide (p.Time < 0) = true := by simpa using h1
          rw [if_neg h1']
          by_cases h2 : p.Time < 1099511627776
          · have h2' : ¬ decide (p.Time ≥ 1099511627776) = true := by simpa using h2
            rw [if_neg h2', if_neg (by decide), if_pos ⟨rfl, rfl, by omega, h2⟩]
          · have h2' : decide (p.Time ≥ 1099511627776) = true := by simpa using h2
            rw [if_pos h2', if_neg (by decide), if_neg (fun h => h2 h.2.2.2)]
theorem rfits_eq {l : List api_Schema} {p : api_Point} (hl : l.length < 4611686018427387904) (hp : szP p) : ref05_Fits l p = some (fitsS l p) := by
  unfold ref05_Fits fitsS
  rw [rfnd_eq hl, Option.bind_some]
  cases hf : (findSc l p.Schema).2
  · rw [if_pos (by simp), if_pos rfl]
  · rw [if_neg (show ¬ ((!true) = true) by decide), rfit_eq hp.k, Option.bind_some]
    simp only [ref05_Fits.j0]
    cases rowOk p.Keys (findSc l p.Schema).1.Keys
    · simp
    · rw [if_neg (show ¬ ((!true) = true) by decide), rfit_eq hp.v, Option.bind_some]
      cases rowOk p.Vals (findSc l p.Schema).1.Vals
      · simp
      · rw [if_neg (show ¬ ((!true) = true) by decide)]
        by_cases h1 : p.Time < 0
        · have h1' : decide (p.Time < 0) = true := by simpa using h1
          rw [if_pos h1', if_pos trivial, if_neg (by decide), if_neg (fun h => by omega)]
        · have h1' : ¬ decide (p.Time < 0) = true := by simpa using h1
          rw [if_neg h1']
          by_cases h2 : p.Time < 1099511627776
          · have h2' : ¬ decide (p.Time ≥ 1099511627776) = true := by simpa using h2
            rw [if_neg h2', if_neg (by decide), if_pos ⟨rfl, rfl, by omega, h2⟩]
          · have h2' : decide (p.Time ≥ 1099511627776) = true := by simpa using h2
            rw [if_pos h2', if_neg (by decide), if_neg (fun h => h2 h.2.2.2)]
theorem same_eq {a b : api_Schema} (ha : szS a) : law05_same a b = some (decide (a = b)) := by
  have hk := ha.k
  have hv := ha.v
  obtain ⟨n, k, v⟩ := a
  obtain ⟨n', k', v'⟩ := b
  unfold law05_same
  rw [str_eq]
  dsimp only at *
  rw [sc_eq (by omega), Option.bind_some, sc_eq (by omega), Option.bind_some]
  by_cases e1 : n = n'
  · by_cases e2 : k = k'
    · by_cases e3 : v = v' <;> simp [e1, e2, e3]
    · simp [e1, e2]
  · simp [e1]
def timeC : api_Col := ⟨⟨#[116, 105, 109, 101]⟩, 1⟩
def colsOf (s : api_Schema) : List api_Col := timeC :: (s.Keys ++ s.Vals)
theorem cols_eq {s : api_Schema} (h : (s.Keys.length + s.Vals.length + 1) * 24 ≤ 140737488355328) : schema_Cols s = some (colsOf s) := by
  unfold schema_Cols
  rw [concatC3 (by simp only [List.length_singleton]; omega), Option.bind_some]
  unfold colsOf timeC; simp
theorem rcolsOf_eq {s : api_Schema} (h : (s.Keys.length + s.Vals.length + 1) * 24 ≤ 140737488355328) : ref05_Cols s = some (colsOf s) := by
  unfold ref05_Cols
  rw [apd_of (by simp only [List.length_singleton]; omega), Option.bind_some, apd_of (by simp only [List.length_append, List.length_singleton]; omega), Option.bind_some]
  unfold colsOf timeC; simp
def load0 : api_Schema := ⟨⟨#[108, 111, 97, 100]⟩, [⟨⟨#[104, 111, 115, 116]⟩, 2⟩], [⟨⟨#[110]⟩, 1⟩]⟩
theorem szS_B {s : api_Schema} (h : (decide (s.Name.size ≤ 1000) && decide (s.Keys.length ≤ 1000) && decide (s.Vals.length ≤ 1000) && s.Keys.all (fun c => decide (c.Name.size ≤ 1000)) && s.Vals.all (fun c => decide (c.Name.size ≤ 1000))) = true) : szS s := by
  simp only [Bool.and_eq_true, decide_eq_true_eq, List.all_eq_true] at h
  obtain ⟨⟨⟨⟨h1, h2⟩, h3⟩, h4⟩, h5⟩ := h
  exact ⟨by omega, by omega, by omega, fun c hc => by have := h4 c hc; omega, fun c hc => by have := h5 c hc; omega⟩
theorem sz_load : szS load0 := szS_B (by decide +kernel)
def point0 (t : Int) : api_Point := ⟨⟨#[108, 111, 97, 100]⟩, [⟨2, 0, ⟨#[97]⟩, H0⟩], t, [⟨1, 7, ⟨#[]⟩, H0⟩]⟩
theorem szP_point (t : Int) : szP (point0 t) := ⟨by simp [point0], by simp [point0]⟩
theorem szP_any (n : ByteArray) (t : Int) : szP ⟨n, (point0 5).Keys, t, (point0 5).Vals⟩ := ⟨by simp [point0], by simp [point0]⟩
theorem shown_ok : law05_shown = some true := by
  have l1 : law05_load = some load0 := rfl
  have p1 : ∀ t, law05_point t = some (point0 t) := fun _ => rfl
  have zl : szL [load0] := ⟨by simp, fun s hs => by rw [List.mem_singleton] at hs; subst hs; exact sz_load⟩
  have zl2 : szL [load0, load0] := ⟨by simp, fun s hs => by simp only [List.mem_cons, List.not_mem_nil, or_false, or_self] at hs; subst hs; exact sz_load⟩
  have z0 : szL [] := ⟨by simp, fun s hs => nomatch hs⟩
  have a1 : apd 64 [load0] [load0] = some [load0, load0] := by rw [apd_of (by simp)]; rfl
  unfold law05_shown
  rw [l1, Option.bind_some, p1, Option.bind_some, fnd_eq zl.1, Option.bind_some, fnd_eq zl.1, Option.bind_some, word_eq (by decide +kernel), Option.bind_some, if_pos (by decide +kernel), word_eq (by decide +kernel), Option.bind_some, if_pos (by decide +kernel), word_eq (by decide +kernel), Option.bind_some, if_pos (by decide +kernel),
    chkS_eq zl, Option.bind_some, if_pos (by decide +kernel), Option.bind_some, a1, Option.bind_some, chkS_eq zl2, Option.bind_some, if_pos (by decide +kernel), chkS_eq z0, Option.bind_some, if_pos (by decide +kernel), Option.bind_some, fits_eq zl.1 (szP_point 5), Option.bind_some, if_pos (by decide +kernel),
    p1, Option.bind_some, fits_eq zl.1 (szP_point (-1)), Option.bind_some, if_pos (by decide +kernel), fits_eq zl.1 (szP_any _ _), Option.bind_some, if_pos (by decide +kernel), if_pos (by decide +kernel), if_pos (by decide +kernel), Option.bind_some, cols_eq (by decide +kernel), Option.bind_some]
  decide +kernel
theorem szL_of {l : List api_Schema} (h : l.length * 64 ≤ 140737488351232 ∧ ∀ x ∈ l, ok_api_Schema x) : szL l := ⟨by omega, fun s hs => szS_of (h.2 s hs)⟩
theorem szL.take {l : List api_Schema} (h : szL l) (n : Nat) : szL (l.take n) := ⟨by have := h.1; rw [List.length_take]; omega, fun s hs => h.2 s (List.mem_of_mem_take hs)⟩
theorem SchemaFits_pure (l : List api_Schema) (ol : l.length * 64 ≤ 140737488351232 ∧ ∀ x ∈ l, ok_api_Schema x) (p : api_Point) (op : ok_api_Point p) : law05_SchemaFits l p = some true := by
  have h := szL_of ol
  have hp := szP_of op
  have fin : ∀ m, szL m → law05_SchemaFits.j0 p true m = some true := fun m hm => by
    unfold law05_SchemaFits.j0
    rw [if_pos rfl, fits_eq hm.1 hp, Option.bind_some, rfits_eq hm.1 hp, Option.bind_some]; simp
  unfold law05_SchemaFits
  rw [shown_ok, Option.bind_some]
  by_cases hl : l.length > 20
  · rw [if_pos (by simp; omega), cut_of (by omega) (by omega) (by omega), Option.bind_some]
    exact fin _ (h.take _)
  · rw [if_neg (by simp; omega)]
    exact fin l h
theorem checks_j0 {l : List api_Schema} {name : ByteArray} (h : szL l) (hn : name.size < 4611686018427387904) (hs : ∀ s ∈ l, (s.Keys.length + s.Vals.length + 1) * 24 ≤ 140737488355328) : law05_SchemaChecks.j0 name true l = some true := by
  have zf := szS_find (name := name) h.2
  have hsf : ((findSc l name).1.Keys.length + (findSc l name).1.Vals.length + 1) * 24 ≤ 140737488355328 := by
    unfold findSc
    split
    · rename_i s hs'; exact hs s (List.mem_of_find?_eq_some hs')
    · simp
  have hcl : (colsOf (findSc l name).1).length < 4611686018427387904 := by unfold colsOf; rw [List.length_cons, List.length_append]; omega
  unfold law05_SchemaChecks.j0
  rw [fnd_eq h.1, Option.bind_some, rfnd_eq h.1, Option.bind_some, same_eq zf, Option.bind_some, cols_eq hsf, Option.bind_some, rcolsOf_eq hsf, Option.bind_some, sc_eq hcl, Option.bind_some, if_pos rfl, word_eq hn, Option.bind_some, rword_eq hn, Option.bind_some, if_pos (by simp), chkS_eq h, Option.bind_some, rchkS_eq h, Option.bind_some]
  simp
theorem SchemaChecks_pure (l : List api_Schema) (ol : l.length * 64 ≤ 140737488351232 ∧ ∀ x ∈ l, ok_api_Schema x) (name : ByteArray) (on : name.size ≤ 140737488351232) (hs : ∀ s ∈ l, s.Keys.length + s.Vals.length ≤ 2097152) : law05_SchemaChecks l name = some true := by
  have h := szL_of ol
  unfold law05_SchemaChecks
  rw [shown_ok, Option.bind_some]
  by_cases hl : l.length > 20
  · rw [if_pos (by simp; omega), cut_of (by omega) (by omega) (by omega), Option.bind_some]
    exact checks_j0 (h.take _) (by omega) (fun s hs' => by have := hs s (List.mem_of_mem_take (i := 20) hs'); omega)
  · rw [if_neg (by simp; omega)]
    exact checks_j0 h (by omega) (fun s hs' => by have := hs s hs'; omega)
theorem namedIn_iff {pre : List api_Schema} {s : api_Schema} : namedIn pre s = true ↔ s.Name ∈ pre.map (·.Name) := by
  unfold namedIn
  rw [List.any_eq_true]
  simp [List.mem_map]
theorem chkL_iff : ∀ (l pre : List api_Schema), chkL pre l = true ↔ (∀ s ∈ l, oneS s = true) ∧ (l.map (·.Name)).Nodup ∧ ∀ s ∈ l, s.Name ∉ pre.map (·.Name)
  | [], pre => by simp [chkL]
  | s :: r, pre => by
    simp only [chkL, Bool.and_eq_true, Bool.not_eq_true', ← Bool.not_eq_true, namedIn_iff, chkL_iff r (pre ++ [s]), List.map_cons, List.nodup_cons, List.mem_cons, forall_eq_or_imp, List.map_append, List.map_nil, List.mem_append, List.not_mem_nil, or_false, not_or]
    constructor
    · rintro ⟨⟨h1, h2⟩, h3, h4, h5⟩
      refine ⟨⟨h1, h3⟩, ⟨fun hm => ?_, h4⟩, h2, fun x hx => (h5 x hx).1⟩
      obtain ⟨x, hx, e⟩ := List.mem_map.1 hm
      exact (h5 x hx).2 e
    · rintro ⟨⟨h1, h3⟩, ⟨hm, h4⟩, h2, h5⟩
      exact ⟨⟨h1, h2⟩, h3, h4, fun x hx => ⟨h5 x hx, fun e => hm (e ▸ List.mem_map.2 ⟨x, hx, rfl⟩)⟩⟩
theorem checkL_zero {l : List api_Schema} : checkL l = 0 ↔ 1 ≤ l.length ∧ l.length ≤ 8 ∧ (∀ s ∈ l, oneS s = true) ∧ (l.map (·.Name)).Nodup := by
  unfold checkL
  have := chkL_iff l []
  by_cases h : 1 ≤ l.length ∧ l.length ≤ 8 ∧ chkL [] l = true
  · rw [if_pos h]
    have h2 := this.1 h.2.2
    exact ⟨fun _ => ⟨h.1, h.2.1, h2.1, h2.2.1⟩, fun _ => rfl⟩
  · rw [if_neg h]
    exact ⟨fun h => by simp at h, fun hh => absurd ⟨hh.1, hh.2.1, this.2 ⟨hh.2.2.1, hh.2.2.2, by simp⟩⟩ h⟩
theorem checkL_two (l : List api_Schema) : checkL l = 0 ∨ checkL l = 50 := by unfold checkL; split <;> simp
theorem nodup_find {l : List api_Schema} (h : (l.map (·.Name)).Nodup) {s : api_Schema} (hs : s ∈ l) : findSc l s.Name = (s, true) := by
  induction l with
  | nil => cases hs
  | cons x r ih =>
    rw [List.map_cons, List.nodup_cons] at h
    rw [findSc_cons]
    by_cases e : x = s
    · subst e; simp
    · have hr : s ∈ r := by
        cases hs with
        | head => exact absurd rfl e
        | tail _ hs => exact hs
      have : ¬ x.Name = s.Name := fun h2 => h.1 (h2 ▸ List.mem_map.2 ⟨s, hr, rfl⟩)
      rw [if_neg this]
      exact ih h.2 hr
theorem oneS_few {s : api_Schema} (h : oneS s = true) : few s = true := by
  unfold oneS at h
  simp only [Bool.and_eq_true] at h
  exact h.1.1.1.1
theorem few_of {s : api_Schema} (h : few s = true) : 1 ≤ s.Keys.length ∧ s.Keys.length ≤ 4 ∧ 1 ≤ s.Vals.length ∧ s.Vals.length ≤ 4 := by
  unfold few at h; simpa using h
theorem turned_l2 {l m : List api_Schema} (h : szL l) (hm : szL m) (hp : m.Perm l) (hz : checkL l = 0) : ∀ (fuel i : Nat), i ≤ l.length → l.length < i + fuel → law05_SchemaTurned.l2 true l m fuel (i : Int) = some true
  | 0, i, _, h => by omega
  | fuel + 1, i, h1, h2 => by
    obtain ⟨_, _, ho, hd⟩ := checkL_zero.1 hz
    have hn := h.1
    have hdm : (m.map (·.Name)).Nodup := (hp.map _).nodup_iff.2 hd
    rw [law05_SchemaTurned.l2]
    by_cases hi : i < l.length
    · obtain ⟨s, hs, _⟩ := getE hi
      have hsl := List.mem_of_getElem? hs
      have hf := nodup_find hdm (hp.mem_iff.2 hsl)
      have hfw := few_of (oneS_few (ho s hsl))
      unfold law05_SchemaTurned.j3
      rw [if_pos (dlt hi), chkS_eq h, Option.bind_some, hz, if_pos (by decide), ix_of hs, Option.bind_some, fnd_eq hm.1, Option.bind_some, Option.bind_some, hf, same_eq (h.2 s hsl), Option.bind_some, if_neg (show ¬ ((!true) = true) by decide), if_neg (by simp), cols_eq (by dsimp only; omega), Option.bind_some]
      unfold law05_SchemaTurned.j4
      have e : (((colsOf s).length : Int) != IntKind.i64.wrap (IntKind.i64.wrap (1 + (s.Keys.length : Int)) + (s.Vals.length : Int))) = false := by
        rw [w64 (x := 1 + (s.Keys.length : Int)) (by omega) (by omega), w64 (by omega) (by omega)]
        unfold colsOf
        simp only [List.length_cons, List.length_append, bne_eq_false_iff_eq]
        omega
      rw [e, if_neg (by decide), w64_nat i (by omega)]
      exact turned_l2 h hm hp hz fuel (i + 1) (by omega) (by omega)
    · unfold law05_SchemaTurned.j3
      rw [if_neg (dnl (by omega)), if_neg (by decide)]
theorem turned_l2n {l m : List api_Schema} (h : szL l) (hz : checkL l ≠ 0) (fuel : Nat) : law05_SchemaTurned.l2 true l m (fuel + 1) 0 = some true := by
  rw [law05_SchemaTurned.l2]
  unfold law05_SchemaTurned.j3
  by_cases hi : 0 < l.length
  · rw [if_pos (by simp only [decide_eq_true_eq]; omega), chkS_eq h, Option.bind_some, if_neg (by simpa using hz)]
  · rw [if_neg (by simp only [decide_eq_true_eq]; omega), if_neg (by decide)]
theorem turned_l1 {l : List api_Schema} (h : szL l) (hl : l.length ≤ 20) : ∀ (fuel i : Nat), i ≤ l.length → i < fuel → law05_SchemaTurned.l1 true l fuel ((l.drop i).reverse) ((i : Int) - 1) = some true
  | 0, i, _, h => by omega
  | fuel + 1, i, h1, h2 => by
    rw [law05_SchemaTurned.l1]
    cases i with
    | zero =>
      have hp : (l.drop 0).reverse.Perm l := by simp [List.reverse_perm]
      have hm : szL (l.drop 0).reverse := ⟨by rw [hp.length_eq]; omega, fun s hs => h.2 s (hp.mem_iff.1 hs)⟩
      have hc : checkL (l.drop 0).reverse = checkL l := by
        have e : checkL (l.drop 0).reverse = 0 ↔ checkL l = 0 := by
          rw [checkL_zero, checkL_zero, hp.length_eq, (hp.map _).nodup_iff]
          exact ⟨fun h => ⟨h.1, h.2.1, fun s hs => h.2.2.1 s (hp.mem_iff.2 hs), h.2.2.2⟩, fun h => ⟨h.1, h.2.1, fun s hs => h.2.2.1 s (hp.mem_iff.1 hs), h.2.2.2⟩⟩
        rcases checkL_two (l.drop 0).reverse with h1 | h1 <;> rcases checkL_two l with h2 | h2 <;> omega
      rw [if_neg (by simp), chkS_eq h, Option.bind_some, chkS_eq hm, Option.bind_some, hc, if_neg (by simp), fuel_nat]
      by_cases hz : checkL l = 0
      · exact turned_l2 h hm hp hz _ 0 (Nat.zero_le _) (by omega)
      · exact turned_l2n h hz _
    | succ i =>
      obtain ⟨r, hx, ex⟩ := getE (l := l) (i := i) (by omega)
      have e : ((i + 1 : Nat) : Int) - 1 = (i : Int) := by omega
      rw [e, if_pos (by simp), ix_of hx, Option.bind_some, apd_of (by simp only [List.length_reverse, List.length_drop, List.length_singleton]; omega), Option.bind_some, w64 (by omega) (by omega)]
      have e2 : (l.drop (i + 1)).reverse ++ [r] = (l.drop i).reverse := by rw [ex]; simp
      rw [e2]
      exact turned_l1 h hl fuel i (by omega) (by omega)
theorem turned_j0 {l : List api_Schema} (h : szL l) (hl : l.length ≤ 20) : law05_SchemaTurned.j0 true l = some true := by
  unfold law05_SchemaTurned.j0
  rw [w64 (by omega) (by omega)]
  have := turned_l1 h hl ((((l.length : Int) - 1) - 0).toNat + 2) l.length (Nat.le_refl _) (by omega)
  rw [List.drop_of_length_le (Nat.le_refl _)] at this
  exact this
theorem SchemaTurned_pure (l : List api_Schema) (ol : l.length * 64 ≤ 140737488351232 ∧ ∀ x ∈ l, ok_api_Schema x) : law05_SchemaTurned l = some true := by
  have h := szL_of ol
  unfold law05_SchemaTurned
  rw [shown_ok, Option.bind_some]
  by_cases hl : l.length > 20
  · rw [if_pos (by simp; omega), cut_of (by omega) (by omega) (by omega), Option.bind_some]
    exact turned_j0 (h.take _) (by simp; omega)
  · rw [if_neg (by simp; omega)]
    exact turned_j0 h (by omega)
theorem rowOk_app : ∀ {a : List api_Value} {c : List api_Col} {b : List api_Value} {d : List api_Col}, rowOk a c = true → rowOk b d = true → rowOk (a ++ b) (c ++ d) = true
  | [], [], _, _, _, h => h
  | [], _ :: _, _, _, h, _ => by simp [rowOk] at h
  | _ :: _, [], _, _, h, _ => by simp [rowOk] at h
  | v :: a, c :: cs, b, d, h, h2 => by
    simp only [rowOk, Bool.and_eq_true, List.cons_append] at *
    exact ⟨h.1, rowOk_app h.2 h2⟩
theorem allFrom_of {α : Type} {p : Nat → α → Bool} : ∀ {xs : List α} {i : Nat}, (∀ (j : Nat) x, xs[j]? = some x → p (i + j) x = true) → allFrom p i xs = true
  | [], _, _ => rfl
  | x :: r, i, h => by
    simp only [allFrom, Bool.and_eq_true]
    exact ⟨h 0 x rfl, allFrom_of fun j y hy => by have := h (j + 1) y (by simpa using hy); rwa [show i + 1 + j = i + (j + 1) by omega]⟩
theorem allFrom_get {α : Type} {p : Nat → α → Bool} : ∀ {xs : List α} {i : Nat}, allFrom p i xs = true → ∀ (j : Nat) x, xs[j]? = some x → p (i + j) x = true
  | [], _, _, j, x, hx => by simp at hx
  | y :: r, i, h, j, x, hx => by
    simp only [allFrom, Bool.and_eq_true] at h
    cases j with
    | zero => simp at hx; subst hx; exact h.1
    | succ j =>
      have := allFrom_get h.2 j x (by simpa using hx)
      rwa [show i + (j + 1) = i + 1 + j by omega]
theorem word_ne_time {n : ByteArray} (h : wordS n = true) : timeC.Name ≠ n := by
  unfold wordS at h
  simp only [Bool.and_eq_true, notin_iff] at h
  intro e
  refine h.2 ?_
  rw [← e]
  unfold timeC takenW
  simp
theorem findSc_self {cols : List api_Col} : findS (timeC :: cols) timeC.Name = 0 := by rw [findS_cons, if_pos rfl]
theorem cols_ok {s : api_Schema} (h : oneS s = true) : colsS (colsOf s) = true := by
  have hf := few_of (oneS_few h)
  unfold oneS at h
  simp only [Bool.and_eq_true, List.all_eq_true] at h
  obtain ⟨⟨⟨⟨_, _⟩, hw⟩, _⟩, hc⟩ := h
  unfold colsS at hc ⊢
  rw [Bool.and_eq_true] at hc ⊢
  refine ⟨?_, by unfold colsOf; simp; omega⟩
  unfold colsOf
  simp only [allFrom, Bool.and_eq_true]
  refine ⟨?_, allFrom_of fun j x hx => ?_⟩
  · unfold colOk
    rw [findSc_self]
    decide +kernel
  · have h1 := allFrom_get hc.1 j x hx
    have hne := word_ne_time (hw x (List.mem_of_getElem? hx))
    unfold colOk at h1 ⊢
    simp only [Bool.and_eq_true, decide_eq_true_eq, Nat.zero_add] at h1 ⊢
    refine ⟨h1.1, ?_⟩
    rw [findS_cons, if_neg hne, h1.2, if_neg (by omega)]
    omega
theorem fits_zero {l : List api_Schema} {p : api_Point} (h : fitsS l p = 0) : (findSc l p.Schema).2 = true ∧ rowOk p.Keys (findSc l p.Schema).1.Keys = true ∧ rowOk p.Vals (findSc l p.Schema).1.Vals = true := by
  unfold fitsS at h
  split at h
  · simp at h
  · rename_i h1
    split at h
    · rename_i h2; exact ⟨by simpa using h1, h2.1, h2.2.1⟩
    · simp at h
theorem SchemaTables_pure (l : List api_Schema) (ol : l.length * 64 ≤ 140737488351232 ∧ ∀ x ∈ l, ok_api_Schema x) (p : api_Point) (op : ok_api_Point p) : law05_SchemaTables l p = some true := by
  have h := szL_of ol
  have hp := szP_of op
  have hj : law05_SchemaTables.j0 l p true true = some true := by unfold law05_SchemaTables.j0; rw [if_pos rfl]
  unfold law05_SchemaTables
  rw [shown_ok, Option.bind_some, hj]
  by_cases hl : l.length > 20
  · rw [if_pos (by simp; omega)]
  · rw [if_neg (by simp; omega), chkS_eq h, Option.bind_some]
    by_cases hz : checkL l = 0
    · rw [if_neg (by simpa using hz), fits_eq h.1 hp, Option.bind_some]
      by_cases hf : fitsS l p = 0
      · obtain ⟨f1, f2, f3⟩ := fits_zero hf
        obtain ⟨_, _, ho, _⟩ := checkL_zero.1 hz
        have hs := findSc_mem f1
        have ho1 := ho _ hs.1
        have hfw := few_of (oneS_few ho1)
        have k1 := rowOk_len f2
        have k2 := rowOk_len f3
        unfold law05_SchemaTables.j0
        rw [if_neg (by simpa using hf), fnd_eq h.1, Option.bind_some, apd_of (by simp only [List.length_singleton]; omega), Option.bind_some, apd_of (by simp only [List.length_append, List.length_singleton]; omega), Option.bind_some, if_pos rfl, if_pos f1, cols_eq (by omega), Option.bind_some]
        have hco : okCols (colsOf (findSc l p.Schema).1) := ⟨by unfold colsOf; simp; omega, fun c hc => by
          unfold colsOf at hc
          cases hc with
          | head => decide +kernel
          | tail _ hc => exact ((h.2 _ hs.1).cols (oneS_few ho1)).2 c hc⟩
        have hrow : rowOk ([(⟨1, p.Time, (⟨#[]⟩ : ByteArray), (⟨0, 0, 0, 0, 0, 0, 0, 0⟩ : Arr8)⟩ : api_Value)] ++ p.Keys ++ p.Vals) (colsOf (findSc l p.Schema).1) = true := by
          unfold colsOf
          rw [List.append_assoc, List.singleton_append]
          simp only [rowOk, Bool.and_eq_true]
          refine ⟨⟨rfl, ?_⟩, rowOk_app f2 f3⟩
          unfold validS H0; simp
        have hck : ref02_Check ⟨colsOf (findSc l p.Schema).1, [[(⟨1, p.Time, (⟨#[]⟩ : ByteArray), (⟨0, 0, 0, 0, 0, 0, 0, 0⟩ : Arr8)⟩ : api_Value)] ++ p.Keys ++ p.Vals]⟩ = some (checkS ⟨colsOf (findSc l p.Schema).1, [[(⟨1, p.Time, (⟨#[]⟩ : ByteArray), (⟨0, 0, 0, 0, 0, 0, 0, 0⟩ : Arr8)⟩ : api_Value)] ++ p.Keys ++ p.Vals]⟩) := rcheck_eq hco ⟨by simp, fun r hr => by rw [List.mem_singleton] at hr; subst hr; simp only [List.length_append, List.length_singleton]; omega⟩
        rw [hck, Option.bind_some, checkS_zero.2 ⟨cols_ok ho1, fun r hr => by rw [List.mem_singleton] at hr; subst hr; exact hrow⟩]
        rfl
      · have : (fitsS l p != 0) = true := by simpa using hf
        rw [this, hj]
    · rw [if_pos (by simpa using hz)]
theorem find_take {l : List api_Schema} {x : api_Schema} {name : ByteArray} (h : name ≠ x.Name) : findSc (l ++ [x]) name = findSc l name := by
  induction l with
  | nil => rw [List.nil_append, findSc_cons, if_neg (fun e => h e.symm)]
  | cons s r ih => rw [List.cons_append, findSc_cons, findSc_cons, ih]
theorem SchemaGrows_pure (l : List api_Schema) (ol : l.length * 64 ≤ 140737488351232 ∧ ∀ x ∈ l, ok_api_Schema x) (p : api_Point) (op : ok_api_Point p) : law05_SchemaGrows l p = some true := by
  have h := szL_of ol
  have hp := szP_of op
  have hj : law05_SchemaGrows.j0 l p true true = some true := by unfold law05_SchemaGrows.j0; rw [if_pos rfl]
  unfold law05_SchemaGrows
  rw [shown_ok, Option.bind_some, hj]
  by_cases hl : l.length > 20
  · rw [if_pos (by simp; omega)]
  · rw [if_neg (by simp; omega)]
    by_cases hl2 : l.length < 2
    · rw [if_pos (by simp; omega)]
    · rw [if_neg (by simp only [decide_eq_true_eq]; omega), chkS_eq h, Option.bind_some]
      by_cases hz : checkL l = 0
      · obtain ⟨_, c2, ho, hd⟩ := checkL_zero.1 hz
        have hlast : l[l.length - 1]? = some l[l.length - 1] := List.getElem?_eq_getElem (by omega)
        generalize l[l.length - 1] = x at hlast
        have el : l.take (l.length - 1) ++ [x] = l := by
          have := List.take_add_one (l := l) (i := l.length - 1)
          rw [hlast, show l.length - 1 + 1 = l.length by omega, List.take_of_length_le (Nat.le_refl _)] at this
          exact this.symm
        have hm := h.take (l.length - 1)
        have hdm : x.Name ∉ (l.take (l.length - 1)).map (·.Name) ∧ ((l.take (l.length - 1)).map (·.Name)).Nodup := by
          rw [← el, List.map_append, List.nodup_append] at hd
          refine ⟨fun hx => hd.2.2 _ hx x.Name (by simp) rfl, ?_⟩
          exact hd.1
        have hcm : checkL (l.take (l.length - 1)) = 0 := checkL_zero.2 ⟨by rw [List.length_take]; omega, by rw [List.length_take]; omega, fun s hs => ho s (List.mem_of_mem_take hs), hdm.2⟩
        have hnone : fitsS (l.take (l.length - 1)) ⟨x.Name, [], 0, []⟩ = 50 := by
          unfold fitsS
          rw [if_pos (findSc_none.2 fun s hs (e : s.Name = x.Name) => hdm.1 (List.mem_map.2 ⟨s, hs, e⟩))]
        have hz0 : szP ⟨x.Name, [], 0, []⟩ := ⟨by simp, by simp⟩
        have w1 : IntKind.i64.wrap ((l.length : Int) - 1) = ((l.length - 1 : Nat) : Int) := by rw [w64 (by omega) (by omega)]; omega
        have ec : cut l 0 ((l.length - 1 : Nat) : Int) = some (l.take (l.length - 1)) := by rw [cut_of (by omega) (by omega) (by omega)]; simp
        unfold law05_SchemaGrows.j0
        rw [if_neg (by simpa using hz), w1, ec, Option.bind_some, ix_of hlast, Option.bind_some, if_pos rfl, chkS_eq hm, Option.bind_some, hcm, if_pos (by decide), str_eq]
        by_cases hs : p.Schema = x.Name
        · rw [if_pos (by simpa using hs), fits_eq hm.1 hz0, Option.bind_some, hnone]; rfl
        · have hsame : fitsS l p = fitsS (l.take (l.length - 1)) p := by
            unfold fitsS
            conv => lhs; rw [← el]
            rw [find_take hs]
          rw [if_neg (by simpa using hs), fits_eq h.1 hp, Option.bind_some, fits_eq hm.1 hp, Option.bind_some, hsame, if_pos (by simp), fits_eq hm.1 hz0, Option.bind_some, hnone]; rfl
      · have : (checkL l != 0) = true := by simpa using hz
        rw [this, hj]
end Go.Proofs.Ytiegghohcghmkaa.M
