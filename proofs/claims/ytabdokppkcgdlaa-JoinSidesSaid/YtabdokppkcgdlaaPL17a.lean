/- Joins: columns, places, marks, rows: what the program answers. -/
import Derived.Test.YtabdokppkcgdlaaPure
import Derived.Test.YtabdokppkcgdlaaPLWo
import Derived.Test.YtabdokppkcgdlaaPLTc
namespace Go.Proofs.Ytabdokppkcgdlaa.M
open Go Go.Eng Go.Proofs Go.RowKit
set_option maxRecDepth 100000
set_option linter.unusedVariables false
set_option linter.unusedSimpArgs false

theorem nameS_size {s : ByteArray} (h : nameS s = true) : s.size ≤ 24 := by
  unfold nameS at h
  split at h
  · cases h
  · simp only [Bool.and_eq_true, decide_eq_true_eq] at h; exact h.2
theorem allFrom_mem {α : Type} {p : Nat → α → Bool} : ∀ {l : List α} {i : Nat}, allFrom p i l = true → ∀ x ∈ l, ∃ j, p j x = true
  | [], _, _, x, hx => by cases hx
  | y :: l, i, h, x, hx => by
    simp only [allFrom, Bool.and_eq_true] at h
    rcases List.mem_cons.1 hx with rfl | hx
    · exact ⟨i, h.1⟩
    · exact allFrom_mem h.2 x hx
theorem colsS_col {cols : List api_Col} (h : colsS cols = true) : cols.length ≤ 16 ∧ ∀ c ∈ cols, c.Name.size ≤ 24 ∧ 1 ≤ c.Kind ∧ c.Kind ≤ 4 := by
  unfold colsS at h
  simp only [Bool.and_eq_true, decide_eq_true_eq] at h
  refine ⟨h.2.2, fun c hc => ?_⟩
  obtain ⟨j, hj⟩ := allFrom_mem h.1 c hc
  unfold colOk at hj
  simp only [Bool.and_eq_true, decide_eq_true_eq] at hj
  exact ⟨nameS_size hj.1.1, hj.1.2⟩
theorem rowOk_valid : ∀ {r : List api_Value} {cs : List api_Col}, rowOk r cs = true → ∀ v ∈ r, validS v = true
  | [], [], _, v, hv => by cases hv
  | [], _ :: _, h, _, _ => by simp [rowOk] at h
  | _ :: _, [], h, _, _ => by simp [rowOk] at h
  | y :: r, c :: cs, h, v, hv => by
    simp only [rowOk, Bool.and_eq_true] at h
    rcases List.mem_cons.1 hv with rfl | hv
    · exact h.1.2
    · exact rowOk_valid h.2 v hv
theorem rowOk_kind : ∀ {r : List api_Value} {cs : List api_Col} {k : Nat} {v : api_Value} {c : api_Col}, rowOk r cs = true → r[k]? = some v → cs[k]? = some c → v.Kind = c.Kind
  | [], _, _, _, _, _, h, _ => by simp at h
  | _ :: _, [], _, _, _, h, _, _ => by simp [rowOk] at h
  | u :: r, d :: cs, 0, v, c, h, hv, hc => by
    simp only [rowOk, Bool.and_eq_true, decide_eq_true_eq] at h
    simp at hv hc; subst hv; subst hc; exact h.1.1
  | u :: r, d :: cs, k + 1, v, c, h, hv, hc => by
    simp only [rowOk, Bool.and_eq_true] at h
    exact rowOk_kind h.2 (by simpa using hv) (by simpa using hc)

theorem concat2 {xs ys : List api_Value} (h : (xs.length + ys.length) * 96 ≤ 140737488355328) : slices_Concat_api_Value_api_Value [xs, ys] = some (xs ++ ys) := by
  unfold slices_Concat_api_Value_api_Value
  have e0 : ix [xs, ys] 0 = some xs := rfl
  have e1 : ix [xs, ys] 1 = some ys := rfl
  have f : ((([xs, ys] : List (List api_Value)).length : Int) - 0).toNat + 1 = 0 + 1 + 1 + 1 := rfl
  rw [f]
  have w0 : IntKind.i64.wrap (0 + 1) = 1 := by decide
  have w1 : IntKind.i64.wrap (1 + 1) = 2 := by decide
  have a1 : IntKind.i64.wrap (0 + (xs.length : Int)) = xs.length := by rw [w64 (by omega) (by omega)]; omega
  have a2 : IntKind.i64.wrap ((xs.length : Int) + (ys.length : Int)) = ((xs.length + ys.length : Nat) : Int) := by rw [w64 (by omega) (by omega)]; omega
  have l2 : ((([xs, ys] : List (List api_Value)).length : Nat) : Int) = 2 := rfl
  rw [slices_Concat_api_Value_api_Value.l0, l2, e0, w0, if_pos (by decide), Option.bind_some, a1, if_neg (by simp), slices_Concat_api_Value_api_Value.l0, l2, e1, w1, if_pos (by decide), Option.bind_some, a2, if_neg (by simp; omega), slices_Concat_api_Value_api_Value.l0, l2, if_neg (by decide)]
  unfold slices_Grow_api_Value_api_Value grow0
  rw [if_pos (by omega), Option.bind_some, show ((2 : Int) - 0).toNat + 1 = 0 + 1 + 1 + 1 from rfl, slices_Concat_api_Value_api_Value.l1, l2, e0, w0, if_pos (by decide), Option.bind_some, apd_of (by simp; omega), Option.bind_some, slices_Concat_api_Value_api_Value.l1, l2, e1, w1, if_pos (by decide), Option.bind_some, apd_of (by simpa using h), Option.bind_some, slices_Concat_api_Value_api_Value.l1, l2, if_neg (by decide), List.nil_append]
/-! ### the columns -/
def newC (A B : List api_Col) : List api_Col := B.filter fun c => decide (findS A c.Name < 0)
def okC (A : List api_Col) (c : api_Col) : Bool := decide (findS A c.Name < 0) || (match A[(findS A c.Name).toNat]? with
  | some d => decide (d.Kind = c.Kind ∧ c.Kind ≠ 4)
  | none => false)
def endJ (A B l : List api_Col) : List api_Col × Bool := if l.length = A.length + B.length ∨ l.length > 16 then ([], false) else (l, true)
def colsJ (A B : List api_Col) : List api_Col × Bool := if B.all (okC A) = true then endJ A B (A ++ newC A B) else ([], false)
theorem findS_get {cols : List api_Col} {n : ByteArray} (h : 0 ≤ findS cols n) : ∃ (i : Nat) (c : api_Col), findS cols n = (i : Int) ∧ cols[i]? = some c ∧ c.Name = n := by
  obtain ⟨i, c, h1, h2, h3, _⟩ := findS_some h
  exact ⟨i, c, h1, h2, h3⟩
theorem jcols_l0 {A B : List api_Col} (hA : A.length ≤ 16) (hB : B.length ≤ 16) : ∀ (fuel i : Nat) (acc : List api_Col), i ≤ B.length → B.length < i + fuel → acc.length ≤ 16 + i →
    join_Cols.l0 A B fuel acc (i : Int) = some (if (B.drop i).all (okC A) = true then endJ A B (acc ++ newC A (B.drop i)) else ([], false))
  | 0, i, _, _, h, _ => by omega
  | fuel + 1, i, acc, h1, h2, h3 => by
    rw [join_Cols.l0]
    by_cases hi : i < B.length
    · obtain ⟨c, hc, ec⟩ := getE hi
      rw [if_pos (dlt hi), ix_of hc, Option.bind_some, find_eq (by omega), Option.bind_some, ec]
      by_cases hn : findS A c.Name < 0
      · have e1 : okC A c = true := by simp [okC, hn]
        have e2 : newC A (c :: B.drop (i + 1)) = c :: newC A (B.drop (i + 1)) := by simp [newC, hn]
        rw [if_pos (by simpa using hn), apd_of (by simp; omega), Option.bind_some, join_Cols.j1, w64_nat i (by omega), jcols_l0 hA hB fuel (i + 1) _ (by omega) (by omega) (by simp; omega), List.all_cons, e1, e2]
        simp
      · obtain ⟨k, d, k1, k2, k3⟩ := findS_get (cols := A) (n := c.Name) (by omega)
        have e2 : newC A (c :: B.drop (i + 1)) = newC A (B.drop (i + 1)) := by simp [newC, hn]
        have e1 : okC A c = decide (d.Kind = c.Kind ∧ c.Kind ≠ 4) := by
          have h0 : decide ((k : Int) < 0) = false := by simp
          simp only [okC, k1, h0, Bool.false_or, Int.toNat_natCast, k2]
        rw [if_neg (by simpa using hn), k1, ix_of k2, Option.bind_some, List.all_cons, e1, e2]
        unfold join_Cols.j2 join_Cols.j1
        by_cases hk : d.Kind = c.Kind
        · rw [if_neg (by simpa using hk)]
          by_cases h4 : c.Kind = 4
          · rw [if_pos (by simpa using h4)]
            simp [h4]
          · rw [if_neg (by simpa using h4), w64_nat i (by omega), jcols_l0 hA hB fuel (i + 1) _ (by omega) (by omega) (by omega)]
            simp [hk, h4]
        · rw [if_pos (by simpa using hk), if_pos rfl]
          simp [hk]
    · rw [if_neg (dnl (by omega)), List.drop_of_length_le (by omega), w64 (by omega) (by omega)]
      simp only [List.all_nil, if_true, newC, List.filter_nil, List.append_nil]
      unfold endJ join_Cols.j3
      by_cases hl : acc.length = A.length + B.length
      · rw [if_pos (by simp; omega), if_pos rfl, if_pos (Or.inl hl)]
      · by_cases h16 : acc.length > 16
        · rw [if_neg (by simp; omega), if_pos (by simp; omega), if_pos (Or.inr h16)]
        · rw [if_neg (by simp; omega), if_neg (by simp; omega), if_neg (by omega)]
theorem jcols_eq {A B : List api_Col} (hA : A.length ≤ 16) (hB : B.length ≤ 16) : join_Cols A B = some (colsJ A B) := by
  unfold join_Cols colsJ
  rw [cloneC_eq (by omega), Option.bind_some, fuel_nat, show (0 : Int) = ((0 : Nat) : Int) from rfl, jcols_l0 hA hB _ 0 _ (Nat.zero_le _) (by omega) (by omega), List.drop_zero]

/-! ### the places -/
def shL (cols «by» : List api_Col) : List Int := («by».filter fun c => decide (0 ≤ findS cols c.Name)).map fun c => findS cols c.Name
def otF («by» : List api_Col) : Nat → List api_Col → List Int
  | _, [] => []
  | i, c :: r => if findS «by» c.Name < 0 then (i : Int) :: otF «by» (i + 1) r else otF «by» (i + 1) r
theorem split_l2 {cols b : List api_Col} {sh : List Int} (hc : cols.length ≤ 16) (hb : b.length ≤ 16) : ∀ (fuel i : Nat) (acc : List Int), i ≤ cols.length → cols.length < i + fuel → acc.length ≤ i →
    join_split.l2 cols b sh fuel acc (i : Int) = some ⟨sh, acc ++ otF b i (cols.drop i)⟩
  | 0, i, _, _, h, _ => by omega
  | fuel + 1, i, acc, h1, h2, h3 => by
    rw [join_split.l2]
    by_cases hi : i < cols.length
    · obtain ⟨c, hc', ec⟩ := getE hi
      rw [if_pos (dlt hi), ix_of hc', Option.bind_some, find_eq (by omega), Option.bind_some, ec]
      simp only [otF, join_split.j3]
      by_cases hn : findS b c.Name < 0
      · rw [if_pos (by simpa using hn), if_pos hn, apd_of (by simp; omega), Option.bind_some, w64_nat i (by omega), split_l2 hc hb fuel (i + 1) _ (by omega) (by omega) (by simp; omega)]
        simp
      · rw [if_neg (by simpa using hn), if_neg hn, w64_nat i (by omega), split_l2 hc hb fuel (i + 1) _ (by omega) (by omega) (by omega)]
    · rw [if_neg (dnl (by omega)), List.drop_of_length_le (by omega)]
      simp [otF]
theorem split_l0 {cols b : List api_Col} (hc : cols.length ≤ 16) (hb : b.length ≤ 16) : ∀ (fuel i : Nat) (acc : List Int), i ≤ b.length → b.length < i + fuel → acc.length ≤ i →
    join_split.l0 cols b fuel acc (i : Int) = some ⟨acc ++ shL cols (b.drop i), otF b 0 cols⟩
  | 0, i, _, _, h, _ => by omega
  | fuel + 1, i, acc, h1, h2, h3 => by
    rw [join_split.l0]
    by_cases hi : i < b.length
    · obtain ⟨c, hc', ec⟩ := getE hi
      rw [if_pos (dlt hi), ix_of hc', Option.bind_some, find_eq (by omega), Option.bind_some, ec]
      unfold join_split.j1
      by_cases hn : 0 ≤ findS cols c.Name
      · rw [if_pos (by simpa using hn), apd_of (by simp; omega), Option.bind_some, w64_nat i (by omega), split_l0 hc hb fuel (i + 1) _ (by omega) (by omega) (by simp; omega)]
        simp [shL, hn]
      · rw [if_neg (by simpa using hn), w64_nat i (by omega), split_l0 hc hb fuel (i + 1) _ (by omega) (by omega) (by omega)]
        simp [shL, hn]
    · rw [if_neg (dnl (by omega)), List.drop_of_length_le (by omega), fuel_nat, show (0 : Int) = ((0 : Nat) : Int) from rfl, split_l2 hc hb _ 0 [] (Nat.zero_le _) (by omega) (by simp)]
      simp [shL]
theorem split_eq {cols b : List api_Col} (hc : cols.length ≤ 16) (hb : b.length ≤ 16) : join_split cols b = some ⟨shL cols b, otF b 0 cols⟩ := by
  unfold join_split
  rw [fuel_nat, show (0 : Int) = ((0 : Nat) : Int) from rfl, split_l0 hc hb _ 0 [] (Nat.zero_le _) (by omega) (by simp)]
  simp

/-! ### what is taken out -/
section
variable {a b : api_Table} {del : Int → Bool} {xs : List Int}
theorem idx1_l0 (hl : xs.length ≤ 16) (hd : ∀ x ∈ xs, join_Join_1_cp_cp x b a = some (del x)) : ∀ (fuel i : Nat), i ≤ xs.length → xs.length < i + fuel →
    slices_IndexFunc_int_int_f_join_Join_1pp.l0 xs b a fuel (i : Int) = some (match (xs.drop i).findIdx? del with
      | some k => ((i + k : Nat) : Int)
      | none => -1)
  | 0, i, _, h => by omega
  | fuel + 1, i, h1, h2 => by
    rw [slices_IndexFunc_int_int_f_join_Join_1pp.l0]
    by_cases hi : i < xs.length
    · obtain ⟨x, hx, ex⟩ := getE hi
      rw [if_pos (dlt hi), ix_of hx, Option.bind_some, hd x (List.mem_of_getElem? hx), Option.bind_some, ex, List.findIdx?_cons]
      by_cases h : del x = true
      · rw [if_pos h, if_pos h]; rfl
      · rw [if_neg h, if_neg h, w64_nat i (by omega), idx1_l0 hl hd fuel (i + 1) (by omega) (by omega)]
        cases (xs.drop (i + 1)).findIdx? del with
        | none => rfl
        | some k =>
          show some (((i + 1 + k : Nat)) : Int) = some (((i + (k + 1) : Nat)) : Int)
          rw [Nat.add_assoc, Nat.add_comm 1 k]
    · rw [if_neg (dnl (by omega)), List.drop_of_length_le (by omega)]
      rfl
theorem del_l0 (hl : xs.length ≤ 16) (hd : ∀ x ∈ xs, join_Join_1_cp_cp x b a = some (del x)) (y0 : Int) (a0 : List Int) : ∀ (fuel j w : Nat) (cur : List Int), j ≤ xs.length → xs.length < j + fuel → w < j → cur.length = xs.length → cur.drop j = xs.drop j → cur.take w = (xs.take j).filter (fun x => !del x) →
    slices_DeleteFunc_int_int_f_join_Join_1pp.l0 a0 b a y0 fuel cur (w : Int) (j : Int) = some (xs.filter fun x => !del x)
  | 0, j, _, _, _, h, _, _, _, _ => by omega
  | fuel + 1, j, w, cur, h1, h2, h3, h4, h5, h6 => by
    rw [slices_DeleteFunc_int_int_f_join_Join_1pp.l0]
    by_cases hj : j < xs.length
    · obtain ⟨x, hx, ex⟩ := getE hj
      have hcx : cur[j]? = some x := by
        have := congrArg (fun l : List Int => l[0]?) h5
        simpa [hx] using this
      obtain ⟨z, hz, _⟩ := getE (l := cur) (i := w) (by omega)
      rw [if_pos (by rw [h4]; exact dlt hj), ix_of hcx, Option.bind_some, hd x (List.mem_of_getElem? hx), Option.bind_some]
      unfold slices_DeleteFunc_int_int_f_join_Join_1pp.j1
      have hd1 : ∀ l : List Int, l.drop (j + 1) = (l.drop j).drop 1 := fun l => by rw [List.drop_drop]
      have ht : xs.take (j + 1) = xs.take j ++ [x] := by rw [List.take_add_one, hx]; rfl
      by_cases h : del x = true
      · rw [if_neg (by simp [h]), w64_nat j (by omega)]
        refine del_l0 hl hd y0 a0 fuel (j + 1) w cur (by omega) (by omega) (by omega) h4 ?_ ?_
        · rw [hd1 cur, hd1 xs, h5]
        · rw [ht, List.filter_append, h6]; simp [h]
      · rw [if_pos (by simpa using h), ix_of hz, Option.bind_some, w64_nat j (by omega), w64_nat w (by omega)]
        refine del_l0 hl hd y0 a0 fuel (j + 1) (w + 1) _ (by omega) (by omega) (by omega) (by rw [upd_length]; exact h4) ?_ ?_
        · unfold upd
          rw [show ((w : Int)).toNat = w by omega, List.drop_set_of_lt (by omega), hd1 cur, hd1 xs, h5]
        · unfold upd
          rw [show ((w : Int)).toNat = w by omega, ht, List.filter_append, ← h6, List.take_add_one, List.take_set_of_le (Nat.le_refl _), List.getElem?_set_self (by omega)]
          simp [h]
    · have hjl : j = xs.length := by omega
      rw [if_neg (by rw [h4]; exact dnl (by omega)), cut_of (by omega) (by omega) (by omega), Option.bind_some, cut_of (by omega) (by omega) (by rw [clr_length]; omega), Option.bind_some]
      rw [hjl, List.take_of_length_le (Nat.le_refl _)] at h6
      rw [← h6]
      simp only [clr, Int.toNat_natCast, Int.toNat_zero, List.drop_zero, Nat.sub_zero]
      rw [List.take_append_of_le_length (by simp; omega), List.take_take, Nat.min_self]
theorem del_eq (hl : xs.length ≤ 16) (hd : ∀ x ∈ xs, join_Join_1_cp_cp x b a = some (del x)) : slices_DeleteFunc_int_int_f_join_Join_1pp xs b a = some (xs.filter fun x => !del x) := by
  unfold slices_DeleteFunc_int_int_f_join_Join_1pp slices_IndexFunc_int_int_f_join_Join_1pp
  have h0 := idx1_l0 hl hd (xs.length + 1) 0 (Nat.zero_le _) (by omega)
  rw [show ((0 : Nat) : Int) = 0 from rfl, List.drop_zero] at h0
  rw [fuel_nat, h0, Option.bind_some]
  cases hf : xs.findIdx? del with
  | none =>
    rw [if_pos (by simp)]
    congr 1
    refine (List.filter_eq_self.2 fun x hx => ?_).symm
    have := List.findIdx?_eq_none_iff.1 hf x hx
    simp [this]
  | some k =>
    have hk := List.findIdx?_eq_some_iff_getElem.1 hf
    obtain ⟨hk1, hk2, hk3⟩ := hk
    simp only [Nat.zero_add]
    rw [if_neg (by simp), w64_nat k (by omega)]
    rw [show ((xs.length : Int) - ((k + 1 : Nat) : Int)).toNat + 1 = xs.length - (k + 1) + 1 by omega]
    refine del_l0 hl hd _ xs _ (k + 1) k xs (by omega) (by omega) (by omega) rfl rfl ?_
    have hx : xs[k]? = some xs[k] := List.getElem?_eq_getElem hk1
    rw [List.take_add_one, hx, List.filter_append]
    have e1 : (xs.take k).filter (fun x => !del x) = xs.take k := List.filter_eq_self.2 fun x hx' => by
      obtain ⟨i, hi, e⟩ := List.getElem_of_mem hx'
      rw [List.length_take] at hi
      rw [List.getElem_take] at e
      have := hk3 i (by omega)
      rw [← e]; simpa using this
    rw [e1]
    simp [hk2]
end

/-! ### values at places; marks -/
theorem pick_l0 {row : List api_Value} {at_ : List Int} (hl : at_.length ≤ 16) (hr : ∀ k ∈ at_, 0 ≤ k ∧ k < row.length) : ∀ (fuel i : Nat) (acc : List api_Value), i ≤ at_.length → at_.length < i + fuel → acc.length = i →
    join_pick.l0 row at_ fuel acc (i : Int) = some (acc ++ pickS (at_.drop i) row)
  | 0, i, _, _, h, _ => by omega
  | fuel + 1, i, acc, h1, h2, h3 => by
    rw [join_pick.l0]
    by_cases hi : i < at_.length
    · obtain ⟨k, hk, ek⟩ := getE hi
      have hb := hr k (List.mem_of_getElem? hk)
      obtain ⟨v, hv, _⟩ := getE (l := row) (i := k.toNat) (by omega)
      have hkk : k = ((k.toNat : Nat) : Int) := by omega
      rw [if_pos (dlt hi), ix_of hk, Option.bind_some, hkk, ix_of hv, Option.bind_some, apd_of (by simp; omega), Option.bind_some, w64_nat i (by omega), pick_l0 hl hr fuel (i + 1) _ (by omega) (by omega) (by simp; omega), ek]
      simp [pickS, hv]
    · rw [if_neg (dnl (by omega)), List.drop_of_length_le (by omega)]
      simp [pickS]
theorem pick_eq {row : List api_Value} {at_ : List Int} (hl : at_.length ≤ 16) (hr : ∀ k ∈ at_, 0 ≤ k ∧ k < row.length) : join_pick row at_ = some (pickS at_ row) := by
  unfold join_pick
  rw [fuel_nat, show (0 : Int) = ((0 : Nat) : Int) from rfl, pick_l0 hl hr _ 0 [] (Nat.zero_le _) (by omega) rfl]
  simp
def mkB (l : List api_Value) : ByteArray := bstr (l.flatMap valS)
theorem mark_l0 {l : List api_Value} (hl : l.length ≤ 16) (hv : ∀ v ∈ l, validS v = true) : ∀ (fuel i : Nat) (acc : List Int), i ≤ l.length → l.length < i + fuel → acc.length ≤ 65 * i →
    join_mark.l0 l fuel acc (i : Int) = some (bstr (acc ++ (l.drop i).flatMap valS))
  | 0, i, _, _, h, _ => by omega
  | fuel + 1, i, acc, h1, h2, h3 => by
    rw [join_mark.l0]
    by_cases hi : i < l.length
    · obtain ⟨v, hv', ev⟩ := getE hi
      have hvv := hv v (List.mem_of_getElem? hv')
      have := valS_len hvv
      rw [if_pos (dlt hi), ix_of hv', Option.bind_some, wPut_eq (Nat.le_of_ble_eq_true rfl), Option.bind_some]
      unfold putS
      rw [if_pos hvv]
      simp only [List.nil_append]
      rw [apd_of (by omega), Option.bind_some, w64_nat i (by omega), mark_l0 hl hv fuel (i + 1) _ (by omega) (by omega) (by simp; omega), ev]
      simp
    · rw [if_neg (dnl (by omega)), List.drop_of_length_le (by omega)]
      simp
theorem mark_eq {l : List api_Value} (hl : l.length ≤ 16) (hv : ∀ v ∈ l, validS v = true) : join_mark l = some (mkB l) := by
  unfold join_mark mkB
  rw [fuel_nat, show (0 : Int) = ((0 : Nat) : Int) from rfl, mark_l0 hl hv _ 0 [] (Nat.zero_le _) (by omega) (by simp)]
  simp
theorem flat_inj : ∀ {a b : List api_Value}, a.map (·.Kind) = b.map (·.Kind) → (∀ v ∈ a, validS v = true ∧ wfV v) → (∀ v ∈ b, validS v = true ∧ wfV v) → a.flatMap valS = b.flatMap valS → a = b
  | [], [], _, _, _, _ => rfl
  | [], _ :: _, h, _, _, _ => by simp at h
  | _ :: _, [], h, _, _, _ => by simp at h
  | v :: a, w :: b, h, h1, h2, he => by
    simp only [List.map_cons, List.cons.injEq] at h
    simp only [List.flatMap_cons] at he
    have e1 := take_put (h1 v (List.mem_cons_self ..)).1 (h1 v (List.mem_cons_self ..)).2 (a.flatMap valS)
    have e2 := take_put (h2 w (List.mem_cons_self ..)).1 (h2 w (List.mem_cons_self ..)).2 (b.flatMap valS)
    rw [he, h.1, e2] at e1
    simp only [Option.some.injEq, Prod.mk.injEq] at e1
    rw [e1.1, flat_inj h.2 (fun x hx => h1 x (List.mem_cons_of_mem _ hx)) (fun x hx => h2 x (List.mem_cons_of_mem _ hx)) e1.2.symm]
theorem byts_flatV {l : List api_Value} (h : ∀ v ∈ l, validS v = true) : Byts (l.flatMap valS) := by
  intro x hx
  obtain ⟨v, hv, hx⟩ := List.mem_flatMap.1 hx
  exact byts_valS (h v hv) x hx
theorem mkB_inj {a b : List api_Value} (hk : a.map (·.Kind) = b.map (·.Kind)) (ha : ∀ v ∈ a, validS v = true ∧ wfV v) (hb : ∀ v ∈ b, validS v = true ∧ wfV v) (h : mkB a = mkB b) : a = b :=
  flat_inj hk ha hb (bstr_inj (byts_flatV fun v hv => (ha v hv).1) (byts_flatV fun v hv => (hb v hv).1) h)
end Go.Proofs.Ytabdokppkcgdlaa.M
