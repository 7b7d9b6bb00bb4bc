/- Tables: what the program answers. -/
import Derived.Test.YtojfckndloelpaaPure
import Derived.Test.YtojfckndloelpaaPLTs
import Derived.Test.YtojfckndloelpaaPLVv
import Derived.Test.YtojfckndloelpaaPLVc
namespace Go.Proofs.Ytojfckndloelpaa.M
open Go Go.Eng Go.Proofs Go.RowKit
set_option maxRecDepth 100000
set_option linter.unusedVariables false
set_option linter.unusedSimpArgs false

theorem order_l0 {a b : List api_Value} (hn : a.length < 4611686018427387904) : ∀ (fuel i : Nat), i ≤ a.length → i ≤ b.length → a.length < i + fuel →
    slices_CompareFunc_api_Value_api_Value_api_Value_api_Value_f_value_Compare.l0 a b fuel (i : Int) = some (lexL cmpV (a.drop i) (b.drop i))
  | 0, i, _, _, h => by omega
  | fuel + 1, i, h1, h2, h3 => by
    rw [slices_CompareFunc_api_Value_api_Value_api_Value_api_Value_f_value_Compare.l0]
    by_cases hi : i < a.length
    · obtain ⟨x, hx, ex⟩ := getE hi
      rw [if_pos (dlt hi), ix_of hx, Option.bind_some, ex]
      by_cases hj : i < b.length
      · obtain ⟨y, hy, ey⟩ := getE hj
        rw [if_neg (dng hj), ix_of hy, Option.bind_some, cmpV_eq, Option.bind_some, ey, lexL]
        by_cases e : cmpV x y = 0
        · rw [if_neg (by simp [e]), if_pos e, w64_nat _ (by omega), order_l0 hn fuel (i + 1) (by omega) (by omega) (by omega)]
        · rw [if_pos (by simpa using e), if_neg e]
      · rw [if_pos (dge (by omega)), List.drop_of_length_le (l := b) (by omega)]; rfl
    · rw [if_neg (dnl (by omega)), List.drop_of_length_le (l := a) (by omega)]
      by_cases hj : a.length < b.length
      · obtain ⟨y, hy, ey⟩ := getE (l := b) (i := i) (by omega)
        rw [if_pos (dlt hj), ey]; rfl
      · rw [if_neg (dnl (by omega)), List.drop_of_length_le (l := b) (by omega)]; rfl
theorem torder_eq {a b : List api_Value} (hn : a.length < 4611686018427387904) : table_order a b = some (cmpR a b) := by
  unfold table_order slices_CompareFunc_api_Value_api_Value_api_Value_api_Value_f_value_Compare
  have := order_l0 (b := b) hn (a.length + 1) 0 (Nat.zero_le _) (Nat.zero_le _) (by omega)
  rw [fuel_nat, show (0 : Int) = ((0 : Nat) : Int) from rfl, this]; rfl
theorem clone_eq {v : List api_Value} (h : v.length * 96 ≤ 140737488355328) : slices_Clone_api_Value_api_Value v = some v := by
  unfold slices_Clone_api_Value_api_Value
  rw [apd_of (by simp only [List.length_nil, Nat.zero_add]; omega)]; simp
theorem cloneC_eq {v : List api_Col} (h : v.length * 24 ≤ 140737488355328) : slices_Clone_api_Col_api_Col v = some v := by
  unfold slices_Clone_api_Col_api_Col
  rw [apd_of (by simp only [List.length_nil, Nat.zero_add]; omega)]; simp
theorem sort_eq {xs : List (List api_Value)} (h : okRows xs) : slices_SortFunc_api_Value_api_Value_f_table_order xs = some (sortC cmpR xs) := by
  unfold slices_SortFunc_api_Value_api_Value_f_table_order
  exact sortBy_cmp cmpR_cmp cmpR_zero (fun x hx y hy => torder_eq (h.2 x hx)) h.1
theorem canon_l0 {t : api_Table} {cols : List api_Col} (hr : t.Rows.length * 24 ≤ 140737488355328) (hw : ∀ r ∈ t.Rows, r.length * 96 ≤ 140737488355328) : ∀ (fuel i : Nat), i ≤ t.Rows.length → t.Rows.length < i + fuel →
    table_Canon.l0 t cols fuel (t.Rows.take i) (i : Int) = some ⟨cols, sortC cmpR t.Rows⟩
  | 0, i, _, h => by omega
  | fuel + 1, i, h1, h2 => by
    rw [table_Canon.l0]
    by_cases hi : i < t.Rows.length
    · obtain ⟨r, hx, ex⟩ := getE hi
      rw [if_pos (dlt hi), ix_of hx, Option.bind_some, clone_eq (hw r (List.mem_of_getElem? hx)), Option.bind_some, apd_of (by simp only [List.length_take, List.length_singleton]; omega), Option.bind_some, w64_nat i (by omega)]
      have e : t.Rows.take i ++ [r] = t.Rows.take (i + 1) := by rw [List.take_add_one, hx]; rfl
      rw [e]
      exact canon_l0 hr hw fuel (i + 1) (by omega) (by omega)
    · rw [if_neg (dnl (by omega)), List.take_of_length_le (by omega), sort_eq ⟨by omega, fun r hx => by have := hw r hx; omega⟩]; rfl
theorem canon_eq' {t : api_Table} (hc : t.Cols.length * 24 ≤ 140737488355328) (hr : t.Rows.length * 24 ≤ 140737488355328) (hw : ∀ r ∈ t.Rows, r.length * 96 ≤ 140737488355328) : table_Canon t = some (canonS t) := by
  unfold table_Canon
  rw [cloneC_eq hc, Option.bind_some, fuel_nat]
  exact canon_l0 hr hw _ 0 (Nat.zero_le _) (by omega)
theorem canon_eq {t : api_Table} (h : szT t) : table_Canon t = some (canonS t) := canon_eq' (by have := h.c; omega) (by have := h.r; omega) (fun r hr => by have := h.w r hr; omega)
theorem eqc_l0 {a b : List api_Col} (hn : a.length < 4611686018427387904) (hl : a.length = b.length) : ∀ (fuel i : Nat), i ≤ a.length → a.length < i + fuel →
    slices_Equal_api_Col_api_Col.l0 a b fuel (i : Int) = some (decide (a.drop i = b.drop i))
  | 0, i, _, h => by omega
  | fuel + 1, i, h1, h2 => by
    rw [slices_Equal_api_Col_api_Col.l0]
    by_cases hi : i < a.length
    · obtain ⟨x, hx, ex⟩ := getE hi
      obtain ⟨y, hy, ey⟩ := getE (l := b) (i := i) (by omega)
      rw [if_pos (dlt hi), ix_of hx, Option.bind_some, ix_of hy, Option.bind_some, ex, ey, w64_nat i (by omega), eqc_l0 hn hl fuel (i + 1) (by omega) (by omega)]
      by_cases e : x = y <;> simp [e]
    · rw [if_neg (dnl (by omega)), List.drop_of_length_le (by omega), List.drop_of_length_le (by omega)]; simp
theorem eqc_eq {a b : List api_Col} (hn : a.length < 4611686018427387904) : slices_Equal_api_Col_api_Col a b = some (decide (a = b)) := by
  unfold slices_Equal_api_Col_api_Col
  by_cases hl : a.length = b.length
  · rw [if_neg (by simp [hl]), fuel_nat]
    exact eqc_l0 hn hl _ 0 (Nat.zero_le _) (by omega)
  · rw [if_pos (by simp; omega)]
    have : a ≠ b := fun e => hl (by rw [e])
    simp [this]
theorem eqv_l0 {a b : List api_Value} (hn : a.length < 4611686018427387904) (hl : a.length = b.length) : ∀ (fuel i : Nat), i ≤ a.length → a.length < i + fuel →
    slices_Equal_api_Value_api_Value.l0 a b fuel (i : Int) = some (decide (a.drop i = b.drop i))
  | 0, i, _, h => by omega
  | fuel + 1, i, h1, h2 => by
    rw [slices_Equal_api_Value_api_Value.l0]
    by_cases hi : i < a.length
    · obtain ⟨x, hx, ex⟩ := getE hi
      obtain ⟨y, hy, ey⟩ := getE (l := b) (i := i) (by omega)
      rw [if_pos (dlt hi), ix_of hx, Option.bind_some, ix_of hy, Option.bind_some, ex, ey, w64_nat i (by omega), eqv_l0 hn hl fuel (i + 1) (by omega) (by omega)]
      by_cases e : x = y <;> simp [e]
    · rw [if_neg (dnl (by omega)), List.drop_of_length_le (by omega), List.drop_of_length_le (by omega)]; simp
theorem eqv_eq {a b : List api_Value} (hn : a.length < 4611686018427387904) : slices_Equal_api_Value_api_Value a b = some (decide (a = b)) := by
  unfold slices_Equal_api_Value_api_Value
  by_cases hl : a.length = b.length
  · rw [if_neg (by simp [hl]), fuel_nat]
    exact eqv_l0 hn hl _ 0 (Nat.zero_le _) (by omega)
  · rw [if_pos (by simp; omega)]
    have : a ≠ b := fun e => hl (by rw [e])
    simp [this]
theorem eqr_l0 {a b : List (List api_Value)} (hn : okRows a) (hl : a.length = b.length) : ∀ (fuel i : Nat), i ≤ a.length → a.length < i + fuel →
    slices_EqualFunc_api_Value_api_Value_api_Value_api_Value_f_slices_Equal_api_Value_api_Value.l0 a b fuel (i : Int) = some (decide (a.drop i = b.drop i))
  | 0, i, _, h => by omega
  | fuel + 1, i, h1, h2 => by
    have hn1 := hn.1
    rw [slices_EqualFunc_api_Value_api_Value_api_Value_api_Value_f_slices_Equal_api_Value_api_Value.l0]
    by_cases hi : i < a.length
    · obtain ⟨x, hx, ex⟩ := getE hi
      obtain ⟨y, hy, ey⟩ := getE (l := b) (i := i) (by omega)
      rw [if_pos (dlt hi), ix_of hx, Option.bind_some, ix_of hy, Option.bind_some, eqv_eq (hn.2 x (List.mem_of_getElem? hx)), Option.bind_some, ex, ey, w64_nat i (by omega), eqr_l0 hn hl fuel (i + 1) (by omega) (by omega)]
      by_cases e : x = y <;> simp [e]
    · rw [if_neg (dnl (by omega)), List.drop_of_length_le (by omega), List.drop_of_length_le (by omega)]; simp
theorem eqr_eq {a b : List (List api_Value)} (hn : okRows a) : slices_EqualFunc_api_Value_api_Value_api_Value_api_Value_f_slices_Equal_api_Value_api_Value a b = some (decide (a = b)) := by
  have hn1 := hn.1
  unfold slices_EqualFunc_api_Value_api_Value_api_Value_api_Value_f_slices_Equal_api_Value_api_Value
  by_cases hl : a.length = b.length
  · rw [if_neg (by simp [hl]), fuel_nat]
    exact eqr_l0 hn hl _ 0 (Nat.zero_le _) (by omega)
  · rw [if_pos (by simp; omega)]
    have : a ≠ b := fun e => hl (by rw [e])
    simp [this]
theorem same_eq {a b : api_Table} (h : szT a) : table_Same a b = some (decide (a = b)) := by
  unfold table_Same
  rw [eqc_eq h.cols.1, Option.bind_some]
  obtain ⟨c, r⟩ := a
  obtain ⟨c', r'⟩ := b
  by_cases e : c = c'
  · rw [if_pos (by simpa using e), eqr_eq h.rows, Option.bind_some]
    simp [e]
  · rw [if_neg (by simpa using e)]; simp [e]
theorem concat2 {xs ys : List (List api_Value)} (h : (xs.length + ys.length) * 24 ≤ 140737488355328) : slices_Concat_api_Value_api_Value [xs, ys] = some (xs ++ ys) := by
  unfold slices_Concat_api_Value_api_Value
  have e0 : ix [xs, ys] 0 = some xs := rfl
  have e1 : ix [xs, ys] 1 = some ys := rfl
  have f : ((([xs, ys] : List (List (List api_Value))).length : Int) - 0).toNat + 1 = 0 + 1 + 1 + 1 := rfl
  rw [f]
  have w0 : IntKind.i64.wrap (0 + 1) = 1 := by decide
  have w1 : IntKind.i64.wrap (1 + 1) = 2 := by decide
  have a1 : IntKind.i64.wrap (0 + (xs.length : Int)) = xs.length := by rw [w64 (by omega) (by omega)]; omega
  have a2 : IntKind.i64.wrap ((xs.length : Int) + (ys.length : Int)) = ((xs.length + ys.length : Nat) : Int) := by rw [w64 (by omega) (by omega)]; omega
  have l2 : ((([xs, ys] : List (List (List api_Value))).length : Nat) : Int) = 2 := rfl
  rw [slices_Concat_api_Value_api_Value.l0, l2, e0, w0, if_pos (by decide), Option.bind_some, a1, if_neg (by simp), slices_Concat_api_Value_api_Value.l0, l2, e1, w1, if_pos (by decide), Option.bind_some, a2, if_neg (by simp; omega), slices_Concat_api_Value_api_Value.l0, l2, if_neg (by decide)]
  unfold slices_Grow_api_Value_api_Value grow0
  rw [if_pos (by omega), Option.bind_some, show ((2 : Int) - 0).toNat + 1 = 0 + 1 + 1 + 1 from rfl, slices_Concat_api_Value_api_Value.l1, l2, e0, w0, if_pos (by decide), Option.bind_some, apd_of (by simp; omega), Option.bind_some, slices_Concat_api_Value_api_Value.l1, l2, e1, w1, if_pos (by decide), Option.bind_some, apd_of (by simpa using h), Option.bind_some, slices_Concat_api_Value_api_Value.l1, l2, if_neg (by decide), List.nil_append]
theorem union_eq {a b : api_Table} (ha : szT a) (hb : szT b) (h : (a.Rows.length + b.Rows.length) * 24 ≤ 140737488355328) : table_Union a b = some (unionS a b) := by
  have e0 : ix [a, b] 0 = some a := rfl
  have e1 : ix [a, b] 1 = some b := rfl
  have w0 : IntKind.i64.wrap (0 + 1) = 1 := by decide
  have w1 : IntKind.i64.wrap (1 + 1) = 2 := by decide
  unfold table_Union
  rw [show ((2 : Int) - 0).toNat + 1 = 0 + 1 + 1 + 1 from rfl, table_Union.l0, e0, w0, if_pos (by decide), Option.bind_some, check_eq ha.cols ha.rows, Option.bind_some]
  by_cases h1 : checkS a = 0
  · rw [if_neg (by simp [h1]), table_Union.l0, e1, w1, if_pos (by decide), Option.bind_some, check_eq hb.cols hb.rows, Option.bind_some]
    by_cases h2 : checkS b = 0
    · rw [if_neg (by simp [h2]), table_Union.l0, if_neg (by decide), eqc_eq ha.cols.1, Option.bind_some]
      by_cases h3 : a.Cols = b.Cols
      · have e : unionS a b = (canonS ⟨a.Cols, a.Rows ++ b.Rows⟩, 0) := by unfold unionS; rw [if_neg (by simp [h1]), if_neg (by simp [h2]), if_neg (by simp [h3])]
        rw [e, if_neg (by simp [h3]), concat2 h, Option.bind_some, canon_eq' (t := ⟨a.Cols, a.Rows ++ b.Rows⟩) (show a.Cols.length * 24 ≤ _ by have := ha.c; omega) (by simpa using h) (fun r hr => by
          rcases List.mem_append.1 hr with hr | hr
          · have := ha.w r hr; omega
          · have := hb.w r hr; omega)]; rfl
      · have e : unionS a b = (none2, 20) := by unfold unionS; rw [if_neg (by simp [h1]), if_neg (by simp [h2]), if_pos h3]
        rw [e, if_pos (by simp [h3])]; rfl
    · have e : unionS a b = (none2, checkS b) := by unfold unionS; rw [if_neg (by simp [h1]), if_pos h2]
      rw [e, if_pos (by simpa using h2)]; rfl
  · have e : unionS a b = (none2, checkS a) := by unfold unionS; rw [if_pos h1]
    rw [e, if_pos (by simpa using h1)]; rfl
theorem index_l0 {xs : List Int} {k : Int} (hn : xs.length < 4611686018427387904) : ∀ (fuel i : Nat), i ≤ xs.length → xs.length < i + fuel →
    ∃ j : Int, slices_Index_int_int.l0 xs k fuel (i : Int) = some j ∧ (0 ≤ j ↔ k ∈ xs.drop i)
  | 0, i, _, h => by omega
  | fuel + 1, i, h1, h2 => by
    rw [slices_Index_int_int.l0]
    by_cases hi : i < xs.length
    · obtain ⟨x, hx, ex⟩ := getE hi
      rw [if_pos (dlt hi), ix_of hx, Option.bind_some, ex]
      by_cases e : k = x
      · exact ⟨(i : Int), by rw [if_pos (by simp [e])], by simp [e]⟩
      · obtain ⟨j, h3, h4⟩ := index_l0 (k := k) hn fuel (i + 1) (by omega) (by omega)
        exact ⟨j, by rw [if_neg (by simpa using e), w64_nat i (by omega), h3], by rw [h4]; simp [e]⟩
    · exact ⟨-1, by rw [if_neg (dnl (by omega))], by rw [List.drop_of_length_le (by omega)]; simp⟩
theorem contains_eq {xs : List Int} {k : Int} (hn : xs.length < 4611686018427387904) : slices_Contains_int_int xs k = some (decide (k ∈ xs)) := by
  unfold slices_Contains_int_int slices_Index_int_int
  obtain ⟨j, h1, h2⟩ := index_l0 (k := k) hn (xs.length + 1) 0 (Nat.zero_le _) (by omega)
  rw [fuel_nat, show (0 : Int) = ((0 : Nat) : Int) from rfl, h1, Option.bind_some]
  rw [List.drop_zero] at h2
  congr 1
  rw [decide_eq_decide]
  exact h2
theorem keep_l3 {t : api_Table} {at_ : List Int} {kl : List (List api_Value) → Int → Option (api_Table × Int)} {acc : List (List api_Value)} {m : Nat} {row : List api_Value} (hk : ∀ k ∈ at_, 0 ≤ k ∧ k.toNat < row.length) (hn : at_.length ≤ 1000) (ha : (acc.length + 1) * 24 ≤ 140737488355328) : ∀ (fuel i : Nat), i ≤ at_.length → at_.length < i + fuel →
    table_Keep.l3 kl t at_ acc (m : Int) row fuel (pickS (at_.take i) row) (i : Int) = kl (acc ++ [pickS at_ row]) (IntKind.i64.wrap ((m : Int) + 1))
  | 0, i, _, h => by omega
  | fuel + 1, i, h1, h2 => by
    rw [table_Keep.l3]
    by_cases hi : i < at_.length
    · obtain ⟨k, hx, ex⟩ := getE hi
      obtain ⟨k0, k1⟩ := hk k (List.mem_of_getElem? hx)
      have hr : row[k.toNat]? = some row[k.toNat] := List.getElem?_eq_getElem k1
      have hix : ix row k = some row[k.toNat] := by unfold ix; rw [if_pos k0, hr]
      have hlen : (pickS (at_.take i) row).length ≤ i := by
        unfold pickS
        exact Nat.le_trans (List.length_filterMap_le _ _) (by simp; omega)
      rw [if_pos (dlt hi), ix_of hx, Option.bind_some, hix, Option.bind_some, apd_of (by simp only [List.length_singleton]; omega), Option.bind_some, w64_nat i (by omega)]
      have e : pickS (at_.take i) row ++ [row[k.toNat]] = pickS (at_.take (i + 1)) row := by
        rw [List.take_add_one, hx]
        simp [pickS, List.filterMap_append, hr]
      rw [e]
      exact keep_l3 hk hn ha fuel (i + 1) (by omega) (by omega)
    · rw [if_neg (dnl (by omega)), List.take_of_length_le (by omega), apd_of (by simpa using ha), Option.bind_some]
theorem keep_l2 {t : api_Table} {cols : List api_Col} {at_ : List Int} (hk : ∀ row ∈ t.Rows, ∀ k ∈ at_, 0 ≤ k ∧ k.toNat < row.length) (hn : at_.length ≤ 1000) (hc : cols.length * 24 ≤ 140737488355328) (ha : t.Rows.length * 24 ≤ 140737488351232) : ∀ (fuel i : Nat), i ≤ t.Rows.length → t.Rows.length < i + fuel →
    table_Keep.l2 t cols at_ fuel ((t.Rows.take i).map (pickS at_)) (i : Int) = some (canonS ⟨cols, t.Rows.map (pickS at_)⟩, 0)
  | 0, i, _, h => by omega
  | fuel + 1, i, h1, h2 => by
    rw [table_Keep.l2]
    by_cases hi : i < t.Rows.length
    · obtain ⟨r, hx, ex⟩ := getE hi
      have h3 := keep_l3 (t := t) (kl := table_Keep.l2 t cols at_ fuel) (acc := (t.Rows.take i).map (pickS at_)) (m := i) (hk r (List.mem_of_getElem? hx)) hn (by simp only [List.length_map, List.length_take]; omega) (at_.length + 1) 0 (Nat.zero_le _) (by omega)
      rw [show ((0 : Nat) : Int) = 0 from rfl, show pickS (at_.take 0) r = [] from rfl] at h3
      rw [if_pos (dlt hi), ix_of hx, Option.bind_some, fuel_nat, h3, w64_nat i (by omega)]
      have e : (t.Rows.take i).map (pickS at_) ++ [pickS at_ r] = (t.Rows.take (i + 1)).map (pickS at_) := by rw [List.take_add_one, hx]; simp
      rw [e]
      exact keep_l2 hk hn hc ha fuel (i + 1) (by omega) (by omega)
    · have hcn : table_Canon ⟨cols, t.Rows.map (pickS at_)⟩ = some (canonS ⟨cols, t.Rows.map (pickS at_)⟩) := canon_eq' (t := ⟨cols, t.Rows.map (pickS at_)⟩) hc (show (t.Rows.map (pickS at_)).length * 24 ≤ _ by rw [List.length_map]; omega) (fun r hr => by
        obtain ⟨q, _, rfl⟩ := List.mem_map.1 hr
        have : (pickS at_ q).length ≤ at_.length := List.length_filterMap_le _ _
        omega)
      rw [if_neg (dnl (by omega)), List.take_of_length_le (by omega), hcn]; rfl
theorem places_len {cols : List api_Col} : ∀ {names : List ByteArray} {acc at_ : List Int}, placesS cols acc names = some at_ → at_.length = acc.length + names.length
  | [], acc, at_, h => by simp only [placesS, Option.some.injEq] at h; subst h; rfl
  | n :: r, acc, at_, h => by
    rw [placesS] at h
    split at h
    · cases h
    · have := places_len h
      rw [this]; simp; omega
theorem places_ok {cols : List api_Col} : ∀ {names : List ByteArray} {acc at_ : List Int}, (∀ k ∈ acc, 0 ≤ k ∧ k.toNat < cols.length) → placesS cols acc names = some at_ → ∀ k ∈ at_, 0 ≤ k ∧ k.toNat < cols.length
  | [], acc, at_, h0, h => by simp only [placesS, Option.some.injEq] at h; subst h; exact h0
  | n :: r, acc, at_, h0, h => by
    rw [placesS] at h
    split at h
    · cases h
    · rename_i h1
      refine places_ok (fun k hk => ?_) h
      rcases List.mem_append.1 hk with hk | hk
      · exact h0 k hk
      · rw [List.mem_singleton] at hk
        subst hk
        have := findS_ge cols n
        omega
theorem keep_l0 {t : api_Table} {names : List ByteArray} (ht : szT t) (hk : ∀ row ∈ t.Rows, row.length = t.Cols.length) (hn : names.length ≤ 1000) : ∀ (fuel i : Nat) (acc : List Int), i ≤ names.length → names.length < i + fuel → acc.length = i → (∀ k ∈ acc, 0 ≤ k ∧ k.toNat < t.Cols.length) →
    table_Keep.l0 t names fuel (pickS acc t.Cols) acc (i : Int) = some (match placesS t.Cols acc (names.drop i) with
      | none => (none2, 20)
      | some at_ => if names = [] then (none2, 20) else (canonS ⟨pickS at_ t.Cols, t.Rows.map (pickS at_)⟩, 0))
  | 0, i, _, _, h, _, _ => by omega
  | fuel + 1, i, acc, h1, h2, h3, h4 => by
    have hc1 := ht.cols.1
    have hlen : (pickS acc t.Cols).length ≤ i := by rw [← h3]; exact List.length_filterMap_le _ _
    rw [table_Keep.l0]
    by_cases hi : i < names.length
    · obtain ⟨n, hx, ex⟩ := getE hi
      rw [if_pos (dlt hi), ix_of hx, Option.bind_some, find_eq hc1, Option.bind_some, ex, placesS]
      have hg := findS_ge t.Cols n
      by_cases hf : findS t.Cols n < 0
      · rw [if_pos (by simpa using hf), if_pos (Or.inl hf)]; rfl
      · rw [if_neg (by simpa using hf), contains_eq (by omega), Option.bind_some]
        unfold table_Keep.j1
        by_cases hm : findS t.Cols n ∈ acc
        · rw [if_pos (by simpa using hm), if_pos (Or.inr hm)]; rfl
        · have hr : t.Cols[(findS t.Cols n).toNat]? = some t.Cols[(findS t.Cols n).toNat] := List.getElem?_eq_getElem (by omega)
          have hix : ix t.Cols (findS t.Cols n) = some t.Cols[(findS t.Cols n).toNat] := by unfold ix; rw [if_pos (by omega), hr]
          rw [if_neg (by simpa using hm), if_neg (by simp only [hm, hf, or_self, not_false_eq_true]), apd_of (by simp only [List.length_singleton]; omega), Option.bind_some, hix, Option.bind_some, apd_of (by simp only [List.length_singleton]; omega), Option.bind_some, w64_nat i (by omega)]
          have e : pickS acc t.Cols ++ [t.Cols[(findS t.Cols n).toNat]] = pickS (acc ++ [findS t.Cols n]) t.Cols := by simp [pickS, List.filterMap_append, hr]
          rw [e]
          exact keep_l0 ht hk hn fuel (i + 1) _ (by omega) (by omega) (by simp [h3]) (fun k hk => by
            rcases List.mem_append.1 hk with hk | hk
            · exact h4 k hk
            · rw [List.mem_singleton] at hk; subst hk; omega)
    · have e0 : names.drop i = [] := List.drop_of_length_le (by omega)
      rw [if_neg (dnl (by omega)), e0]
      simp only [placesS]
      by_cases hz : names = []
      · have : acc = [] := List.eq_nil_of_length_eq_zero (by rw [h3]; subst hz; simpa using h1)
        subst this
        rw [if_pos (by simp), if_pos hz]; rfl
      · have : names.length ≠ 0 := fun h => hz (List.eq_nil_of_length_eq_zero h)
        rw [if_neg (by simp; intro h; rw [h] at h3; simp at h3; omega), if_neg hz, fuel_nat]
        have := keep_l2 (t := t) (cols := pickS acc t.Cols) (at_ := acc) (fun row hr k hk' => by rw [hk row hr]; exact h4 k hk') (by omega) (by omega) ht.r (t.Rows.length + 1) 0 (Nat.zero_le _) (by omega)
        exact this
theorem keep_eq {t : api_Table} {names : List ByteArray} (ht : szT t) (hn : names.length ≤ 1000) : table_Keep t names = some (keepS t names) := by
  unfold table_Keep keepS
  rw [check_eq ht.cols ht.rows, Option.bind_some]
  by_cases h : checkS t = 0
  · rw [if_neg (by simp [h]), if_neg (by simp [h]), fuel_nat]
    have := keep_l0 (names := names) ht (fun row hr => rowOk_len ((checkS_zero.1 h).2 row hr)) hn (names.length + 1) 0 [] (Nat.zero_le _) (by omega) rfl (by simp)
    exact this
  · rw [if_pos (by simpa using h), if_pos h]; rfl
end Go.Proofs.Ytojfckndloelpaa.M
