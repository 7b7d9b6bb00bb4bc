/- Layer 16: times are laid down to multiples: what is said of it, and that the program and the reference do so. -/
import Derived.Test.YtjimddbbpjpgdaaPure
import Derived.Test.YtjimddbbpjpgdaaPLTc
import Derived.Test.YtjimddbbpjpgdaaPLTd
namespace Go.Proofs.Ytjimddbbpjpgdaa.M
open Go Go.Eng Go.Proofs Go.RowKit
set_option maxRecDepth 100000
set_option linter.unusedVariables false
set_option linter.unusedSimpArgs false

theorem allFrom_get {α : Type} {p : Nat → α → Bool} : ∀ {xs : List α} {i : Nat}, allFrom p i xs = true → ∀ (j : Nat) x, xs[j]? = some x → p (i + j) x = true
  | [], _, _, j, x, hx => by simp at hx
  | y :: r, i, h, j, x, hx => by
    simp only [allFrom, Bool.and_eq_true] at h
    cases j with
    | zero => simp at hx; subst hx; exact h.1
    | succ j =>
      have := allFrom_get h.2 j x (by simpa using hx)
      rwa [show i + (j + 1) = i + 1 + j by omega]
theorem cols_find {cols : List api_Col} (h : colsS cols = true) {i : Nat} {c : api_Col} (hc : cols[i]? = some c) : findS cols c.Name = (i : Int) := by
  unfold colsS at h
  rw [Bool.and_eq_true] at h
  have := allFrom_get h.1 i c hc
  unfold colOk at this
  simp only [Bool.and_eq_true, decide_eq_true_eq, Nat.zero_add] at this
  exact this.2
theorem cols_len {cols : List api_Col} (h : colsS cols = true) : 1 ≤ cols.length ∧ cols.length ≤ 16 := by
  unfold colsS at h
  rw [Bool.and_eq_true] at h
  simpa using h.2
def cutS (t : api_Table) : api_Table := ⟨t.Cols, t.Rows.take 100⟩
theorem cut_eq' (t : api_Table) : law16_cut t = some (cutS t) := by
  unfold law16_cut cutS
  by_cases h : t.Rows.length > 100
  · rw [if_pos (by simp; omega), cut_of (by omega) (by omega) (by omega)]; rfl
  · rw [if_neg (by simp; omega), List.take_of_length_le (by omega)]
theorem szT.cut {t : api_Table} (h : szT t) : szT (cutS t) := h.sub rfl (by simp [cutS]; omega) (fun r hr => List.mem_of_mem_take hr)
theorem cut_len (t : api_Table) : (cutS t).Rows.length ≤ 100 := by simp [cutS]; omega
/-- Numbers are no greater than a word. -/
def rngT (t : api_Table) : Prop := ∀ r ∈ t.Rows, ∀ v ∈ r, -9223372036854775808 ≤ v.N ∧ v.N ≤ 9223372036854775807
theorem rngT_of {t : api_Table} (h : ok_api_Table t) : rngT t := fun r hr v hv => i64_range ((h.2.2 r hr).2 v hv).2.1
theorem rngT.sub {t u : api_Table} (h : rngT t) (hr : ∀ r ∈ u.Rows, r ∈ t.Rows) : rngT u := fun r h1 => h r (hr r h1)
theorem rngT.cut {t : api_Table} (h : rngT t) : rngT (cutS t) := h.sub fun r hr => List.mem_of_mem_take hr
theorem rngT.canon {t : api_Table} (h : rngT t) : rngT (canonS t) := h.sub fun r hr => mem_sortC.1 hr

/-! numbers -/
def downS (n w : Int) : Int := if n < -9223372036854775808 + n % w then n else n - n % w
theorem down_of {n w : Int} (hw : 1 ≤ w) : (n.tmod w < 0 → n.tmod w + w = n % w) ∧ (¬ n.tmod w < 0 → n.tmod w = n % w) := by
  have h0 := Int.emod_nonneg n (show w ≠ 0 by omega)
  have h1 := Int.emod_lt_of_pos n (show 0 < w by omega)
  have e := Int.tmod_eq_emod (a := n) (b := w)
  by_cases h : 0 ≤ n ∨ w ∣ n
  · rw [if_pos h] at e
    exact ⟨fun h2 => by omega, fun _ => by omega⟩
  · rw [if_neg h] at e
    have : (w.natAbs : Int) = w := by omega
    rw [this] at e
    exact ⟨fun _ => by omega, fun h2 => by omega⟩
theorem pdown_eq {n w : Int} (hw : 1 ≤ w) (hw2 : w ≤ 9223372036854775807) (hn : -9223372036854775808 ≤ n ∧ n ≤ 9223372036854775807) : rowops_down n w = some (downS n w) := by
  have h0 := Int.emod_nonneg n (show w ≠ 0 by omega)
  have h1 := Int.emod_lt_of_pos n (show 0 < w by omega)
  obtain ⟨d1, d2⟩ := down_of (n := n) hw
  have key : ∀ x, x = n % w → rowops_down.j0 n x = some (downS n w) := fun x hx => by
    subst hx
    unfold rowops_down.j0 downS
    rw [w64 (x := (-9223372036854775808 : Int) + n % w) (by omega) (by omega)]
    by_cases h : n < -9223372036854775808 + n % w
    · rw [if_pos (by simpa using h), if_pos h]
    · rw [if_neg (by simpa using h), if_neg h, w64 (by omega) (by omega)]
  unfold rowops_down
  rw [if_pos (by simp only [bne_iff_ne, ne_eq]; omega)]
  by_cases h : n.tmod w < 0
  · rw [if_pos (by simpa using h)]
    exact key _ (by rw [w64 (by rw [d1 h]; omega) (by rw [d1 h]; omega)]; exact d1 h)
  · rw [if_neg (by simpa using h)]
    exact key _ (d2 h)
theorem rdown_eq {n w : Int} (hw : 1 ≤ w) (hw2 : w ≤ 9223372036854775807) (hn : -9223372036854775808 ≤ n ∧ n ≤ 9223372036854775807) : ref16_down n w = some (downS n w) := by
  have : ref16_down n w = rowops_down n w := rfl
  rw [this]; exact pdown_eq hw hw2 hn
theorem downS_range {n w : Int} (hw : 1 ≤ w) (hn : -9223372036854775808 ≤ n ∧ n ≤ 9223372036854775807) : -9223372036854775808 ≤ downS n w ∧ downS n w ≤ 9223372036854775807 := by
  have h0 := Int.emod_nonneg n (show w ≠ 0 by omega)
  unfold downS; split <;> omega
theorem downS_down {n w : Int} (hw : 1 ≤ w) : downS (downS n w) w = downS n w := by
  by_cases h : n < -9223372036854775808 + n % w
  · have e : downS n w = n := by unfold downS; rw [if_pos h]
    rw [e, e]
  · have e : downS n w = n - n % w := by unfold downS; rw [if_neg h]
    have e2 : (n - n % w) % w = 0 := by
      rw [Int.sub_emod, Int.emod_emod_of_dvd n (Int.dvd_refl w)]; simp
    rw [e]
    unfold downS
    rw [e2]
    split <;> omega

/-! rows -/
def layV (w : Int) (v : api_Value) : api_Value := ⟨v.Kind, downS v.N w, v.S, v.H⟩
def layR (k : Nat) (w : Int) (r : List api_Value) : List api_Value := match r[k]? with
  | some v => r.set k (layV w v)
  | none => r
theorem layR_len (k : Nat) (w : Int) (r : List api_Value) : (layR k w r).length = r.length := by unfold layR; split <;> simp
theorem layR_lay {k : Nat} {w : Int} (hw : 1 ≤ w) (r : List api_Value) : layR k w (layR k w r) = layR k w r := by
  cases h : r[k]? with
  | none =>
    have e : layR k w r = r := by unfold layR; rw [h]
    rw [e, e]
  | some v =>
    have hk := (List.getElem?_eq_some_iff.1 h).1
    have e : layR k w r = r.set k (layV w v) := by unfold layR; rw [h]
    rw [e]
    unfold layR
    rw [List.getElem?_set_self (by omega)]
    dsimp only
    rw [List.set_set]
    congr 1
    unfold layV
    simp only [downS_down hw]
theorem layR_mem {k : Nat} {w : Int} {r : List api_Value} {u : api_Value} (h : u ∈ layR k w r) : u ∈ r ∨ ∃ v ∈ r, u = layV w v := by
  unfold layR at h
  split at h
  · rename_i v hv
    rcases List.mem_or_eq_of_mem_set h with h | h
    · exact Or.inl h
    · exact Or.inr ⟨v, List.mem_of_getElem? hv, h⟩
  · exact Or.inl h
theorem layR_ok {w : Int} : ∀ {k : Nat} {r : List api_Value} {cs : List api_Col} {c : api_Col}, cs[k]? = some c → c.Kind = 1 → rowOk r cs = true → rowOk (layR k w r) cs = true
  | k, [], cs, c, hc, h1, h => by simpa [layR] using h
  | k, v :: r, [], c, hc, h1, h => by simp at hc
  | 0, v :: r, d :: cs, c, hc, h1, h => by
    simp at hc; subst hc
    simp only [rowOk, Bool.and_eq_true, decide_eq_true_eq] at h
    obtain ⟨⟨h2, h3⟩, h4⟩ := h
    have e : layR 0 w (v :: r) = layV w v :: r := rfl
    have hv : validS (layV w v) = true := by
      have hk : v.Kind = 1 := by omega
      have hk' : (layV w v).Kind = 1 := hk
      unfold validS at h3 ⊢
      rw [if_pos hk] at h3
      rw [if_pos hk']
      exact h3
    rw [e]
    simp only [rowOk, Bool.and_eq_true, decide_eq_true_eq]
    exact ⟨⟨h2, hv⟩, h4⟩
  | k + 1, v :: r, d :: cs, c, hc, h1, h => by
    simp only [rowOk, Bool.and_eq_true] at h
    have e : layR (k + 1) w (v :: r) = v :: layR k w r := by
      unfold layR
      simp only [List.getElem?_cons_succ]
      cases r[k]? <;> rfl
    rw [e]
    simp only [rowOk, Bool.and_eq_true]
    exact ⟨h.1, layR_ok (by simpa using hc) h1 h.2⟩

/-! columns -/
def colT : api_Col := ⟨⟨#[116, 105, 109, 101]⟩, 1⟩
def atS (cols : List api_Col) : Int := match cols.findIdx? (fun c => decide (colT = c)) with
  | some i => (i : Int)
  | none => -1
theorem index_l0 {cols : List api_Col} (hn : cols.length < 4611686018427387904) : ∀ (fuel i : Nat), i ≤ cols.length → cols.length < i + fuel →
    slices_Index_api_Col_api_Col.l0 cols colT fuel (i : Int) = some (match (cols.drop i).findIdx? (fun c => decide (colT = c)) with | some j => ((i + j : Nat) : Int) | none => -1)
  | 0, i, _, h => by omega
  | fuel + 1, i, h1, h2 => by
    rw [slices_Index_api_Col_api_Col.l0]
    by_cases hi : i < cols.length
    · obtain ⟨c, hc, ec⟩ := getE hi
      rw [if_pos (dlt hi), ix_of hc, Option.bind_some, ec, List.findIdx?_cons]
      by_cases e : colT = c
      · simp [e]
      · rw [if_neg (by simpa using e), if_neg (by simpa using e), w64_nat i (by omega), index_l0 hn fuel (i + 1) (by omega) (by omega)]
        cases (cols.drop (i + 1)).findIdx? (fun c => decide (colT = c)) with
        | none => rfl
        | some j =>
          show some (((i + 1 + j : Nat)) : Int) = some (((i + (j + 1) : Nat)) : Int)
          congr 2; omega
    · rw [if_neg (dnl (by omega)), List.drop_of_length_le (by omega)]; rfl
theorem index_eq {cols : List api_Col} (hn : cols.length < 4611686018427387904) : slices_Index_api_Col_api_Col cols colT = some (atS cols) := by
  unfold slices_Index_api_Col_api_Col atS
  rw [fuel_nat, show (0 : Int) = ((0 : Nat) : Int) from rfl, index_l0 hn (cols.length + 1) 0 (Nat.zero_le _) (by omega), List.drop_zero]
  cases cols.findIdx? (fun c => decide (colT = c)) with
  | none => rfl
  | some j => simp
theorem atS_some {cols : List api_Col} (h : 0 ≤ atS cols) : ∃ k : Nat, atS cols = (k : Int) ∧ cols[k]? = some colT := by
  unfold atS at *
  cases e : cols.findIdx? (fun c => decide (colT = c)) with
  | none => rw [e] at h; simp at h
  | some j =>
    obtain ⟨hj, h1, _⟩ := List.findIdx?_eq_some_iff_getElem.1 e
    exact ⟨j, rfl, by rw [List.getElem?_eq_getElem hj]; simp at h1; rw [h1]⟩
theorem atS_neg {cols : List api_Col} (h : atS cols < 0) : ∀ c ∈ cols, c ≠ colT := by
  unfold atS at h
  cases e : cols.findIdx? (fun c => decide (colT = c)) with
  | none =>
    intro c hc hcT
    have := List.findIdx?_eq_none_iff.1 e c hc
    simp [hcT] at this
  | some j => rw [e] at h; simp at h; omega
/-- The name's place, and its kind, tell the same. -/
theorem at_find {cols : List api_Col} (h : colsS cols = true) {k : Nat} (hk : cols[k]? = some colT) : findS cols colT.Name = (k : Int) := cols_find h hk
theorem find_at {cols : List api_Col} (h : colsS cols = true) (h0 : 0 ≤ findS cols colT.Name) : ∃ (k : Nat) (c : api_Col), findS cols colT.Name = (k : Int) ∧ cols[k]? = some c ∧ (c.Kind = 1 → atS cols = (k : Int)) ∧ (c.Kind ≠ 1 → atS cols < 0) := by
  obtain ⟨k, c, h1, h2, h3⟩ := findS_some h0
  refine ⟨k, c, h1, h2, fun hk => ?_, fun hk => ?_⟩
  · have hcT : c = colT := by
      cases c with
      | mk n q =>
        simp only at h3 hk
        obtain ⟨h3, _⟩ := h3
        subst h3; subst hk; rfl
    rcases Int.lt_or_le (atS cols) 0 with hn | hn
    · exact absurd hcT (atS_neg hn c (List.mem_of_getElem? h2))
    · obtain ⟨i, e1, e2⟩ := atS_some hn
      have := at_find h e2
      omega
  · rcases Int.lt_or_le (atS cols) 0 with hn | hn
    · exact hn
    · obtain ⟨i, e1, e2⟩ := atS_some hn
      have := at_find h e2
      have : i = k := by omega
      subst this
      rw [e2] at h2; cases h2
      exact absurd rfl hk

/-! tables -/
def layT (t : api_Table) (w : Int) : api_Table := ⟨t.Cols, t.Rows.map (layR (atS t.Cols).toNat w)⟩
def alignS (t : api_Table) (w : Int) : api_Table × Int :=
  if checkS t ≠ 0 then (none2, checkS t) else if w < 1 ∨ atS t.Cols < 0 then (none2, 1) else (canonS (layT t w), 0)
theorem szT.lay {t : api_Table} (h : szT t) (w : Int) : szT (layT t w) := by
  refine ⟨h.c, h.n, by simpa [layT] using h.r, fun r hr => ?_, fun r hr v hv => ?_⟩
  · obtain ⟨q, hq, rfl⟩ := List.mem_map.1 hr
    rw [layR_len]; exact h.w q hq
  · obtain ⟨q, hq, rfl⟩ := List.mem_map.1 hr
    rcases layR_mem hv with hv | ⟨u, hu, rfl⟩
    · exact h.s q hq v hv
    · exact h.s q hq u hu
theorem rngT.lay {t : api_Table} (h : rngT t) {w : Int} (hw : 1 ≤ w) : rngT (layT t w) := fun r hr v hv => by
  obtain ⟨q, hq, rfl⟩ := List.mem_map.1 hr
  rcases layR_mem hv with hv | ⟨u, hu, rfl⟩
  · exact h q hq v hv
  · exact downS_range hw (h q hq u hu)
theorem check_lay {t : api_Table} (h : checkS t = 0) (ha : 0 ≤ atS t.Cols) (w : Int) : checkS (layT t w) = 0 := by
  obtain ⟨hc, hr⟩ := checkS_zero.1 h
  obtain ⟨k, e, hk⟩ := atS_some ha
  refine checkS_zero.2 ⟨hc, fun r hm => ?_⟩
  obtain ⟨q, hq, rfl⟩ := List.mem_map.1 hm
  rw [e, Int.toNat_natCast]
  exact layR_ok hk rfl (hr q hq)
theorem palign_l1 {cols : List api_Col} {t : api_Table} {w : Int} {k : Nat} (hw : 1 ≤ w) (hw2 : w ≤ 9223372036854775807) (hr : t.Rows.length < 4611686018427387904) (hk : ∀ r ∈ t.Rows, k < r.length) (hg : rngT t) (hs : szT t) : ∀ (fuel i : Nat), i ≤ t.Rows.length → t.Rows.length < i + fuel →
    rowops_Align.l1 w (k : Int) t fuel ((t.Rows.take i).map (layR k w) ++ t.Rows.drop i) (i : Int) = some (canonS ⟨t.Cols, t.Rows.map (layR k w)⟩, 0)
  | 0, i, _, h => by omega
  | fuel + 1, i, h1, h2 => by
    rw [rowops_Align.l1]
    by_cases hi : i < t.Rows.length
    · obtain ⟨r, hx, ex⟩ := getE hi
      have hkr := hk r (List.mem_of_getElem? hx)
      obtain ⟨v, hv⟩ : ∃ v, r[k]? = some v := ⟨r[k], List.getElem?_eq_getElem hkr⟩
      have hl : ((t.Rows.take i).map (layR k w)).length = i := by simp; omega
      have hgi : ((t.Rows.take i).map (layR k w) ++ t.Rows.drop i)[i]? = some r := by
        rw [List.getElem?_append_right (by omega), hl, Nat.sub_self, ex]; rfl
      rw [if_pos (dlt hi), ix_of hgi, Option.bind_some, ix_of hv, Option.bind_some, pdown_eq hw hw2 (hg r (List.mem_of_getElem? hx) v (List.mem_of_getElem? hv)), Option.bind_some, Option.bind_some, w64_nat i (by omega)]
      have e1 : upd r (k : Int) (⟨v.Kind, downS v.N w, v.S, v.H⟩ : api_Value) = layR k w r := by unfold upd layR layV; rw [hv]; rfl
      have e2 : upd ((t.Rows.take i).map (layR k w) ++ t.Rows.drop i) (i : Int) (layR k w r) = (t.Rows.take (i + 1)).map (layR k w) ++ t.Rows.drop (i + 1) := by
        unfold upd
        rw [Int.toNat_natCast, List.set_append_right _ _ (by omega), hl, Nat.sub_self, ex, List.set_cons_zero, List.take_add_one, hx]
        simp
      rw [e1, e2]
      exact palign_l1 (cols := cols) hw hw2 hr hk hg hs fuel (i + 1) (by omega) (by omega)
    · rw [if_neg (dnl (by omega)), List.take_of_length_le (by omega), List.drop_of_length_le (by omega), List.append_nil]
      have hz : szT ⟨t.Cols, t.Rows.map (layR k w)⟩ := by
        refine ⟨hs.c, hs.n, by simpa using hs.r, fun r hr => ?_, fun r hr v hv => ?_⟩
        · obtain ⟨q, hq, rfl⟩ := List.mem_map.1 hr
          rw [layR_len]; exact hs.w q hq
        · obtain ⟨q, hq, rfl⟩ := List.mem_map.1 hr
          rcases layR_mem hv with hv | ⟨u, hu, rfl⟩
          · exact hs.s q hq v hv
          · exact hs.s q hq u hu
      rw [canon_eq hz]; rfl
theorem palign_eq {t : api_Table} {w : Int} (hs : szT t) (hg : rngT t) (hw2 : w ≤ 9223372036854775807) : rowops_Align t w = some (alignS t w) := by
  unfold rowops_Align rowops_Align.j0 alignS
  rw [check_eq hs.cols hs.rows, Option.bind_some]
  by_cases hz : checkS t = 0
  · rw [if_neg (by simpa using hz), if_neg (by simpa using hz)]
    have hi := index_eq hs.cols.1
    unfold colT at hi
    rw [hi, Option.bind_some]
    by_cases hw : w < 1
    · rw [if_pos (by simpa using hw), if_pos rfl, if_pos (Or.inl hw)]; rfl
    · rw [if_neg (by simpa using hw)]
      by_cases ha : atS t.Cols < 0
      · rw [if_pos (by simpa using ha), if_pos (Or.inr ha)]; rfl
      · rw [if_neg (by simpa using ha), if_neg (by omega), canon_eq hs, Option.bind_some, fuel_nat]
        obtain ⟨k, e, hk⟩ := atS_some (show 0 ≤ atS t.Cols by omega)
        obtain ⟨hc, hr⟩ := checkS_zero.1 hz
        have hkl := (List.getElem?_eq_some_iff.1 hk).1
        have hrl : (canonS t).Rows.length < 4611686018427387904 := by have := hs.canon.r; omega
        have := palign_l1 (cols := t.Cols) (t := canonS t) (w := w) (k := k) (by omega) hw2 hrl (fun r hm => by rw [rowOk_len (hr r (mem_sortC.1 hm))]; exact hkl) hg.canon hs.canon ((canonS t).Rows.length + 1) 0 (Nat.zero_le _) (by omega)
        rw [e]
        refine Eq.trans this ?_
        unfold layT
        rw [e, Int.toNat_natCast]
        congr 2
        exact canonS_perm rfl ((sortC_perm cmpR t.Rows).map _)
  · rw [if_pos (by simpa using hz), if_pos (by simpa using hz)]; rfl
theorem ralign_l1 {t : api_Table} {w : Int} {k : Nat} (hw : 1 ≤ w) (hw2 : w ≤ 9223372036854775807) (hs : szT t) (hk : ∀ r ∈ t.Rows, k < r.length) (hg : rngT t) : ∀ (fuel i : Nat), i ≤ t.Rows.length → t.Rows.length < i + fuel →
    ref16_Align.l1 t w (k : Int) fuel ((t.Rows.take i).map (layR k w)) (i : Int) = some (canonS ⟨t.Cols, t.Rows.map (layR k w)⟩, 0)
  | 0, i, _, h => by omega
  | fuel + 1, i, h1, h2 => by
    have hr := hs.r
    rw [ref16_Align.l1]
    by_cases hi : i < t.Rows.length
    · obtain ⟨r, hx, ex⟩ := getE hi
      have hm := List.mem_of_getElem? hx
      have hkr := hk r hm
      have hrw := hs.w r hm
      obtain ⟨v, hv⟩ : ∃ v, r[k]? = some v := ⟨r[k], List.getElem?_eq_getElem hkr⟩
      rw [if_pos (dlt hi), ix_of hx, Option.bind_some, apd_of (by simp; omega), Option.bind_some, List.nil_append, ix_of hv, Option.bind_some, rdown_eq hw hw2 (hg r hm v (List.mem_of_getElem? hv)), Option.bind_some, Option.bind_some,
        apd_of (by simp only [List.length_map, List.length_take, List.length_singleton]; omega), Option.bind_some, w64_nat i (by omega)]
      have e1 : upd r (k : Int) (⟨v.Kind, downS v.N w, v.S, v.H⟩ : api_Value) = layR k w r := by unfold upd layR layV; rw [hv]; rfl
      have e2 : (t.Rows.take i).map (layR k w) ++ [layR k w r] = (t.Rows.take (i + 1)).map (layR k w) := by rw [List.take_add_one, hx]; simp
      rw [e1, e2]
      exact ralign_l1 hw hw2 hs hk hg fuel (i + 1) (by omega) (by omega)
    · rw [if_neg (dnl (by omega)), List.take_of_length_le (by omega)]
      have hz : szT ⟨t.Cols, t.Rows.map (layR k w)⟩ := by
        refine ⟨hs.c, hs.n, by simpa using hs.r, fun r hr => ?_, fun r hr v hv => ?_⟩
        · obtain ⟨q, hq, rfl⟩ := List.mem_map.1 hr
          rw [layR_len]; exact hs.w q hq
        · obtain ⟨q, hq, rfl⟩ := List.mem_map.1 hr
          rcases layR_mem hv with hv | ⟨u, hu, rfl⟩
          · exact hs.s q hq v hv
          · exact hs.s q hq u hu
      rw [rcanon_eq hz]; rfl
theorem ralign_eq {t : api_Table} {w : Int} (hs : szT t) (hg : rngT t) (hw2 : w ≤ 9223372036854775807) : ref16_Align t w = some (alignS t w) := by
  unfold ref16_Align ref16_Align.j0 alignS
  rw [rcheck_eq hs.cols hs.rows, Option.bind_some]
  by_cases hz : checkS t = 0
  · rw [if_neg (by simpa using hz), if_neg (by simpa using hz)]
    obtain ⟨hc, hr⟩ := checkS_zero.1 hz
    have hi := rfind_eq (name := colT.Name) hs.cols.1
    rw [show colT.Name = (⟨#[116, 105, 109, 101]⟩ : ByteArray) from rfl] at hi
    rw [hi, Option.bind_some]
    by_cases hw : w < 1
    · rw [if_pos (by simpa using hw), if_pos rfl, if_pos (Or.inl hw)]; rfl
    · rw [if_neg (by simpa using hw)]
      by_cases hf : findS t.Cols (⟨#[116, 105, 109, 101]⟩ : ByteArray) < 0
      · have ha : atS t.Cols < 0 := by
          rcases Int.lt_or_le (atS t.Cols) 0 with hn | hn
          · exact hn
          · obtain ⟨i, e1, e2⟩ := atS_some hn
            have := at_find hc e2
            rw [show colT.Name = (⟨#[116, 105, 109, 101]⟩ : ByteArray) from rfl] at this
            omega
        rw [if_pos (by simpa using hf), if_pos (Or.inr ha)]; rfl
      · obtain ⟨k, c, e1, e2, e3, e4⟩ := find_at hc (show 0 ≤ findS t.Cols colT.Name from (by rw [show colT.Name = (⟨#[116, 105, 109, 101]⟩ : ByteArray) from rfl]; omega))
        rw [show colT.Name = (⟨#[116, 105, 109, 101]⟩ : ByteArray) from rfl] at e1
        rw [if_neg (by simpa using hf), e1, ix_of e2, Option.bind_some]
        by_cases hk : c.Kind = 1
        · have ha := e3 hk
          have hkl := (List.getElem?_eq_some_iff.1 e2).1
          rw [if_neg (by simp [hk]), if_neg (by omega), fuel_nat]
          have := ralign_l1 (t := t) (w := w) (k := k) (by omega) hw2 hs (fun r hm => by rw [rowOk_len (hr r hm)]; exact hkl) hg (t.Rows.length + 1) 0 (Nat.zero_le _) (by omega)
          refine Eq.trans this ?_
          unfold layT
          rw [ha, Int.toNat_natCast]
        · rw [if_pos (by simpa using hk), if_pos (Or.inr (e4 hk))]; rfl
  · rw [if_pos (by simpa using hz), if_pos (by simpa using hz)]; rfl
theorem align_align {t : api_Table} {w : Int} (h : (alignS t w).2 = 0) : alignS (alignS t w).1 w = alignS t w ∧ 1 ≤ w := by
  unfold alignS at h
  by_cases hz : checkS t = 0
  · rw [if_neg (by simpa using hz)] at h
    by_cases ha : w < 1 ∨ atS t.Cols < 0
    · rw [if_pos ha] at h; simp at h
    · have e : alignS t w = (canonS (layT t w), 0) := by unfold alignS; rw [if_neg (by simpa using hz), if_neg ha]
      rw [e]
      have hz2 : checkS (canonS (layT t w)) = 0 := by rw [checkS_canon]; exact check_lay hz (by omega) w
      refine ⟨?_, by omega⟩
      unfold alignS
      rw [if_neg (by simpa using hz2)]
      rw [if_neg (show ¬ (w < 1 ∨ atS (canonS (layT t w)).Cols < 0) from ha)]
      congr 1
      have e1 : layT (canonS (layT t w)) w = ⟨t.Cols, (sortC cmpR (t.Rows.map (layR (atS t.Cols).toNat w))).map (layR (atS t.Cols).toNat w)⟩ := rfl
      rw [e1]
      refine canonS_perm rfl ?_
      refine ((sortC_perm cmpR _).map _).trans ?_
      rw [List.map_map]
      refine List.Perm.of_eq (List.map_congr_left fun r _ => ?_)
      exact layR_lay (by omega) r
  · rw [if_pos (by simpa using hz)] at h; exact absurd h hz
theorem align_sz {t : api_Table} {w : Int} (hs : szT t) (hg : rngT t) (h : (alignS t w).2 = 0) : szT (alignS t w).1 ∧ rngT (alignS t w).1 := by
  unfold alignS at h ⊢
  by_cases hz : checkS t = 0
  · rw [if_neg (by simpa using hz)] at h ⊢
    by_cases ha : w < 1 ∨ atS t.Cols < 0
    · rw [if_pos ha] at h; simp at h
    · rw [if_neg ha]
      exact ⟨(hs.lay w).canon, (hg.lay (by omega)).canon⟩
  · rw [if_pos (by simpa using hz)] at h; exact absurd h hz
end Go.Proofs.Ytjimddbbpjpgdaa.M
