/- Layer 15: the document's examples; rows with one value. -/
import Derived.Test.YtjklfkiaebipnaaPure
import Derived.Test.YtjklfkiaebipnaaPLHe
namespace Go.Proofs.Ytjklfkiaebipnaa.M
open Go Go.Eng Go.Proofs Go.RowKit
set_option maxRecDepth 100000
set_option linter.unusedVariables false
set_option linter.unusedSimpArgs false

theorem shown_ok : law15_shown = some true := by kernel_rfl
theorem allFrom_get {α : Type} {p : Nat → α → Bool} : ∀ {xs : List α} {i : Nat}, allFrom p i xs = true → ∀ (j : Nat) x, xs[j]? = some x → p (i + j) x = true
  | [], _, _, j, x, hx => by simp at hx
  | y :: r, i, h, j, x, hx => by
    simp only [allFrom, Bool.and_eq_true] at h
    cases j with
    | zero => simp at hx; subst hx; exact h.1
    | succ j =>
      have := allFrom_get h.2 j x (by simpa using hx)
      rwa [show i + (j + 1) = i + 1 + j by omega]
theorem cols_find {cols : List api_Col} (h : colsS cols = true) {i : Nat} {c : api_Col} (hc : cols[i]? = some c) : findS cols c.Name = (i : Int) := by
  unfold colsS at h
  rw [Bool.and_eq_true] at h
  have := allFrom_get h.1 i c hc
  unfold colOk at this
  simp only [Bool.and_eq_true, decide_eq_true_eq, Nat.zero_add] at this
  exact this.2
theorem cols_len {cols : List api_Col} (h : colsS cols = true) : 1 ≤ cols.length ∧ cols.length ≤ 16 := by
  unfold colsS at h
  rw [Bool.and_eq_true] at h
  simpa using h.2
def cutS (t : api_Table) : api_Table := ⟨t.Cols, t.Rows.take 100⟩
theorem cut_eq' (t : api_Table) : law15_cut t = some (cutS t) := by
  unfold law15_cut cutS
  by_cases h : t.Rows.length > 100
  · rw [if_pos (by simp; omega), cut_of (by omega) (by omega) (by omega)]; rfl
  · rw [if_neg (by simp; omega), List.take_of_length_le (by omega)]
theorem szT.cut {t : api_Table} (h : szT t) : szT (cutS t) := h.sub rfl (by simp [cutS]; omega) (fun r hr => List.mem_of_mem_take hr)
theorem cut_len (t : api_Table) : (cutS t).Rows.length ≤ 100 := by simp [cutS]; omega
theorem tmod_nat {x : Int} {n : Nat} (hx : 0 ≤ x) (hn : 0 < n) : ∃ k : Nat, k < n ∧ x.tmod (n : Int) = (k : Int) := by
  have h0 := Int.tmod_nonneg (n : Int) hx
  have h1 := Int.tmod_lt_of_pos x (show 0 < (n : Int) by omega)
  exact ⟨(x.tmod (n : Int)).toNat, by omega, by omega⟩
theorem rowOk_kind : ∀ {r : List api_Value} {cs : List api_Col} {k : Nat} {v : api_Value} {c : api_Col}, rowOk r cs = true → r[k]? = some v → cs[k]? = some c → v.Kind = c.Kind
  | [], _, _, _, _, _, h, _ => by simp at h
  | _ :: _, [], _, _, _, h, _, _ => by simp [rowOk] at h
  | u :: r, d :: cs, 0, v, c, h, hv, hc => by
    simp only [rowOk, Bool.and_eq_true, decide_eq_true_eq] at h
    simp at hv hc; subst hv; subst hc; exact h.1.1
  | u :: r, d :: cs, k + 1, v, c, h, hv, hc => by
    simp only [rowOk, Bool.and_eq_true] at h
    exact rowOk_kind h.2 (by simpa using hv) (by simpa using hc)
/-- One of two nodes that hold one cell against a value. -/
theorem holdsQ_two (n0 n1 : api_Node) (h0 : n0.Kind = 14) (h1 : n1.Kind = 14) (cols : List api_Col) (row : List api_Value) :
    holdsQ ⟨[n0, n1]⟩ 0 cols row = (match cellS cols row n0.S with | some v => holdsS n0.N v n0.V | none => false) ∧ holdsQ ⟨[n0, n1]⟩ 1 cols row = (match cellS cols row n1.S with | some v => holdsS n1.N v n1.V | none => false) := by
  constructor
  · unfold holdsQ
    rw [if_neg (by simp)]
    simp [evS, nodeS, h0]
    cases cellS cols row n0.S <;> rfl
  · unfold holdsQ
    rw [if_neg (by simp)]
    simp [evS, nodeS, h0, h1]
    cases cellS cols row n1.S <;> rfl
def eqQ (s : ByteArray) (v : api_Value) : api_Query := ⟨[⟨14, s, 1, 0, 0, v, [], [], []⟩, ⟨14, s, 2, 0, 0, v, [], [], []⟩]⟩
theorem eqQ_row {cols : List api_Col} {row : List api_Value} {v u : api_Value} {k : Nat} {c : api_Col} (h : colsS cols = true) (hc : cols[k]? = some c) (hu : row[k]? = some u) (hk : u.Kind = v.Kind) :
    holdsQ (eqQ c.Name v) 0 cols row = decide (u = v) ∧ holdsQ (eqQ c.Name v) 1 cols row = !decide (u = v) := by
  have hcell : cellS cols row c.Name = some u := by unfold cellS; rw [cols_find h hc, if_pos (by omega), Int.toNat_natCast, hu]
  obtain ⟨e1, e2⟩ := holdsQ_two ⟨14, c.Name, 1, 0, 0, v, [], [], []⟩ ⟨14, c.Name, 2, 0, 0, v, [], [], []⟩ rfl rfl cols row
  have z : cmpV u v = 0 ↔ u = v := ⟨cmpV_zero u v, fun h => by rw [h]; exact cmpV_cmp.refl v⟩
  have hd : (cmpV u v == 0) = decide (u = v) := by rw [← decide_eq_decide.2 z]; rfl
  unfold eqQ
  rw [e1, e2]
  simp only [hcell]
  unfold holdsS
  refine ⟨?_, ?_⟩
  · rw [if_neg (by simp [hk])]; exact hd
  · rw [if_neg (by simp [hk])]
    show (cmpV u v != 0) = !decide (u = v)
    rw [← hd]; rfl
theorem equals_l5 {t a b : api_Table} {x : Int} {k : Nat} {v : api_Value} (hx : x.tmod (t.Cols.length : Int) = (k : Int)) (hn : b.Rows.length < 4611686018427387904) (hb : ∀ r ∈ b.Rows, ∃ u, r[k]? = some u ∧ u ≠ v) (ha : 0 < a.Rows.length) (hl : a.Rows.length + b.Rows.length = t.Rows.length) (ht : t.Rows.length < 4611686018427387904) : ∀ (fuel i : Nat), i ≤ b.Rows.length → b.Rows.length < i + fuel →
    law15_PredEquals.l5 true t x v a b fuel (i : Int) = some true
  | 0, i, _, h => by omega
  | fuel + 1, i, h1, h2 => by
    rw [law15_PredEquals.l5]
    by_cases hi : i < b.Rows.length
    · obtain ⟨r, hr, _⟩ := getE hi
      obtain ⟨u, hu, hne⟩ := hb r (List.mem_of_getElem? hr)
      rw [if_pos (dlt hi), ix_of hr, Option.bind_some, hx, ix_of hu, Option.bind_some, if_neg (by simpa using hne), w64_nat i (by omega)]
      exact equals_l5 hx hn hb ha hl ht fuel (i + 1) (by omega) (by omega)
    · rw [if_neg (dnl (by omega)), if_pos rfl, if_pos (by simp; omega), w64 (by omega) (by omega)]
      congr 1
      simp; omega
theorem equals_l4 {t a b : api_Table} {x : Int} {k : Nat} {v : api_Value} (hx : x.tmod (t.Cols.length : Int) = (k : Int)) (hb : ∀ r ∈ b.Rows, ∃ u, r[k]? = some u ∧ u ≠ v) (hav : ∀ r ∈ a.Rows, r[k]? = some v) (ha : 0 < a.Rows.length) (hl : a.Rows.length + b.Rows.length = t.Rows.length) (ht : t.Rows.length < 4611686018427387904) : ∀ (fuel i : Nat), i ≤ a.Rows.length → a.Rows.length < i + fuel →
    law15_PredEquals.l4 true t x v a b fuel (i : Int) = some true
  | 0, i, _, h => by omega
  | fuel + 1, i, h1, h2 => by
    rw [law15_PredEquals.l4]
    by_cases hi : i < a.Rows.length
    · obtain ⟨r, hr, _⟩ := getE hi
      rw [if_pos (dlt hi), ix_of hr, Option.bind_some, hx, ix_of (hav r (List.mem_of_getElem? hr)), Option.bind_some, if_neg (by simp), w64_nat i (by omega)]
      exact equals_l4 hx hb hav ha hl ht fuel (i + 1) (by omega) (by omega)
    · rw [if_neg (dnl (by omega)), fuel_nat]
      exact equals_l5 hx (by omega) hb ha hl ht _ 0 (Nat.zero_le _) (by omega)
theorem filter_not_len {α : Type} (p : α → Bool) (xs : List α) : (xs.filter p).length + (xs.filter fun x => !p x).length = xs.length := by
  induction xs with
  | nil => rfl
  | cons x r ih =>
    simp only [List.filter_cons]
    cases p x <;> simp <;> omega
theorem equals_j2 {t : api_Table} (ht : szT t) (hz : checkS t = 0) (hr : t.Rows ≠ []) (hl : t.Rows.length ≤ 100) {x y : Int} (hx : 0 ≤ x) (hy : 0 ≤ y) : law15_PredEquals.j2 true t x y = some true := by
  obtain ⟨hc, hrow⟩ := checkS_zero.1 hz
  have hcl := cols_len hc
  have hrl : 0 < t.Rows.length := by cases h : t.Rows with | nil => exact absurd h hr | cons a r => simp
  obtain ⟨k, hk, ek⟩ := tmod_nat (n := t.Cols.length) hx (by omega)
  obtain ⟨m, hm, em⟩ := tmod_nat (n := t.Rows.length) hy hrl
  obtain ⟨r, hr1, _⟩ := getE hm
  have hrm := List.mem_of_getElem? hr1
  obtain ⟨c, hc1, _⟩ := getE hk
  have hlen := rowOk_len (hrow r hrm)
  obtain ⟨v, hv, _⟩ := getE (l := r) (i := k) (by omega)
  unfold law15_PredEquals.j2
  rw [if_pos (by simp only [bne_iff_ne, ne_eq]; omega), if_pos (by simp only [bne_iff_ne, ne_eq]; omega), em, ek, ix_of hr1, Option.bind_some, ix_of hv, Option.bind_some, ix_of hc1, Option.bind_some, Option.bind_some]
  have hvk := rowOk_kind (hrow r hrm) hv hc1
  have rows : ∀ q ∈ t.Rows, ∃ u, q[k]? = some u ∧ holdsQ (eqQ c.Name v) 0 t.Cols q = decide (u = v) ∧ holdsQ (eqQ c.Name v) 1 t.Cols q = !decide (u = v) := fun q hq => by
    have := rowOk_len (hrow q hq)
    obtain ⟨u, hu, _⟩ := getE (l := q) (i := k) (by omega)
    exact ⟨u, hu, eqQ_row hc hc1 hu ((rowOk_kind (hrow q hq) hu hc1).trans hvk.symm)⟩
  have hV : v.S.size ≤ 64 := small_of_ok (hrow r hrm) v (List.mem_of_getElem? hv)
  have hsn : smallN (eqQ c.Name v).N := fun n hn => by
    simp only [eqQ, List.mem_cons, List.not_mem_nil, or_false] at hn
    rcases hn with rfl | rfl <;> (refine ⟨by show 0 < _; omega, ?_⟩; show v.S.size ≤ _; omega)
  have hq2 : (eqQ c.Name v).N.length ≤ 1000000 := by show 2 ≤ _; omega
  have w0 := pwhere_eq (i := 0) ht (small_check ht hz) hsn hq2
  have w1 := pwhere_eq (i := 1) ht (small_check ht hz) hsn hq2
  unfold law15_PredEquals.j3
  unfold eqQ at w0 w1
  rw [w0, Option.bind_some, w1, Option.bind_some, fuel_nat]
  refine equals_l4 (k := k) ek (fun q hq => ?_) (fun q hq => ?_) ?_ ?_ (by omega) _ 0 (Nat.zero_le _) (by omega)
  · obtain ⟨h1, h2⟩ := List.mem_filter.1 hq
    obtain ⟨u, hu, _, e1⟩ := rows q h1
    unfold eqQ at e1
    rw [e1] at h2
    exact ⟨u, hu, by simpa using h2⟩
  · obtain ⟨h1, h2⟩ := List.mem_filter.1 hq
    obtain ⟨u, hu, e0, _⟩ := rows q h1
    unfold eqQ at e0
    rw [e0] at h2
    rw [hu]; congr 1; simpa using h2
  · refine List.length_pos_of_mem (a := r) (List.mem_filter.2 ⟨hrm, ?_⟩)
    obtain ⟨u, hu, e0, _⟩ := rows r hrm
    unfold eqQ at e0
    rw [hu] at hv
    rw [e0]; simpa using hv
  · show (t.Rows.filter _).length + (t.Rows.filter _).length = t.Rows.length
    rw [← filter_not_len (holdsQ (eqQ c.Name v) 0 t.Cols) t.Rows]
    congr 2
    refine List.filter_congr fun q hq => ?_
    obtain ⟨u, hu, e0, e1⟩ := rows q hq
    unfold eqQ at e0 e1 ⊢
    rw [e0, e1]
theorem PredEquals_pure (t : api_Table) (ot : ok_api_Table t) (col : Int) (oc : (Lit.int .i64 col).wf = true) (row : Int) (or_ : (Lit.int .i64 row).wf = true) : law15_PredEquals t col row = some true := by
  have h := (szT_of ot).cut
  have hl := cut_len t
  have r0 := (i64_range oc).1
  have r1 := (i64_range or_).1
  unfold law15_PredEquals
  rw [shown_ok, Option.bind_some, cut_eq', Option.bind_some, rcheck_eq h.cols h.rows, Option.bind_some]
  by_cases hz : checkS (cutS t) = 0
  · rw [if_neg (by simpa using hz)]
    unfold law15_PredEquals.j0 law15_PredEquals.j1
    by_cases he : (cutS t).Rows = []
    · rw [if_pos (by simp [he])]
    · have hrl : 0 < (cutS t).Rows.length := by cases h : (cutS t).Rows with | nil => exact absurd h he | cons a r => simp
      rw [if_neg (by simp; omega)]
      have key : ∀ x y : Int, 0 ≤ x → 0 ≤ y → law15_PredEquals.j2 true (cutS t) x y = some true := fun x y hx hy => equals_j2 h hz he hl hx hy
      by_cases c0 : col < 0
      · rw [if_pos (by simpa using c0)]
        by_cases c1 : row < 0
        · rw [if_pos (by simpa using c1)]; exact key _ _ (folded r0 c0) (folded r1 c1)
        · rw [if_neg (by simpa using c1)]; exact key _ _ (folded r0 c0) (by omega)
      · rw [if_neg (by simpa using c0)]
        by_cases c1 : row < 0
        · rw [if_pos (by simpa using c1)]; exact key _ _ (by omega) (folded r1 c1)
        · rw [if_neg (by simpa using c1)]; exact key _ _ (by omega) (by omega)
  · rw [if_pos (by simpa using hz)]
    unfold law15_PredEquals.j0
    rw [if_pos rfl]
end Go.Proofs.Ytjklfkiaebipnaa.M
