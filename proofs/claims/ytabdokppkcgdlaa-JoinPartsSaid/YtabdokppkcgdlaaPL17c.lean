/- Joins: columns and rows by their names: in plain words. -/
import Derived.Test.YtabdokppkcgdlaaPure
import Derived.Test.YtabdokppkcgdlaaPL17b
import Derived.Test.YtabdokppkcgdlaaPLTr
namespace Go.Proofs.Ytabdokppkcgdlaa.M
open Go Go.Eng Go.Proofs Go.RowKit
set_option maxRecDepth 100000
set_option linter.unusedVariables false
set_option linter.unusedSimpArgs false

theorem allFrom_of {α : Type} {p : Nat → α → Bool} : ∀ {xs : List α} {i : Nat}, (∀ (j : Nat) x, xs[j]? = some x → p (i + j) x = true) → allFrom p i xs = true
  | [], _, _ => rfl
  | x :: r, i, h => by
    simp only [allFrom, Bool.and_eq_true]
    exact ⟨h 0 x rfl, allFrom_of fun j y hy => by have := h (j + 1) y (by simpa using hy); rwa [show i + 1 + j = i + (j + 1) by omega]⟩
theorem allFrom_get {α : Type} {p : Nat → α → Bool} : ∀ {xs : List α} {i : Nat}, allFrom p i xs = true → ∀ (j : Nat) x, xs[j]? = some x → p (i + j) x = true
  | [], _, _, j, x, hx => by simp at hx
  | y :: r, i, h, j, x, hx => by
    simp only [allFrom, Bool.and_eq_true] at h
    cases j with
    | zero => simp at hx; subst hx; exact h.1
    | succ j =>
      have := allFrom_get h.2 j x (by simpa using hx)
      rwa [show i + (j + 1) = i + 1 + j by omega]
theorem cols_find {cols : List api_Col} (h : colsS cols = true) {i : Nat} {c : api_Col} (hc : cols[i]? = some c) : findS cols c.Name = (i : Int) := by
  unfold colsS at h
  rw [Bool.and_eq_true] at h
  have := allFrom_get h.1 i c hc
  unfold colOk at this
  simp only [Bool.and_eq_true, decide_eq_true_eq, Nat.zero_add] at this
  exact this.2
def names (cols : List api_Col) : List ByteArray := cols.map (·.Name)
theorem nodup_find : ∀ {cols : List api_Col} {i : Nat} {c : api_Col}, (names cols).Nodup → cols[i]? = some c → findS cols c.Name = (i : Int)
  | [], _, _, _, h => by simp at h
  | d :: cols, i, c, hn, h => by
    unfold names at hn
    rw [List.map_cons, List.nodup_cons] at hn
    rw [findS_cons]
    cases i with
    | zero =>
      simp only [List.getElem?_cons_zero, Option.some.injEq] at h
      rw [if_pos (by rw [h])]; rfl
    | succ i =>
      have hc : cols[i]? = some c := by simpa using h
      have ih := nodup_find (cols := cols) hn.2 hc
      rw [if_neg (fun e => hn.1 (by rw [e]; exact List.mem_map_of_mem (List.mem_of_getElem? hc))), ih, if_neg (by omega)]
      omega
theorem names_nodup : ∀ {cols : List api_Col}, (∀ (i : Nat) c, cols[i]? = some c → findS cols c.Name = (i : Int)) → (names cols).Nodup := by
  intro cols h
  unfold names
  rw [List.Nodup, List.pairwise_map, List.pairwise_iff_getElem]
  intro i j hi hj hij e
  have h1 := h i _ (List.getElem?_eq_getElem hi)
  have h2 := h j _ (List.getElem?_eq_getElem hj)
  rw [e, h2] at h1
  omega
theorem colsS_iff {cols : List api_Col} : colsS cols = true ↔ (∀ c ∈ cols, nameS c.Name = true ∧ 1 ≤ c.Kind ∧ c.Kind ≤ 4) ∧ (names cols).Nodup ∧ 1 ≤ cols.length ∧ cols.length ≤ 16 := by
  constructor
  · intro h
    refine ⟨fun c hc => ?_, names_nodup fun i c hc => cols_find h hc, ?_⟩
    · unfold colsS at h
      rw [Bool.and_eq_true] at h
      obtain ⟨j, hj⟩ := allFrom_mem h.1 c hc
      unfold colOk at hj
      simp only [Bool.and_eq_true, decide_eq_true_eq] at hj
      exact ⟨hj.1.1, hj.1.2⟩
    · unfold colsS at h
      rw [Bool.and_eq_true] at h
      simpa using h.2
  · rintro ⟨h1, h2, h3⟩
    unfold colsS
    rw [Bool.and_eq_true]
    refine ⟨allFrom_of fun j c hc => ?_, by simpa using h3⟩
    unfold colOk
    simp only [Bool.and_eq_true, decide_eq_true_eq, Nat.zero_add]
    exact ⟨h1 c (List.mem_of_getElem? hc), nodup_find h2 hc⟩
theorem find_mem {cols : List api_Col} {n : ByteArray} : 0 ≤ findS cols n ↔ n ∈ names cols := by
  unfold names
  rw [List.mem_map]
  constructor
  · intro h
    obtain ⟨i, c, _, h2, h3⟩ := findS_get h
    exact ⟨c, List.mem_of_getElem? h2, h3⟩
  · rintro ⟨c, hc, rfl⟩
    exact findS_mem hc
theorem fm_get {α β : Type} {f : α → Option β} : ∀ {l : List α}, (∀ c ∈ l, ∃ v, f c = some v) → (l.filterMap f).length = l.length ∧ ∀ (i : Nat) c, l[i]? = some c → (l.filterMap f)[i]? = f c
  | [], _ => ⟨rfl, fun i c h => by simp at h⟩
  | d :: l, h => by
    obtain ⟨v, hv⟩ := h d (List.mem_cons_self ..)
    obtain ⟨h1, h2⟩ := fm_get (l := l) fun c hc => h c (List.mem_cons_of_mem _ hc)
    rw [List.filterMap_cons, hv]
    refine ⟨by simp [h1], fun i c hc => ?_⟩
    cases i with
    | zero =>
      simp only [List.getElem?_cons_zero, Option.some.injEq] at hc ⊢
      rw [← hc, hv]
    | succ i => simpa using h2 i c (by simpa using hc)
theorem fm_eq {α β : Type} {f : α → Option β} : ∀ {l : List α} {row : List β}, l.length = row.length → (∀ (i : Nat) c, l[i]? = some c → f c = row[i]?) → l.filterMap f = row
  | [], [], _, _ => rfl
  | [], _ :: _, h, _ => by simp at h
  | _ :: _, [], h, _ => by simp at h
  | d :: l, v :: row, h, hf => by
    have h0 := hf 0 d rfl
    rw [List.getElem?_cons_zero] at h0
    rw [List.filterMap_cons, h0]
    simp only
    rw [fm_eq (by simpa using h) fun i c hc => by have := hf (i + 1) c (by simpa using hc); simpa using this]
theorem fm_inj {α β : Type} {f g : α → Option β} : ∀ {l : List α}, (∀ c ∈ l, ∃ v, f c = some v) → (∀ c ∈ l, ∃ v, g c = some v) → (l.filterMap f = l.filterMap g ↔ ∀ c ∈ l, f c = g c)
  | [], _, _ => by simp
  | d :: l, h, k => by
    obtain ⟨v, hv⟩ := h d (List.mem_cons_self ..)
    obtain ⟨w, hw⟩ := k d (List.mem_cons_self ..)
    have ih := fm_inj (l := l) (fun c hc => h c (List.mem_cons_of_mem _ hc)) (fun c hc => k c (List.mem_cons_of_mem _ hc))
    rw [List.filterMap_cons, List.filterMap_cons, hv, hw]
    simp only [List.cons.injEq, ih, List.mem_cons, forall_eq_or_imp, hv, hw, Option.some.injEq]

/-- What a row has by a name. -/
def rowAt (cols : List api_Col) (row : List api_Value) (n : ByteArray) : Option api_Value := row[(findS cols n).toNat]?
theorem rowAt_some {cols : List api_Col} {row : List api_Value} (h : rowOk row cols = true) {n : ByteArray} (hn : 0 ≤ findS cols n) : ∃ v, rowAt cols row n = some v := by
  obtain ⟨i, c, h1, h2, _⟩ := findS_get hn
  obtain ⟨v, hv, _⟩ := row_get h h2
  exact ⟨v, by unfold rowAt; rw [h1]; exact hv⟩
theorem row_names {cols : List api_Col} (hc : (names cols).Nodup) {row : List api_Value} (h : row.length = cols.length) : (names cols).filterMap (rowAt cols row) = row := by
  refine fm_eq (by unfold names; rw [List.length_map]; exact h.symm) fun i n hn => ?_
  unfold names at hn
  rw [List.getElem?_map] at hn
  cases hcol : cols[i]? with
  | none => rw [hcol] at hn; cases hn
  | some c =>
    rw [hcol] at hn
    simp only [Option.map_some, Option.some.injEq] at hn
    unfold rowAt
    rw [← hn, nodup_find hc hcol]
    rfl
theorem findS_app (A C : List api_Col) (n : ByteArray) : findS (A ++ C) n = if 0 ≤ findS A n then findS A n else if 0 ≤ findS C n then A.length + findS C n else -1 := by
  induction A with
  | nil =>
    have e : findS ([] : List api_Col) n = -1 := rfl
    have := (findS_ge C n).1
    rw [List.nil_append, e, if_neg (by omega)]
    split
    · simp
    · omega
  | cons c A ih =>
    have h1 := (findS_ge A n).1
    rw [List.cons_append, findS_cons, findS_cons, ih]
    by_cases hc : c.Name = n
    · rw [if_pos hc, if_pos hc, if_pos (by omega)]
    · rw [if_neg hc, if_neg hc]
      by_cases hA : findS A n = -1
      · rw [hA]
        simp only [if_true, show ¬ (0 : Int) ≤ -1 by omega, if_false]
        by_cases hC : 0 ≤ findS C n
        · rw [if_pos hC, if_neg (by omega)]; simp only [List.length_cons]; omega
        · rw [if_neg hC, if_pos rfl, if_neg hC]
      · have h2 : 0 ≤ findS A n := by omega
        simp only [hA, if_false, h2, if_true]
        rw [if_pos (by omega)]
theorem newC_mem {A B : List api_Col} {c : api_Col} : c ∈ newC A B ↔ c ∈ B ∧ findS A c.Name < 0 := by
  unfold newC; rw [List.mem_filter, decide_eq_true_eq]
theorem names_mem {cols : List api_Col} {n : ByteArray} : n ∈ names cols ↔ ∃ c ∈ cols, c.Name = n := by unfold names; rw [List.mem_map]
theorem newC_nodup {A B : List api_Col} (h : (names B).Nodup) : (names (newC A B)).Nodup := h.sublist ((List.filter_sublist).map _)
theorem otF_eq {A B : List api_Col} : ∀ (l : List api_Col) (i : Nat), (∀ (j : Nat) c, l[j]? = some c → findS B c.Name = ((i + j : Nat) : Int)) → otF A i l = (newC A l).map (fA B)
  | [], _, _ => rfl
  | c :: l, i, h => by
    have ih := otF_eq (A := A) (B := B) l (i + 1) fun j d hd => by have := h (j + 1) d (by simpa using hd); rw [this]; congr 1; omega
    have h0 := h 0 c rfl
    rw [Nat.add_zero] at h0
    unfold newC at *
    simp only [otF, List.filter_cons]
    by_cases hn : findS A c.Name < 0
    · rw [if_pos hn, if_pos (by simpa using hn), ih, List.map_cons]
      unfold fA
      rw [h0]
    · rw [if_neg hn, if_neg (by simpa using hn), ih]
theorem restB_eq {A B : List api_Col} (hB : colsS B = true) (s : List api_Value) : restB A B s = (newC A B).filterMap fun c => rowAt B s c.Name := by
  unfold restB
  rw [otF_eq (A := A) (B := B) B 0 fun j c hc => by rw [Nat.zero_add]; exact cols_find hB hc, pickS_map]
  rfl
theorem rowOk_iff {r : List api_Value} {cs : List api_Col} : rowOk r cs = true ↔ r.length = cs.length ∧ ∀ (i : Nat) v c, r[i]? = some v → cs[i]? = some c → v.Kind = c.Kind ∧ validS v = true := by
  constructor
  · intro h
    exact ⟨rowOk_len h, fun i v c hv hc => ⟨rowOk_kind h hv hc, rowOk_valid h v (List.mem_of_getElem? hv)⟩⟩
  · revert cs
    induction r with
    | nil =>
      rintro cs ⟨h, _⟩
      cases cs with
      | nil => rfl
      | cons => simp at h
    | cons v r ih =>
      rintro cs ⟨h, h2⟩
      cases cs with
      | nil => simp at h
      | cons c cs =>
        have h0 := h2 0 v c rfl rfl
        simp only [rowOk, Bool.and_eq_true, decide_eq_true_eq]
        exact ⟨h0, ih ⟨by simpa using h, fun i w d hw hd => h2 (i + 1) w d (by simpa using hw) (by simpa using hd)⟩⟩
section
variable {A B : List api_Col} {r s : List api_Value}
theorem rest_some (hs : rowOk s B = true) : ∀ c ∈ newC A B, ∃ v, rowAt B s c.Name = some v := fun c hc => rowAt_some hs (findS_mem (newC_mem.1 hc).1)
theorem rest_len (hB : colsS B = true) (hs : rowOk s B = true) : (restB A B s).length = (newC A B).length := by rw [restB_eq hB]; exact (fm_get (rest_some hs)).1
theorem rowOk_rest (hB : colsS B = true) (hs : rowOk s B = true) : rowOk (restB A B s) (newC A B) = true := by
  refine rowOk_iff.2 ⟨rest_len hB hs, fun i v c hv hc => ?_⟩
  rw [restB_eq hB, (fm_get (rest_some hs)).2 i c hc] at hv
  have hcB := (newC_mem.1 (List.mem_of_getElem? hc)).1
  obtain ⟨j, hj, ej⟩ := List.getElem_of_mem hcB
  have hcj : B[j]? = some c := by rw [List.getElem?_eq_getElem hj, ej]
  unfold rowAt at hv
  rw [cols_find hB hcj, Int.toNat_natCast] at hv
  exact ⟨rowOk_kind hs hv hcj, rowOk_valid hs v (List.mem_of_getElem? hv)⟩
theorem rowOk_app : ∀ {a : List api_Value} {c : List api_Col} {b : List api_Value} {d : List api_Col}, rowOk a c = true → rowOk b d = true → rowOk (a ++ b) (c ++ d) = true
  | [], [], _, _, _, h => h
  | [], _ :: _, _, _, h, _ => by simp [rowOk] at h
  | _ :: _, [], _, _, h, _ => by simp [rowOk] at h
  | v :: a, c :: cs, b, d, h, h2 => by
    simp only [rowOk, Bool.and_eq_true, List.cons_append] at *
    exact ⟨h.1, rowOk_app h.2 h2⟩
/-- What a joined row has by a name. -/
theorem rowX (h : Fit A B) (hr : rowOk r A = true) (hs : rowOk s B = true) {n : ByteArray} (hn : 0 ≤ findS A n ∨ 0 ≤ findS B n) : rowAt (A ++ newC A B) (r ++ restB A B s) n = if 0 ≤ findS A n then rowAt A r n else rowAt B s n := by
  unfold rowAt
  rw [findS_app]
  by_cases hA : 0 ≤ findS A n
  · rw [if_pos hA, if_pos hA]
    have h1 := (findS_ge A n).2
    have h2 := rowOk_len hr
    rw [List.getElem?_append_left (by omega)]
  · rw [if_neg hA, if_neg hA]
    have hB : 0 ≤ findS B n := by rcases hn with h | h; exact absurd h hA; exact h
    obtain ⟨j, d, j1, j2, j3⟩ := findS_get hB
    have hd : d ∈ newC A B := newC_mem.2 ⟨List.mem_of_getElem? j2, by rw [j3]; omega⟩
    have hnC : 0 ≤ findS (newC A B) n := find_mem.2 (names_mem.2 ⟨d, hd, j3⟩)
    obtain ⟨k, e, k1, k2, k3⟩ := findS_get hnC
    have hl := rowOk_len hr
    rw [if_pos hnC, k1, show ((A.length : Int) + (k : Int)).toNat = A.length + k by omega, List.getElem?_append_right (by omega), hl, Nat.add_sub_cancel_left, restB_eq h.b, (fm_get (rest_some hs)).2 k e k2, k3]
    rfl
theorem X_cols (h : Fit A B) (hl : (A ++ newC A B).length ≤ 16) : colsS (A ++ newC A B) = true := by
  obtain ⟨a1, a2, a3, a4⟩ := colsS_iff.1 h.a
  obtain ⟨b1, b2, b3, b4⟩ := colsS_iff.1 h.b
  refine colsS_iff.2 ⟨fun c hc => ?_, ?_, by simp; omega, hl⟩
  · rcases List.mem_append.1 hc with hc | hc
    · exact a1 c hc
    · exact b1 c (newC_mem.1 hc).1
  · unfold names
    rw [List.map_append]
    refine List.nodup_append.2 ⟨a2, newC_nodup b2, fun x hx y hy e => ?_⟩
    subst e
    obtain ⟨c, hc, hn⟩ := List.mem_map.1 hy
    have h1 := (newC_mem.1 hc).2
    have h2 : 0 ≤ findS A x := find_mem.2 hx
    rw [hn] at h1
    omega
theorem X_row (h : Fit A B) (hr : rowOk r A = true) (hs : rowOk s B = true) : rowOk (r ++ restB A B s) (A ++ newC A B) = true := rowOk_app hr (rowOk_rest h.b hs)
/-- Two rows go together just where they have the same by each shared name. -/
theorem match_iff (h : Fit A B) (hr : rowOk r A = true) (hs : rowOk s B = true) : matchJ A B r s = true ↔ ∀ n, 0 ≤ findS A n → 0 ≤ findS B n → rowAt A r n = rowAt B s n := by
  unfold matchJ keyA keyB
  rw [decide_eq_true_eq, pickS_map, pickS_map]
  have e := fm_inj (l := SN A B) (f := fun c => r[(fA A c).toNat]?) (g := fun c => s[(fA B c).toNat]?) (fun c hc => rowAt_some hr (SN_both hc).2.1) (fun c hc => rowAt_some hs (SN_both hc).2.2)
  rw [e]
  constructor
  · intro hm n h1 h2
    obtain ⟨i, c, _, h4, h5⟩ := findS_get h1
    have := hm c (by unfold SN; rw [List.mem_filter, h5]; exact ⟨List.mem_of_getElem? h4, by simpa using h2⟩)
    unfold fA at this
    rw [h5] at this
    exact this
  · intro hm c hc
    exact hm c.Name (SN_both hc).2.1 (SN_both hc).2.2
end
theorem col_ext {c d : api_Col} (h1 : c.Name = d.Name) (h2 : c.Kind = d.Kind) : c = d := by cases c; cases d; simp_all
/-- The other way round they fit too. -/
theorem Fit.swap {A B : List api_Col} (h : Fit A B) : Fit B A := by
  refine ⟨h.b, h.a, List.all_eq_true.2 fun c hc => ?_⟩
  unfold okC
  by_cases hB : findS B c.Name < 0
  · simp [hB]
  · obtain ⟨i, j, c1, d1, h1, h2, h3, h4, h5, h6, h7, h8⟩ := h.both (findS_mem hc) (by omega)
    have hc1 : c1 = c := by
      obtain ⟨k, hk, ek⟩ := List.getElem_of_mem hc
      have hck : A[k]? = some c := by rw [List.getElem?_eq_getElem hk, ek]
      have := cols_find h.a hck
      rw [h1] at this
      have : i = k := by omega
      subst this
      rw [h3] at hck
      exact Option.some.inj hck
    subst hc1
    rw [h2, Int.toNat_natCast, h4]
    have h0 : decide ((j : Int) < 0) = false := by simp
    rw [h0]
    simp only [Bool.false_or, decide_eq_true_eq]
    exact ⟨h7.symm, by rw [h7]; exact h8⟩
theorem match_swap {A B : List api_Col} (h : Fit A B) {r s : List api_Value} (hr : rowOk r A = true) (hs : rowOk s B = true) : matchJ B A s r = matchJ A B r s := by
  rw [Bool.eq_iff_iff, match_iff h.swap hs hr, match_iff h hr hs]
  exact ⟨fun g n h1 h2 => (g n h2 h1).symm, fun g n h1 h2 => (g n h2 h1).symm⟩
theorem SN_swap_len {A B : List api_Col} (ha : (names A).Nodup) (hb : (names B).Nodup) : (SN A B).length = (SN B A).length := by
  have hp : (names (SN A B)).Perm (names (SN B A)) := by
    refine (List.perm_ext_iff_of_nodup (ha.sublist ((List.filter_sublist).map _)) (hb.sublist ((List.filter_sublist).map _))).2 fun n => ?_
    have key : ∀ {A B : List api_Col}, n ∈ names (SN A B) ↔ n ∈ names A ∧ n ∈ names B := fun {A B} => by
      rw [names_mem]
      constructor
      · rintro ⟨c, hc, rfl⟩
        obtain ⟨h1, _, h3⟩ := SN_both hc
        exact ⟨names_mem.2 ⟨c, h1, rfl⟩, find_mem.1 h3⟩
      · rintro ⟨h1, h2⟩
        obtain ⟨c, hc, rfl⟩ := names_mem.1 h1
        exact ⟨c, by unfold SN; rw [List.mem_filter]; exact ⟨hc, by simpa using find_mem.2 h2⟩, rfl⟩
    show n ∈ names (SN A B) ↔ n ∈ names (SN B A)
    rw [key, key, And.comm]
  have := hp.length_eq
  unfold names at this
  rwa [List.length_map, List.length_map] at this
theorem newC_len (A B : List api_Col) : (newC A B).length + (SN B A).length = B.length := by
  unfold newC SN
  induction B with
  | nil => rfl
  | cons c B ih =>
    simp only [List.filter_cons]
    by_cases h : findS A c.Name < 0
    · rw [if_pos (by simpa using h), if_neg (by simp; omega)]; simp only [List.length_cons]; omega
    · rw [if_neg (by simpa using h), if_pos (by simp; omega)]; simp only [List.length_cons]; omega
theorem colsJ_swap {A B : List api_Col} (ha : colsS A = true) (hb : colsS B = true) (h : (colsJ A B).2 ≠ false) : (colsJ B A).2 ≠ false := by
  obtain ⟨h1, h2, h3, h4⟩ := colsJ_true h
  have f : Fit A B := ⟨ha, hb, h1⟩
  have l1 := newC_len A B
  have l2 := newC_len B A
  have l3 := SN_swap_len (colsS_iff.1 ha).2.1 (colsS_iff.1 hb).2.1
  rw [List.length_append] at h3 h4
  unfold colsJ endJ
  rw [if_pos f.swap.ok, if_neg (by rw [List.length_append]; omega)]
  simp
end Go.Proofs.Ytabdokppkcgdlaa.M
