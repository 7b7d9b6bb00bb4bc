/- Joins: the laws of sides and of parts. -/
import Derived.Test.YtabdokppkcgdlaaPure
import Derived.Test.YtabdokppkcgdlaaPL17c
namespace Go.Proofs.Ytabdokppkcgdlaa.M
open Go Go.Eng Go.Proofs Go.RowKit
set_option maxRecDepth 100000
set_option linter.unusedVariables false
set_option linter.unusedSimpArgs false

def cutJ (t : api_Table) : api_Table := ⟨t.Cols, t.Rows.take 40⟩
theorem cutJ_eq (t : api_Table) : law17_cut t 40 = some (cutJ t) := by
  unfold law17_cut cutJ
  by_cases h : t.Rows.length > 40
  · rw [if_pos (by simp; omega), cut_of (by omega) (by omega) (by omega), Option.bind_some]
    simp
  · rw [if_neg (by simp; omega), List.take_of_length_le (by omega)]
/-- What may be joined. -/
structure OkT (t : api_Table) : Prop where
  sz : szT t
  wf : wfT t
  len : t.Rows.length ≤ 40
theorem OkT.sub {t u : api_Table} (h : OkT t) (hc : u.Cols = t.Cols) (hl : u.Rows.length ≤ t.Rows.length) (hr : ∀ r ∈ u.Rows, r ∈ t.Rows) : OkT u :=
  ⟨h.sz.sub hc hl hr, fun r hrr => h.wf r (hr r hrr), by have := h.len; omega⟩
theorem okT_of {t : api_Table} (h : ok_api_Table t) : OkT (cutJ t) :=
  ⟨(szT_of h).sub rfl (by simp [cutJ]; omega) (fun r hr => List.mem_of_mem_take hr), fun r hr v hv => by
    have hr' := List.mem_of_mem_take hr
    obtain ⟨_, h2, h3⟩ := h
    have := (h3 r hr').2 v hv
    exact ⟨i64_range this.2.1, fun x hx => i64_range (this.2.2.2 x hx)⟩, by simp [cutJ]; omega⟩
theorem valid_small {v : api_Value} (h : validS v = true) : v.S.size ≤ 64 := by
  unfold validS at h
  have e0 : (⟨#[]⟩ : ByteArray).size = 0 := rfl
  split at h
  · simp only [decide_eq_true_eq] at h; rw [h.1, e0]; omega
  · split at h
    · simp only [decide_eq_true_eq] at h; exact h.2.2
    · split at h
      · simp only [decide_eq_true_eq] at h; rw [h.2.1, e0]; omega
      · split at h
        · simp only [decide_eq_true_eq] at h; rw [h.2, e0]; omega
        · cases h
theorem szT_small {t : api_Table} (h : checkS t = 0) (hl : t.Rows.length ≤ 100000) : szT t := by
  obtain ⟨h1, h2⟩ := checkS_zero.1 h
  have hc := colsS_col h1
  refine ⟨by omega, fun c hcc => by have := (hc.2 c hcc).1; omega, by omega, fun r hr => ?_, fun r hr v hv => ?_⟩
  · have := rowOk_len (h2 r hr); omega
  · have := valid_small (rowOk_valid (h2 r hr) v hv); omega
theorem jeq {a b : api_Table} (ha : OkT a) (hb : OkT b) (most : Int) : join_Join a b most = some (joinS a b most) := join_eq ha.sz hb.sz ha.wf hb.wf ha.len hb.len most

theorem rowsJ_len (A B : List api_Col) (ra rb : List (List api_Value)) : (rowsJ A B ra rb).length ≤ ra.length * rb.length := by
  unfold rowsJ
  induction ra with
  | nil => simp
  | cons r ra ih =>
    have := List.length_filter_le (matchJ A B r) rb
    simp only [List.flatMap_cons, List.length_append, List.length_map, List.length_cons, Nat.succ_mul]
    omega
theorem rowsJ_app (A B : List api_Col) (ra ra' rb : List (List api_Value)) : rowsJ A B (ra ++ ra') rb = rowsJ A B ra rb ++ rowsJ A B ra' rb := by unfold rowsJ; rw [List.flatMap_append]
theorem rowsJ_mem {A B : List api_Col} {ra rb : List (List api_Value)} {t : List api_Value} : t ∈ rowsJ A B ra rb ↔ ∃ r ∈ ra, ∃ s ∈ rb, matchJ A B r s = true ∧ t = r ++ restB A B s := by
  unfold rowsJ
  rw [List.mem_flatMap]
  constructor
  · rintro ⟨r, hr, h⟩
    obtain ⟨s, hs, rfl⟩ := List.mem_map.1 h
    rw [List.mem_filter] at hs
    exact ⟨r, hr, s, hs.1, hs.2, rfl⟩
  · rintro ⟨r, hr, s, hs, hm, rfl⟩
    exact ⟨r, hr, List.mem_map.2 ⟨s, List.mem_filter.2 ⟨hs, hm⟩, rfl⟩⟩
/-- A join that is no mistake. -/
structure Good (a b : api_Table) : Prop where
  ca : checkS a = 0
  cb : checkS b = 0
  cj : (colsJ a.Cols b.Cols).2 ≠ false
theorem Good.fit {a b : api_Table} (h : Good a b) : Fit a.Cols b.Cols := ⟨(checkS_zero.1 h.ca).1, (checkS_zero.1 h.cb).1, (colsJ_true h.cj).1⟩
theorem Good.ra {a b : api_Table} (h : Good a b) : ∀ r ∈ a.Rows, rowOk r a.Cols = true := (checkS_zero.1 h.ca).2
theorem Good.rb {a b : api_Table} (h : Good a b) : ∀ r ∈ b.Rows, rowOk r b.Cols = true := (checkS_zero.1 h.cb).2
theorem Good.xl {a b : api_Table} (h : Good a b) : (a.Cols ++ newC a.Cols b.Cols).length ≤ 16 := (colsJ_true h.cj).2.2.1
def tabJ (a b : api_Table) : api_Table := ⟨a.Cols ++ newC a.Cols b.Cols, rowsJ a.Cols b.Cols a.Rows b.Rows⟩
theorem Good.check {a b : api_Table} (h : Good a b) : checkS (tabJ a b) = 0 := by
  refine checkS_zero.2 ⟨X_cols h.fit h.xl, fun t ht => ?_⟩
  obtain ⟨r, hr, s, hs, _, rfl⟩ := rowsJ_mem.1 ht
  exact X_row h.fit (h.ra r hr) (h.rb s hs)
theorem Good.join {a b : api_Table} (h : Good a b) (la : a.Rows.length ≤ 40) (lb : b.Rows.length ≤ 40) : joinS a b 1600 = (canonS (tabJ a b), 0) := by
  have h1 := rowsJ_len a.Cols b.Cols a.Rows b.Rows
  have h2 : a.Rows.length * b.Rows.length ≤ 1600 := Nat.mul_le_mul la lb
  unfold joinS
  rw [if_neg (by simpa using h.ca), if_neg (by simpa using h.cb), if_neg h.cj, (colsJ_true h.cj).2.1]
  unfold jres
  rw [if_neg (by omega)]
  rfl
theorem Good.len {a b : api_Table} (h : Good a b) (la : a.Rows.length ≤ 40) (lb : b.Rows.length ≤ 40) : (tabJ a b).Rows.length ≤ 1600 := by
  have h1 := rowsJ_len a.Cols b.Cols a.Rows b.Rows
  have h2 : a.Rows.length * b.Rows.length ≤ 1600 := Nat.mul_le_mul la lb
  exact Nat.le_trans h1 h2
theorem join_zero {a b : api_Table} {most : Int} (h : (joinS a b most).2 = 0) : Good a b := by
  unfold joinS at h
  by_cases h1 : checkS a = 0
  · rw [if_neg (by simpa using h1)] at h
    by_cases h2 : checkS b = 0
    · rw [if_neg (by simpa using h2)] at h
      by_cases h3 : (colsJ a.Cols b.Cols).2 = false
      · rw [if_pos h3] at h; simp at h
      · exact ⟨h1, h2, h3⟩
    · rw [if_pos (by simpa using h2)] at h; exact absurd h h2
  · rw [if_pos (by simpa using h1)] at h; exact absurd h h1

/-! ### the document's examples -/
def nK : ByteArray := ⟨#[107]⟩
def nN : ByteArray := ⟨#[110]⟩
def nM : ByteArray := ⟨#[109]⟩
def nX : ByteArray := ⟨#[120]⟩
def nY : ByteArray := ⟨#[121]⟩
def iv (n : Int) : api_Value := ⟨1, n, ⟨#[]⟩, ⟨0, 0, 0, 0, 0, 0, 0, 0⟩⟩
def tA : api_Table := ⟨[⟨nK, 1⟩, ⟨nN, 1⟩], [[iv 1, iv 5], [iv 2, iv 6]]⟩
def tB : api_Table := ⟨[⟨nK, 1⟩, ⟨nM, 1⟩], [[iv 1, iv 7], [iv 1, iv 8], [iv 3, iv 9]]⟩
def tC : api_Table := ⟨[⟨nX, 1⟩, ⟨nN, 1⟩], []⟩
def tD : api_Table := ⟨[⟨nY, 1⟩, ⟨nM, 1⟩], []⟩
theorem wf_iv {n : Int} (h0 : 0 ≤ n) (h1 : n ≤ 9) : wfV (iv n) := ⟨⟨by show _ ≤ n; omega, by show n ≤ _; omega⟩, fun x hx => by
  have : x = 0 := by simpa [iv, Arr8.list] using hx
  subst this
  exact ⟨by omega, by omega⟩⟩
theorem okT_ex {t : api_Table} (hc : checkS t = 0) (hl : t.Rows.length ≤ 40) (hw : ∀ r ∈ t.Rows, ∀ v ∈ r, ∃ n, v = iv n ∧ 0 ≤ n ∧ n ≤ 9) : OkT t :=
  ⟨szT_small hc (by omega), fun r hr v hv => by obtain ⟨n, rfl, h0, h1⟩ := hw r hr v hv; exact wf_iv h0 h1, hl⟩
theorem shown_eq : law17_shown = some true := by
  have oA : OkT tA := okT_ex (by decide +kernel) (by decide) (fun r hr v hv => by
    simp only [tA, List.mem_cons, List.not_mem_nil, or_false] at hr
    rcases hr with rfl | rfl <;> (simp only [List.mem_cons, List.not_mem_nil, or_false] at hv; rcases hv with rfl | rfl <;> exact ⟨_, rfl, by omega, by omega⟩))
  have oB : OkT tB := okT_ex (by decide +kernel) (by decide) (fun r hr v hv => by
    simp only [tB, List.mem_cons, List.not_mem_nil, or_false] at hr
    rcases hr with rfl | rfl | rfl <;> (simp only [List.mem_cons, List.not_mem_nil, or_false] at hv; rcases hv with rfl | rfl <;> exact ⟨_, rfl, by omega, by omega⟩))
  have oC : OkT tC := okT_ex (by decide +kernel) (by decide) (fun r hr => by cases hr)
  have oD : OkT tD := okT_ex (by decide +kernel) (by decide) (fun r hr => by cases hr)
  have all : rowsJ tA.Cols tB.Cols tA.Rows tB.Rows = [[iv 1, iv 5, iv 7], [iv 1, iv 5, iv 8]] := by decide +kernel
  have cj : colsJ tA.Cols tB.Cols = ([⟨nK, 1⟩, ⟨nN, 1⟩, ⟨nM, 1⟩], true) := by decide +kernel
  have cA : checkS tA = 0 := by decide +kernel
  have cB : checkS tB = 0 := by decide +kernel
  have srt : sortC cmpR [[iv 1, iv 5, iv 7], [iv 1, iv 5, iv 8]] = [[iv 1, iv 5, iv 7], [iv 1, iv 5, iv 8]] := sortC_self cmpR_cmp cmpR_zero (by
    unfold Asc
    refine List.Pairwise.cons (fun y hy => ?_) (List.Pairwise.cons (fun y hy => by cases hy) List.Pairwise.nil)
    simp only [List.mem_singleton] at hy
    subst hy
    decide +kernel)
  have j1 : joinS tA tB 9 = (⟨[⟨nK, 1⟩, ⟨nN, 1⟩, ⟨nM, 1⟩], [[iv 1, iv 5, iv 7], [iv 1, iv 5, iv 8]]⟩, 0) := by
    unfold joinS
    rw [if_neg (by simpa using cA), if_neg (by simpa using cB), cj, all, if_neg (by simp)]
    unfold jres canonS
    rw [if_neg (by decide), srt]
  have j2 : joinS tA tB 1 = (none2, 210) := by
    unfold joinS
    rw [if_neg (by simpa using cA), if_neg (by simpa using cB), cj, all, if_neg (by simp)]
    unfold jres
    rw [if_pos (by decide)]
  have j3 : joinS tC tD 9 = (none2, 20) := by
    unfold joinS
    rw [if_neg (by decide +kernel), if_neg (by decide +kernel), if_pos (by decide +kernel)]
  have e1 : law17_of (⟨#[107]⟩ : ByteArray) (⟨#[110]⟩ : ByteArray) [1, 5, 2, 6] = some tA := by decide +kernel
  have e2 : law17_of (⟨#[107]⟩ : ByteArray) (⟨#[109]⟩ : ByteArray) [1, 7, 1, 8, 3, 9] = some tB := by decide +kernel
  have e3 : law17_of (⟨#[120]⟩ : ByteArray) (⟨#[110]⟩ : ByteArray) [] = some tC := by decide +kernel
  have e4 : law17_of (⟨#[121]⟩ : ByteArray) (⟨#[109]⟩ : ByteArray) [] = some tD := by decide +kernel
  unfold law17_shown
  rw [e1, Option.bind_some, e2, Option.bind_some, jeq oA oB, j1, Option.bind_some, jeq oA oB, j2, Option.bind_some, e3, Option.bind_some, e4, Option.bind_some, jeq oC oD, j3, Option.bind_some]
  rfl

/-! ### sides -/
theorem perm_mix {α γ : Type} (q : α → Bool) (f : α → γ) (g : α → List γ) : ∀ ys : List α, (ys.flatMap fun y => (if q y = true then [f y] else []) ++ g y).Perm ((ys.filter q).map f ++ ys.flatMap g)
  | [] => List.Perm.refl _
  | y :: ys => by
    have ih := perm_mix q f g ys
    simp only [List.flatMap_cons, List.filter_cons]
    by_cases h : q y = true
    · rw [if_pos h, if_pos h]
      simp only [List.cons_append, List.nil_append, List.map_cons]
      refine List.Perm.cons _ ?_
      refine (ih.append_left (g y)).trans ?_
      rw [← List.append_assoc, ← List.append_assoc]
      exact List.perm_append_comm.append_right _
    · rw [if_neg h, if_neg h]
      simp only [List.nil_append]
      refine (ih.append_left (g y)).trans ?_
      rw [← List.append_assoc, ← List.append_assoc]
      exact List.perm_append_comm.append_right _
theorem swap_perm {α β γ : Type} (p : α → β → Bool) (f : α → β → γ) (ys : List β) : ∀ xs : List α, (xs.flatMap fun x => (ys.filter (p x)).map (f x)).Perm (ys.flatMap fun y => (xs.filter (fun x => p x y)).map (fun x => f x y))
  | [] => by simp
  | x :: xs => by
    have ih := swap_perm p f ys xs
    have e : (ys.flatMap fun y => ((x :: xs).filter (fun x => p x y)).map (fun x => f x y)) = ys.flatMap fun y => (if p x y = true then [f x y] else []) ++ (xs.filter (fun x => p x y)).map (fun x => f x y) := by
      congr 1
      funext y
      rw [List.filter_cons]
      split <;> simp
    rw [e, List.flatMap_cons]
    exact ((ih.append_left _)).trans (perm_mix (p x) (f x) _ ys).symm
theorem fmap_congr {α β : Type} {f g : α → List β} : ∀ {l : List α}, (∀ x ∈ l, f x = g x) → l.flatMap f = l.flatMap g
  | [], _ => rfl
  | x :: l, h => by rw [List.flatMap_cons, List.flatMap_cons, h x (List.mem_cons_self ..), fmap_congr fun y hy => h y (List.mem_cons_of_mem _ hy)]
theorem places_ok {cols : List api_Col} : ∀ {ns : List ByteArray} {acc : List Int}, ns.Nodup → (∀ n ∈ ns, 0 ≤ findS cols n) → (∀ n ∈ ns, findS cols n ∉ acc) → placesS cols acc ns = some (acc ++ ns.map (findS cols))
  | [], acc, _, _, _ => by simp [placesS]
  | n :: ns, acc, h1, h2, h3 => by
    rw [List.nodup_cons] at h1
    have h0 := h2 n (List.mem_cons_self ..)
    rw [placesS, if_neg (by
      rintro (h | h)
      · omega
      · exact h3 n (List.mem_cons_self ..) h), places_ok h1.2 (fun m hm => h2 m (List.mem_cons_of_mem _ hm)) (fun m hm hin => ?_)]
    · simp
    · rcases List.mem_append.1 hin with hin | hin
      · exact h3 m (List.mem_cons_of_mem _ hm) hin
      · simp only [List.mem_singleton] at hin
        obtain ⟨i, c, i1, i2, i3⟩ := findS_get h0
        obtain ⟨j, d, j1, j2, j3⟩ := findS_get (h2 m (List.mem_cons_of_mem _ hm))
        rw [i1, j1] at hin
        have : j = i := by omega
        subst this
        rw [i2] at j2
        cases j2
        exact h1.1 (by rw [← i3, j3]; exact hm)
theorem names_X {A B : List api_Col} {n : ByteArray} : n ∈ names (A ++ newC A B) ↔ n ∈ names A ∨ n ∈ names B := by
  unfold names
  rw [List.map_append, List.mem_append]
  constructor
  · rintro (h | h)
    · exact Or.inl h
    · obtain ⟨c, hc, rfl⟩ := List.mem_map.1 h
      exact Or.inr (List.mem_map_of_mem (newC_mem.1 hc).1)
  · rintro (h | h)
    · exact Or.inl h
    · by_cases hA : 0 ≤ findS A n
      · exact Or.inl (find_mem.1 hA)
      · obtain ⟨c, hc, rfl⟩ := List.mem_map.1 h
        exact Or.inr (List.mem_map_of_mem (newC_mem.2 ⟨hc, by omega⟩))
theorem mem_get {α : Type} {l : List α} {x : α} (h : x ∈ l) : ∃ i : Nat, l[i]? = some x := by
  obtain ⟨i, hi, e⟩ := List.getElem_of_mem h
  exact ⟨i, by rw [List.getElem?_eq_getElem hi, e]⟩
theorem find_self {cols : List api_Col} (h : colsS cols = true) {c : api_Col} (hc : c ∈ cols) : cols[(findS cols c.Name).toNat]? = some c := by
  obtain ⟨i, hi⟩ := mem_get hc
  rw [cols_find h hi]; exact hi
/-- The columns of the join of the other sides, by these names. -/
theorem keep_cols {A B : List api_Col} (h : Fit A B) (hl : (B ++ newC B A).length ≤ 16) : (names (A ++ newC A B)).filterMap (fun n => (B ++ newC B A)[(findS (B ++ newC B A) n).toNat]?) = A ++ newC A B := by
  have hY := X_cols h.swap hl
  refine fm_eq (by unfold names; rw [List.length_map]) fun i n hn => ?_
  unfold names at hn
  rw [List.getElem?_map] at hn
  cases hcol : (A ++ newC A B)[i]? with
  | none => rw [hcol] at hn; cases hn
  | some c =>
    rw [hcol] at hn
    simp only [Option.map_some, Option.some.injEq] at hn
    subst hn
    have hc := List.mem_of_getElem? hcol
    have key : ∃ d ∈ B ++ newC B A, d = c := by
      rcases List.mem_append.1 hc with hc | hc
      · by_cases hB : 0 ≤ findS B c.Name
        · obtain ⟨i1, j1, c1, d1, h1, h2, h3, h4, h5, h6, h7, _⟩ := h.both (findS_mem hc) hB
          have hcc := find_self h.a hc
          rw [h1, Int.toNat_natCast, h3] at hcc
          cases hcc
          exact ⟨d1, List.mem_append_left _ (List.mem_of_getElem? h4), (col_ext (by rw [h6]) h7.symm)⟩
        · exact ⟨c, List.mem_append_right _ (newC_mem.2 ⟨hc, by omega⟩), rfl⟩
      · exact ⟨c, List.mem_append_left _ (newC_mem.1 hc).1, rfl⟩
    obtain ⟨d, hd, rfl⟩ := key
    exact find_self hY hd
theorem fm_congr {α β : Type} {f g : α → Option β} : ∀ {l : List α}, (∀ x ∈ l, f x = g x) → l.filterMap f = l.filterMap g
  | [], _ => rfl
  | x :: l, h => by rw [List.filterMap_cons, List.filterMap_cons, h x (List.mem_cons_self ..), fm_congr fun y hy => h y (List.mem_cons_of_mem _ hy)]
theorem keep_row {A B : List api_Col} (h : Fit A B) (hl : (A ++ newC A B).length ≤ 16) {r s : List api_Value} (hr : rowOk r A = true) (hs : rowOk s B = true) (hm : matchJ A B r s = true) :
    pickS ((names (A ++ newC A B)).map (findS (B ++ newC B A))) (s ++ restB B A r) = r ++ restB A B s := by
  rw [pickS_map]
  have hX := X_cols h hl
  have e := row_names (colsS_iff.1 hX).2.1 (rowOk_len (X_row h hr hs))
  rw [← e]
  refine fm_congr fun n hn => ?_
  have hn' := names_X.1 hn
  rw [← find_mem, ← find_mem] at hn'
  show rowAt (B ++ newC B A) (s ++ restB B A r) n = _
  rw [rowX h hr hs hn', rowX h.swap hs hr hn'.symm]
  by_cases hA : 0 ≤ findS A n
  · rw [if_pos hA]
    by_cases hB : 0 ≤ findS B n
    · rw [if_pos hB]; exact ((match_iff h hr hs).1 hm n hA hB).symm
    · rw [if_neg hB]
  · rw [if_neg hA]
    rcases hn' with h1 | h1
    · exact absurd h1 hA
    · rw [if_pos h1]
theorem keep_tab {a b : api_Table} (h : Good a b) (h' : Good b a) : keepS (canonS (tabJ b a)) (names (a.Cols ++ newC a.Cols b.Cols)) = (canonS (tabJ a b), 0) := by
  have f := h.fit
  have hX := X_cols f h.xl
  have hne : names (a.Cols ++ newC a.Cols b.Cols) ≠ [] := fun e => by
    have := (colsS_iff.1 hX).2.2.1
    have h2 := congrArg List.length e
    unfold names at h2
    rw [List.length_map] at h2
    simp only [List.length_nil] at h2
    omega
  have hp := places_ok (cols := b.Cols ++ newC b.Cols a.Cols) (acc := []) (colsS_iff.1 hX).2.1 (fun n hn => find_mem.2 (names_X.2 (names_X.1 hn).symm)) (fun n _ h => by cases h)
  rw [List.nil_append] at hp
  unfold keepS
  rw [if_neg (by rw [checkS_canon]; simpa using h'.check)]
  rw [show placesS (canonS (tabJ b a)).Cols [] (names (a.Cols ++ newC a.Cols b.Cols)) = _ from hp]
  simp only
  rw [if_neg hne, pickS_map, show (names (a.Cols ++ newC a.Cols b.Cols)).filterMap (fun c => (canonS (tabJ b a)).Cols[(findS (b.Cols ++ newC b.Cols a.Cols) c).toNat]?) = _ from keep_cols f h'.xl]
  congr 1
  refine canonS_perm rfl ?_
  show ((sortC cmpR (rowsJ b.Cols a.Cols b.Rows a.Rows)).map _).Perm (rowsJ a.Cols b.Cols a.Rows b.Rows)
  refine ((sortC_perm _ _).map _).trans ?_
  have e1 : (rowsJ b.Cols a.Cols b.Rows a.Rows).map (pickS ((names (a.Cols ++ newC a.Cols b.Cols)).map (findS (b.Cols ++ newC b.Cols a.Cols)))) = b.Rows.flatMap fun s => (a.Rows.filter (fun r => matchJ a.Cols b.Cols r s)).map (fun r => r ++ restB a.Cols b.Cols s) := by
    unfold rowsJ
    rw [List.map_flatMap]
    refine fmap_congr fun s hs => ?_
    rw [List.map_map]
    have e2 : a.Rows.filter (matchJ b.Cols a.Cols s) = a.Rows.filter (fun r => matchJ a.Cols b.Cols r s) := List.filter_congr fun r hr => match_swap f (h.ra r hr) (h.rb s hs)
    rw [e2]
    refine List.map_congr_left fun r hr => ?_
    rw [List.mem_filter] at hr
    exact keep_row f h.xl (h.ra r hr.1) (h.rb s hs) hr.2
  rw [e1]
  exact (swap_perm (fun r s => matchJ a.Cols b.Cols r s) (fun r s => r ++ restB a.Cols b.Cols s) b.Rows a.Rows).symm
theorem sides_l4 {x y : api_Table × Int} {z : api_Table × Int} (hc : x.1.Cols.length ≤ 40) (hk : ref02_Keep y.1 (names x.1.Cols) = some z) (hs : ref02_Same x.1 z.1 = some true) (hz : z.2 = 0) : ∀ (fuel i : Nat) (acc : List ByteArray), i ≤ x.1.Cols.length → x.1.Cols.length < i + fuel → acc = names (x.1.Cols.take i) →
    law17_JoinSides.l4 true x y fuel acc (i : Int) = some true
  | 0, i, _, _, h, _ => by omega
  | fuel + 1, i, acc, h1, h2, h3 => by
    rw [law17_JoinSides.l4]
    by_cases hi : i < x.1.Cols.length
    · obtain ⟨c, hc', ec⟩ := getE hi
      have hl : acc.length ≤ i := by rw [h3]; unfold names; rw [List.length_map, List.length_take]; omega
      rw [if_pos (dlt hi), ix_of hc', Option.bind_some, apd_of (by simp; omega), Option.bind_some, w64_nat i (by omega)]
      exact sides_l4 hc hk hs hz fuel (i + 1) _ (by omega) (by omega) (by rw [h3, List.take_add_one, hc']; simp [names])
    · rw [List.take_of_length_le (by omega)] at h3
      rw [if_neg (dnl (by omega)), h3, hk, Option.bind_some, hs, Option.bind_some, if_pos rfl, if_pos (by simpa using hz)]
theorem canonS_len (t : api_Table) : (canonS t).Rows.length = t.Rows.length := sortC_len _ _
theorem Good.szc {a b : api_Table} (h : Good a b) (la : a.Rows.length ≤ 40) (lb : b.Rows.length ≤ 40) : szT (canonS (tabJ a b)) :=
  szT_small (by rw [checkS_canon]; exact h.check) (by rw [canonS_len]; have := h.len la lb; omega)
theorem JoinSides_pure (t : api_Table) (ot : ok_api_Table t) (u : api_Table) (ou : ok_api_Table u) : law17_JoinSides t u = some true := by
  have ha := okT_of ot
  have hb := okT_of ou
  unfold law17_JoinSides
  rw [shown_eq, Option.bind_some, cutJ_eq, Option.bind_some, cutJ_eq, Option.bind_some]
  generalize cutJ t = a at ha
  generalize cutJ u = b at hb
  rw [jeq ha hb, Option.bind_some, jeq hb ha, Option.bind_some, rcheck_eq ha.sz.cols ha.sz.rows, Option.bind_some]
  have code : ∀ {p q : api_Table}, (checkS p ≠ 0 ∨ checkS q ≠ 0) → (joinS p q 1600).2 ≠ 0 := fun {p q} h e => by
    have g := join_zero e
    rcases h with h | h
    · exact h g.ca
    · exact h g.cb
  have bad : (checkS a ≠ 0 ∨ checkS b ≠ 0) → law17_JoinSides.j0 true (joinS a b 1600) (joinS b a 1600) true = some true := fun h => by
    unfold law17_JoinSides.j0 law17_JoinSides.j1
    rw [if_pos rfl, if_pos rfl, if_pos (by simpa using code h)]
    simpa using code h.symm
  by_cases hca : checkS a = 0
  · rw [if_neg (by simpa using hca), rcheck_eq hb.sz.cols hb.sz.rows, Option.bind_some]
    by_cases hcb : checkS b = 0
    · have hb0 : (checkS b != 0) = false := by simp [hcb]
      rw [hb0]
      unfold law17_JoinSides.j0
      rw [if_neg (by simp)]
      have ca := (checkS_zero.1 hca).1
      have cb := (checkS_zero.1 hcb).1
      by_cases hj : (colsJ a.Cols b.Cols).2 = false
      · have hj' : (colsJ b.Cols a.Cols).2 = false := by
          cases h : (colsJ b.Cols a.Cols).2 with
          | false => rfl
          | true => exact absurd hj (colsJ_swap cb ca (by rw [h]; simp))
        have e1 : joinS a b 1600 = (none2, 20) := by unfold joinS; rw [if_neg (by simpa using hca), if_neg (by simpa using hcb), if_pos hj]
        have e2 : joinS b a 1600 = (none2, 20) := by unfold joinS; rw [if_neg (by simpa using hcb), if_neg (by simpa using hca), if_pos hj']
        rw [e1, e2, if_pos (by decide)]
        rfl
      · have g : Good a b := ⟨hca, hcb, hj⟩
        have g' : Good b a := ⟨hcb, hca, colsJ_swap ca cb hj⟩
        rw [g.join ha.len hb.len, g'.join hb.len ha.len, if_neg (by simp)]
        unfold law17_JoinSides.j2
        have hxl := g.xl
        have hcl : (canonS (tabJ a b)).Cols.length ≤ 40 := by show (a.Cols ++ newC a.Cols b.Cols).length ≤ 40; omega
        rw [if_neg (by simp), fuel_nat]
        refine sides_l4 (z := (canonS (tabJ a b), 0)) hcl ?_ ?_ rfl _ 0 [] (Nat.zero_le _) (by omega) rfl
        · rw [rkeep_eq (g'.szc hb.len ha.len) (by unfold names; rw [List.length_map]; exact Nat.le_trans hcl (by omega))]
          exact congrArg some (keep_tab g g')
        · rw [rsame_eq (g.szc ha.len hb.len)]
          simp
    · have hb0 : (checkS b != 0) = true := by simpa using hcb
      rw [hb0]
      exact bad (Or.inr hcb)
  · rw [if_pos (by simpa using hca)]
    exact bad (Or.inl hca)

/-! ### parts -/
theorem take_ok {a b : api_Table} (h : Good a b) (rows : List (List api_Value)) (hr : ∀ r ∈ rows, r ∈ a.Rows) : Good ⟨a.Cols, rows⟩ b :=
  ⟨checkS_zero.2 ⟨(checkS_zero.1 h.ca).1, fun r hrr => h.ra r (hr r hrr)⟩, h.cb, h.cj⟩
theorem parts_j0 {a b : api_Table} (ha : OkT a) (hb : OkT b) {x : Int} (hx : 0 ≤ x) : law17_JoinParts.j0 true a b x = some true := by
  have hla := ha.len
  have hw : IntKind.i64.wrap ((a.Rows.length : Int) + 1) = (a.Rows.length : Int) + 1 := w64 (by omega) (by omega)
  unfold law17_JoinParts.j0
  rw [hw, if_pos (by simp; omega), jeq ha hb, Option.bind_some]
  have hk0 : 0 ≤ x.tmod ((a.Rows.length : Int) + 1) := Int.tmod_nonneg _ hx
  have hk1 : x.tmod ((a.Rows.length : Int) + 1) < (a.Rows.length : Int) + 1 := Int.tmod_lt_of_pos _ (by omega)
  have hw2 : IntKind.i64.wrap ((a.Rows.length : Int) + 1) = (a.Rows.length : Int) + 1 := hw
  obtain ⟨k, hk⟩ : ∃ k : Nat, x.tmod ((a.Rows.length : Int) + 1) = (k : Int) := ⟨(x.tmod ((a.Rows.length : Int) + 1)).toNat, by omega⟩
  rw [hk] at hk0 hk1 ⊢
  have hkl : k ≤ a.Rows.length := by omega
  have o1 : OkT ⟨a.Cols, a.Rows.take k⟩ := ha.sub rfl (by simp; omega) (fun r hr => List.mem_of_mem_take hr)
  have o2 : OkT ⟨a.Cols, a.Rows.drop k⟩ := ha.sub rfl (by simp) (fun r hr => List.mem_of_mem_drop hr)
  have c1 : cut a.Rows 0 (k : Int) = some (a.Rows.take k) := by rw [cut_of (by omega) (by omega) (by omega)]; simp
  have c2 : cut a.Rows (k : Int) (a.Rows.length : Int) = some (a.Rows.drop k) := by
    rw [cut_of (by omega) (by omega) (by omega)]
    simp only [Int.toNat_natCast]
    rw [List.take_of_length_le (by simp)]
  rw [c1, Option.bind_some, jeq o1 hb, Option.bind_some]
  unfold law17_JoinParts.j1
  rw [hw, hk, c2, Option.bind_some, jeq o2 hb, Option.bind_some]
  unfold law17_JoinParts.j2
  by_cases he : (joinS a b 1600).2 = 0
  · have g := join_zero he
    have g1 := take_ok g (a.Rows.take k) (fun r hr => List.mem_of_mem_take hr)
    have g2 := take_ok g (a.Rows.drop k) (fun r hr => List.mem_of_mem_drop hr)
    have e := g.join ha.len hb.len
    have e1 := g1.join o1.len hb.len
    have e2 := g2.join o2.len hb.len
    have l1 := g1.len o1.len hb.len
    have l2 := g2.len o2.len hb.len
    have s1 := g1.szc o1.len hb.len
    have s2 := g2.szc o2.len hb.len
    rw [if_neg (by simpa using he), e, e1, e2]
    have hu : unionS (canonS (tabJ ⟨a.Cols, a.Rows.take k⟩ b)) (canonS (tabJ ⟨a.Cols, a.Rows.drop k⟩ b)) = (canonS (tabJ a b), 0) := by
      unfold unionS
      rw [if_neg (by rw [checkS_canon]; simpa using g1.check), if_neg (by rw [checkS_canon]; simpa using g2.check), if_neg (by simp [canonS, tabJ])]
      congr 1
      refine canonS_perm rfl ?_
      show (sortC cmpR (rowsJ a.Cols b.Cols (a.Rows.take k) b.Rows) ++ sortC cmpR (rowsJ a.Cols b.Cols (a.Rows.drop k) b.Rows)).Perm (rowsJ a.Cols b.Cols a.Rows b.Rows)
      have : rowsJ a.Cols b.Cols a.Rows b.Rows = rowsJ a.Cols b.Cols (a.Rows.take k) b.Rows ++ rowsJ a.Cols b.Cols (a.Rows.drop k) b.Rows := by
        rw [← rowsJ_app, List.take_append_drop]
      rw [this]
      exact (sortC_perm _ _).append (sortC_perm _ _)
    have hun : ref02_Union ⟨(canonS (tabJ ⟨a.Cols, a.Rows.take k⟩ b)).Cols, (canonS (tabJ ⟨a.Cols, a.Rows.take k⟩ b)).Rows⟩ ⟨(canonS (tabJ ⟨a.Cols, a.Rows.drop k⟩ b)).Cols, (canonS (tabJ ⟨a.Cols, a.Rows.drop k⟩ b)).Rows⟩ = some (unionS (canonS (tabJ ⟨a.Cols, a.Rows.take k⟩ b)) (canonS (tabJ ⟨a.Cols, a.Rows.drop k⟩ b))) :=
      runion_eq s1 s2 (by rw [canonS_len, canonS_len]; omega)
    simp only
    rw [hun, hu, Option.bind_some, rsame_eq (g.szc ha.len hb.len), Option.bind_some]
    simp
  · rw [if_pos (by simpa using he)]
theorem JoinParts_pure (t : api_Table) (ot : ok_api_Table t) (u : api_Table) (ou : ok_api_Table u) (x : Int) (ox : (Lit.int .i64 x).wf = true) : law17_JoinParts t u x = some true := by
  have ha := okT_of ot
  have hb := okT_of ou
  have hx := i64_range ox
  unfold law17_JoinParts
  rw [shown_eq, Option.bind_some, cutJ_eq, Option.bind_some, cutJ_eq, Option.bind_some]
  by_cases h0 : x < 0
  · rw [if_pos (by simpa using h0)]
    exact parts_j0 ha hb (folded hx.1 h0)
  · rw [if_neg (by simpa using h0)]
    exact parts_j0 ha hb (by omega)
end Go.Proofs.Ytabdokppkcgdlaa.M
