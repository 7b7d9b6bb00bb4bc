/- Joins: the rows: what the program answers. -/
import Derived.Test.YtabdokppkcgdlaaPure
import Derived.Test.YtabdokppkcgdlaaPL17a
namespace Go.Proofs.Ytabdokppkcgdlaa.M
open Go Go.Eng Go.Proofs Go.RowKit
set_option maxRecDepth 100000
set_option linter.unusedVariables false
set_option linter.unusedSimpArgs false

/-- The shared columns, as the first side has them. -/
def SN (A B : List api_Col) : List api_Col := A.filter fun c => decide (0 ≤ findS B c.Name)
def fA (A : List api_Col) (c : api_Col) : Int := findS A c.Name
def keyA (A B : List api_Col) (r : List api_Value) : List api_Value := pickS ((SN A B).map (fA A)) r
def keyB (A B : List api_Col) (s : List api_Value) : List api_Value := pickS ((SN A B).map (fA B)) s
def restB (A B : List api_Col) (s : List api_Value) : List api_Value := pickS (otF A 0 B) s
def matchJ (A B : List api_Col) (r s : List api_Value) : Bool := decide (keyA A B r = keyB A B s)
def rowsJ (A B : List api_Col) (ra rb : List (List api_Value)) : List (List api_Value) := ra.flatMap fun r => (rb.filter (matchJ A B r)).map fun s => r ++ restB A B s
def jres (most : Int) (cols : List api_Col) (all : List (List api_Value)) : api_Table × Int := if (all.length : Int) > max most 0 then (none2, 210) else (canonS ⟨cols, all⟩, 0)
def joinS (a b : api_Table) (most : Int) : api_Table × Int :=
  if checkS a ≠ 0 then (none2, checkS a) else if checkS b ≠ 0 then (none2, checkS b) else if (colsJ a.Cols b.Cols).2 = false then (none2, 20) else jres most (colsJ a.Cols b.Cols).1 (rowsJ a.Cols b.Cols a.Rows b.Rows)
def wfT (t : api_Table) : Prop := ∀ r ∈ t.Rows, ∀ v ∈ r, wfV v

theorem findS_mem {cols : List api_Col} {c : api_Col} (h : c ∈ cols) : 0 ≤ findS cols c.Name := by
  have h1 := (findS_ge cols c.Name).1
  by_cases h2 : findS cols c.Name = -1
  · exact absurd rfl (findS_none.1 h2 c h)
  · omega
theorem shL_A (A B : List api_Col) : shL B A = (SN A B).map (fA B) := rfl
theorem shL_self (A : List api_Col) : shL A A = A.map (fA A) := by
  unfold shL
  rw [List.filter_eq_self.2 fun c hc => by simpa using findS_mem hc]
  rfl
def delJ (A B : List api_Col) (i : Int) : Bool := match A[i.toNat]? with
  | some c => decide (findS B c.Name < 0)
  | none => true
theorem delJ_fA {A B : List api_Col} {c : api_Col} (h : c ∈ A) : delJ A B (fA A c) = decide (findS B c.Name < 0) := by
  obtain ⟨i, d, h1, h2, h3⟩ := findS_get (findS_mem h)
  unfold delJ fA
  rw [h1, Int.toNat_natCast, h2]
  simp only [h3]
theorem left_eq (A B : List api_Col) : (shL A A).filter (fun x => !delJ A B x) = (SN A B).map (fA A) := by
  rw [shL_self, List.filter_map]
  congr 1
  unfold SN
  refine List.filter_congr fun c hc => ?_
  simp only [Function.comp_apply, delJ_fA hc]
  by_cases h : findS B c.Name < 0
  · simp [h]
  · simp [h]; omega
theorem otF_range («by» : List api_Col) : ∀ (cols : List api_Col) (i : Nat), ∀ k ∈ otF «by» i cols, (i : Int) ≤ k ∧ k < i + cols.length
  | [], _, _, h => by simp [otF] at h
  | c :: r, i, k, h => by
    simp only [otF] at h
    have next : k ∈ otF «by» (i + 1) r → (i : Int) ≤ k ∧ k < i + (c :: r).length := fun h => by
      have := otF_range «by» r (i + 1) k h
      simp only [List.length_cons]; omega
    split at h
    · rcases List.mem_cons.1 h with rfl | h
      · simp only [List.length_cons]; omega
      · exact next h
    · exact next h
theorem otF_len («by» : List api_Col) : ∀ (cols : List api_Col) (i : Nat), (otF «by» i cols).length ≤ cols.length
  | [], _ => by simp [otF]
  | c :: r, i => by
    have := otF_len «by» r (i + 1)
    simp only [otF]
    split <;> simp <;> omega
theorem pickS_map {α β : Type} (f : β → Int) (l : List β) (row : List α) : pickS (l.map f) row = l.filterMap fun c => row[(f c).toNat]? := by
  unfold pickS; rw [List.filterMap_map]; rfl
theorem pickS_mem {α : Type} {at_ : List Int} {row : List α} {v : α} (h : v ∈ pickS at_ row) : v ∈ row := by
  obtain ⟨k, _, hk⟩ := List.mem_filterMap.1 h
  exact List.mem_of_getElem? hk
theorem pickS_len {α : Type} (at_ : List Int) (row : List α) : (pickS at_ row).length ≤ at_.length := List.length_filterMap_le _ _

/-- Two sides that fit. -/
structure Fit (A B : List api_Col) : Prop where
  a : colsS A = true
  b : colsS B = true
  ok : B.all (okC A) = true
theorem Fit.la {A B : List api_Col} (h : Fit A B) : A.length ≤ 16 := (colsS_col h.a).1
theorem Fit.lb {A B : List api_Col} (h : Fit A B) : B.length ≤ 16 := (colsS_col h.b).1
/-- A shared column stands on both sides, of one kind. -/
theorem Fit.both {A B : List api_Col} (h : Fit A B) {n : ByteArray} (ha : 0 ≤ findS A n) (hb : 0 ≤ findS B n) : ∃ (i j : Nat) (c d : api_Col), findS A n = (i : Int) ∧ findS B n = (j : Int) ∧ A[i]? = some c ∧ B[j]? = some d ∧ c.Name = n ∧ d.Name = n ∧ c.Kind = d.Kind ∧ d.Kind ≠ 4 := by
  obtain ⟨i, c, h1, h2, h3⟩ := findS_get ha
  obtain ⟨j, d, k1, k2, k3⟩ := findS_get hb
  have := List.all_eq_true.1 h.ok d (List.mem_of_getElem? k2)
  unfold okC at this
  rw [k3, h1, Int.toNat_natCast, h2] at this
  have h0 : decide ((i : Int) < 0) = false := by simp
  rw [h0] at this
  simp only [Bool.false_or, decide_eq_true_eq] at this
  exact ⟨i, j, c, d, h1, k1, h2, k2, h3, k3, this.1, this.2⟩
theorem SN_both {A B : List api_Col} {c : api_Col} (h : c ∈ SN A B) : c ∈ A ∧ 0 ≤ findS A c.Name ∧ 0 ≤ findS B c.Name := by
  unfold SN at h
  rw [List.mem_filter] at h
  exact ⟨h.1, findS_mem h.1, by simpa using h.2⟩
theorem row_get {r : List api_Value} {A : List api_Col} (h : rowOk r A = true) {i : Nat} {c : api_Col} (hc : A[i]? = some c) : ∃ v, r[i]? = some v ∧ v.Kind = c.Kind := by
  have hl := rowOk_len h
  obtain ⟨v, hv, _⟩ := getE (l := r) (i := i) (by have := (List.getElem?_eq_some_iff.1 hc).1; omega)
  exact ⟨v, hv, rowOk_kind h hv hc⟩
theorem keys_kind {A B : List api_Col} (h : Fit A B) {r s : List api_Value} (hr : rowOk r A = true) (hs : rowOk s B = true) : (keyA A B r).map (·.Kind) = (keyB A B s).map (·.Kind) := by
  unfold keyA keyB
  rw [pickS_map, pickS_map]
  have key : ∀ l : List api_Col, (∀ c ∈ l, 0 ≤ findS A c.Name ∧ 0 ≤ findS B c.Name) → (l.filterMap fun c => r[(fA A c).toNat]?).map (·.Kind) = (l.filterMap fun c => s[(fA B c).toNat]?).map (·.Kind) := by
    intro l
    induction l with
    | nil => intro _; rfl
    | cons c l ih =>
      intro hl
      obtain ⟨h1, h2⟩ := hl c (List.mem_cons_self ..)
      obtain ⟨i, j, c1, c2, e1, e2, e3, e4, _, _, e5, _⟩ := h.both h1 h2
      obtain ⟨v, hv, kv⟩ := row_get hr e3
      obtain ⟨w, hw, kw⟩ := row_get hs e4
      have f1 : r[(fA A c).toNat]? = some v := by unfold fA; rw [e1]; exact hv
      have f2 : s[(fA B c).toNat]? = some w := by unfold fA; rw [e2]; exact hw
      rw [List.filterMap_cons, List.filterMap_cons, f1, f2]
      simp only [List.map_cons, kv, kw, e5, ih (fun x hx => hl x (List.mem_cons_of_mem _ hx))]
  exact key _ fun c hc => (SN_both hc).2
theorem SN_len (A B : List api_Col) : (SN A B).length ≤ A.length := List.length_filter_le ..

section
variable {a b : api_Table} {most : Int} {cols : List api_Col × Bool}
/-- What is known of two tables that are joined. -/
structure Two (a b : api_Table) : Prop where
  fit : Fit a.Cols b.Cols
  ra : ∀ r ∈ a.Rows, rowOk r a.Cols = true
  rb : ∀ r ∈ b.Rows, rowOk r b.Cols = true
  wa : wfT a
  wb : wfT b
  la : a.Rows.length ≤ 40
  lb : b.Rows.length ≤ 40
theorem Two.ka (h : Two a b) {r : List api_Value} (hr : r ∈ a.Rows) : ∀ v ∈ keyA a.Cols b.Cols r, validS v = true ∧ wfV v := fun v hv => ⟨rowOk_valid (h.ra r hr) v (pickS_mem hv), h.wa r hr v (pickS_mem hv)⟩
theorem Two.kb (h : Two a b) {s : List api_Value} (hs : s ∈ b.Rows) : ∀ v ∈ keyB a.Cols b.Cols s, validS v = true ∧ wfV v := fun v hv => ⟨rowOk_valid (h.rb s hs) v (pickS_mem hv), h.wb s hs v (pickS_mem hv)⟩
theorem Two.pa (h : Two a b) {r : List api_Value} (hr : r ∈ a.Rows) : join_pick r ((SN a.Cols b.Cols).map (fA a.Cols)) = some (keyA a.Cols b.Cols r) := by
  have hl := rowOk_len (h.ra r hr)
  have h1 := h.fit.la
  have h2 := SN_len a.Cols b.Cols
  refine pick_eq (by simp; omega) fun k hk => ?_
  obtain ⟨c, hc, rfl⟩ := List.mem_map.1 hk
  have := findS_ge a.Cols c.Name
  have := (SN_both hc).2.1
  unfold fA; omega
theorem Two.pb (h : Two a b) {s : List api_Value} (hs : s ∈ b.Rows) : join_pick s ((SN a.Cols b.Cols).map (fA b.Cols)) = some (keyB a.Cols b.Cols s) := by
  have hl := rowOk_len (h.rb s hs)
  have h1 := h.fit.la
  have h2 := SN_len a.Cols b.Cols
  refine pick_eq (by simp; omega) fun k hk => ?_
  obtain ⟨c, hc, rfl⟩ := List.mem_map.1 hk
  have := findS_ge b.Cols c.Name
  have := (SN_both hc).2.2
  unfold fA; omega
theorem Two.po (h : Two a b) {s : List api_Value} (hs : s ∈ b.Rows) : join_pick s (otF a.Cols 0 b.Cols) = some (restB a.Cols b.Cols s) := by
  have hl := rowOk_len (h.rb s hs)
  have h1 := h.fit.lb
  have h2 := otF_len a.Cols b.Cols 0
  refine pick_eq (by omega) fun k hk => ?_
  have := otF_range a.Cols b.Cols 0 k hk
  omega
theorem Two.ma (h : Two a b) {r : List api_Value} (hr : r ∈ a.Rows) : join_mark (keyA a.Cols b.Cols r) = some (mkB (keyA a.Cols b.Cols r)) := by
  have h1 := h.fit.la
  have h2 := SN_len a.Cols b.Cols
  have h3 := pickS_len ((SN a.Cols b.Cols).map (fA a.Cols)) r
  rw [List.length_map] at h3
  exact mark_eq (by unfold keyA; omega) fun v hv => (h.ka hr v hv).1
theorem Two.mb (h : Two a b) {s : List api_Value} (hs : s ∈ b.Rows) : join_mark (keyB a.Cols b.Cols s) = some (mkB (keyB a.Cols b.Cols s)) := by
  have h1 := h.fit.la
  have h2 := SN_len a.Cols b.Cols
  have h3 := pickS_len ((SN a.Cols b.Cols).map (fA b.Cols)) s
  rw [List.length_map] at h3
  exact mark_eq (by unfold keyB; omega) fun v hv => (h.kb hs v hv).1
theorem Two.inj (h : Two a b) {r s : List api_Value} (hr : r ∈ a.Rows) (hs : s ∈ b.Rows) : mkB (keyB a.Cols b.Cols s) = mkB (keyA a.Cols b.Cols r) ↔ matchJ a.Cols b.Cols r s = true := by
  unfold matchJ
  rw [decide_eq_true_eq]
  exact ⟨fun e => (mkB_inj (keys_kind h.fit (h.ra r hr) (h.rb s hs)).symm (h.kb hs) (h.ka hr) e).symm, fun e => by rw [e]⟩
theorem restB_len {A B : List api_Col} (h : B.length ≤ 16) (s : List api_Value) : (restB A B s).length ≤ 16 := by
  have h2 := otF_len A B 0
  have := pickS_len (otF A 0 B) s
  unfold restB; omega

theorem join_l4 {kl3 : List (List api_Value) → Int → Option (api_Table × Int)} {M : List (ByteArray × List (List api_Value))} {r : List api_Value} {key : ByteArray} {x : Int} (hm : ((mget M key).getD []).length ≤ 40) (hw : ∀ s ∈ (mget M key).getD [], s.length ≤ 16) (hr : r.length ≤ 16) :
    ∀ (fuel j : Nat) (out : List (List api_Value)), j ≤ ((mget M key).getD []).length → ((mget M key).getD []).length < j + fuel → out.length ≤ 1000000 + j → (out.length : Int) ≤ max most 0 →
    join_Join.l4 kl3 a most M x r key fuel out (j : Int) = if ((out.length + (((mget M key).getD []).length - j) : Nat) : Int) > max most 0 then some (none2, 210) else kl3 (out ++ (((mget M key).getD []).drop j).map (r ++ ·)) (IntKind.i64.wrap (x + 1))
  | 0, j, _, _, h, _, _ => by omega
  | fuel + 1, j, out, h1, h2, h3, h4 => by
    rw [join_Join.l4]
    by_cases hj : j < ((mget M key).getD []).length
    · obtain ⟨s, hs, es⟩ := getE hj
      have hsw := hw s (List.mem_of_getElem? hs)
      rw [if_pos (dlt hj), ix_of hs, Option.bind_some]
      by_cases hf : (out.length : Int) ≥ most
      · rw [if_pos (by simpa using hf), if_pos (by omega)]
        rfl
      · rw [if_neg (by simpa using hf), concat2 (by omega), Option.bind_some, apd_of (by simp; omega), Option.bind_some, w64_nat j (by omega), join_l4 hm hw hr fuel (j + 1) _ (by omega) (by omega) (by simp; omega) (by simp; omega), es]
        have e1 : (out ++ [r ++ s]).length + (((mget M key).getD []).length - (j + 1)) = out.length + (((mget M key).getD []).length - j) := by simp; omega
        rw [e1]
        simp
    · rw [if_neg (dnl (by omega)), if_neg (by omega), List.drop_of_length_le (by omega)]
      simp
theorem join_l3 (h : Two a b) {M : List (ByteArray × List (List api_Value))} {ys : List Int} (hys : ys = (SN a.Cols b.Cols).map (fA a.Cols)) (hc : cols.1.length ≤ 40)
    (hM : ∀ r ∈ a.Rows, (mget M (mkB (keyA a.Cols b.Cols r))).getD [] = (b.Rows.filter (matchJ a.Cols b.Cols r)).map (restB a.Cols b.Cols)) :
    ∀ (fuel i : Nat) (out : List (List api_Value)), i ≤ a.Rows.length → a.Rows.length < i + fuel → out.length ≤ 40 * i → (∀ r ∈ out, r.length ≤ 32) → (out.length : Int) ≤ max most 0 →
    join_Join.l3 a most cols ys M fuel out (i : Int) = some (jres most cols.1 (out ++ rowsJ a.Cols b.Cols (a.Rows.drop i) b.Rows))
  | 0, i, _, _, h, _, _, _ => by omega
  | fuel + 1, i, out, h1, h2, h3, h4, h5 => by
    have hla := h.la
    have hlb := h.lb
    rw [join_Join.l3]
    by_cases hi : i < a.Rows.length
    · obtain ⟨r, hr, er⟩ := getE hi
      have hrm := List.mem_of_getElem? hr
      have hMr := hM r hrm
      have hlr := rowOk_len (h.ra r hrm)
      have hfl := List.length_filter_le (matchJ a.Cols b.Cols r) b.Rows
      have hml : ((b.Rows.filter (matchJ a.Cols b.Cols r)).map (restB a.Cols b.Cols)).length ≤ 40 := by rw [List.length_map]; omega
      have hfa := h.fit.la
      rw [if_pos (dlt hi), ix_of hr, Option.bind_some, hys, h.pa hrm, Option.bind_some, h.ma hrm, Option.bind_some, fuel_nat, show (0 : Int) = ((0 : Nat) : Int) from rfl]
      rw [join_l4 (by rw [hMr]; exact hml) (by
        rw [hMr]; intro s hs
        obtain ⟨t, _, rfl⟩ := List.mem_map.1 hs
        exact restB_len h.fit.lb t) (by omega) _ 0 out (Nat.zero_le _) (by omega) (by omega) h5, w64_nat i (by omega), hMr, List.drop_zero, Nat.sub_zero]
      have e1 : rowsJ a.Cols b.Cols (a.Rows.drop i) b.Rows = ((b.Rows.filter (matchJ a.Cols b.Cols r)).map (restB a.Cols b.Cols)).map (r ++ ·) ++ rowsJ a.Cols b.Cols (a.Rows.drop (i + 1)) b.Rows := by
        rw [er]
        simp [rowsJ, List.map_map, Function.comp_def]
      by_cases hb : ((out.length + ((b.Rows.filter (matchJ a.Cols b.Cols r)).map (restB a.Cols b.Cols)).length : Nat) : Int) > max most 0
      · rw [if_pos hb, e1]
        unfold jres
        rw [if_pos (by simp only [List.length_append, List.length_map] at hb ⊢; omega)]
      · rw [if_neg hb]
        have ih := join_l3 h hys hc hM fuel (i + 1) (out ++ ((b.Rows.filter (matchJ a.Cols b.Cols r)).map (restB a.Cols b.Cols)).map (r ++ ·)) (by omega) (by omega) (by simp only [List.length_append, List.length_map] at hml ⊢; omega) (fun t ht => by
          rcases List.mem_append.1 ht with ht | ht
          · exact h4 t ht
          · obtain ⟨u, hu, rfl⟩ := List.mem_map.1 ht
            obtain ⟨q, _, rfl⟩ := List.mem_map.1 hu
            have := restB_len (A := a.Cols) h.fit.lb q
            simp only [List.length_append]; omega) (by simp only [List.length_append, List.length_map] at hb ⊢; omega)
        rw [hys] at ih
        rw [ih, e1, List.append_assoc]
    · rw [if_neg (dnl (by omega)), List.drop_of_length_le (by omega)]
      rw [canon_eq' (by simp only []; omega) (by simp only []; omega) (fun r hr => by have := h4 r hr; omega), Option.bind_some]
      simp only [rowsJ, List.flatMap_nil, List.append_nil]
      unfold jres
      rw [if_neg (by omega)]
theorem join_l2 (h : Two a b) {ys zs os : List Int} (hys : ys = (SN a.Cols b.Cols).map (fA a.Cols)) (hzs : zs = (SN a.Cols b.Cols).map (fA b.Cols)) (hos : os = otF a.Cols 0 b.Cols) (hc : cols.1.length ≤ 40) :
    ∀ (fuel i : Nat) (M : List (ByteArray × List (List api_Value))), i ≤ b.Rows.length → b.Rows.length < i + fuel → (∀ k, ((mget M k).getD []).length ≤ i) →
      (∀ r ∈ a.Rows, (mget M (mkB (keyA a.Cols b.Cols r))).getD [] = ((b.Rows.take i).filter (matchJ a.Cols b.Cols r)).map (restB a.Cols b.Cols)) →
      join_Join.l2 a b most cols zs os ys fuel M (i : Int) = some (jres most cols.1 (rowsJ a.Cols b.Cols a.Rows b.Rows))
  | 0, i, _, _, h, _, _ => by omega
  | fuel + 1, i, M, h1, h2, h3, h4 => by
    have hla := h.la
    have hlb := h.lb
    rw [join_Join.l2]
    by_cases hi : i < b.Rows.length
    · obtain ⟨s, hs, es⟩ := getE hi
      have hsm := List.mem_of_getElem? hs
      have hk3 := h3 (mkB (keyB a.Cols b.Cols s))
      rw [if_pos (dlt hi), ix_of hs, Option.bind_some, hzs, hos, h.pb hsm, Option.bind_some, h.mb hsm, Option.bind_some, h.po hsm, Option.bind_some, apd_of (by simp; omega), Option.bind_some, w64_nat i (by omega)]
      have ih := join_l2 h hys hzs hos hc fuel (i + 1) (mset M (mkB (keyB a.Cols b.Cols s)) ((mget M (mkB (keyB a.Cols b.Cols s))).getD [] ++ [restB a.Cols b.Cols s])) (by omega) (by omega) (fun k => by
        rw [mget_mset]
        split
        · simp only [Option.getD_some, List.length_append, List.length_cons, List.length_nil]; omega
        · have := h3 k; omega) (fun r hr => by
        have hr4 := h4 r hr
        rw [mget_mset, List.take_add_one, hs, List.filter_append, List.map_append, ← hr4]
        by_cases e : mkB (keyB a.Cols b.Cols s) = mkB (keyA a.Cols b.Cols r)
        · rw [if_pos e, e]
          have := (h.inj hr hsm).1 e
          simp [this]
        · rw [if_neg e]
          have : ¬ matchJ a.Cols b.Cols r s = true := fun hm => e ((h.inj hr hsm).2 hm)
          simp [this])
      rw [hzs, hos] at ih
      exact ih
    · rw [if_neg (dnl (by omega)), fuel_nat, show (0 : Int) = ((0 : Nat) : Int) from rfl]
      rw [join_l3 h hys hc (fun r hr => by rw [h4 r hr, List.take_of_length_le (by omega)]) _ 0 [] (Nat.zero_le _) (by omega) (by simp) (by simp) (by simp; omega), List.drop_zero, List.nil_append]
end
theorem colsJ_true {A B : List api_Col} (h : (colsJ A B).2 ≠ false) : B.all (okC A) = true ∧ colsJ A B = (A ++ newC A B, true) ∧ (A ++ newC A B).length ≤ 16 ∧ (A ++ newC A B).length ≠ A.length + B.length := by
  unfold colsJ endJ at h ⊢
  by_cases h1 : B.all (okC A) = true
  · rw [if_pos h1] at h ⊢
    by_cases h2 : (A ++ newC A B).length = A.length + B.length ∨ (A ++ newC A B).length > 16
    · rw [if_pos h2] at h; exact absurd rfl h
    · rw [if_neg h2]; exact ⟨h1, rfl, by omega, by omega⟩
  · rw [if_neg h1] at h; exact absurd rfl h
theorem del1_eq {a b : api_Table} (ha : a.Cols.length ≤ 16) (hb : b.Cols.length ≤ 16) : ∀ x ∈ shL a.Cols a.Cols, join_Join_1_cp_cp x b a = some (delJ a.Cols b.Cols x) := by
  intro x hx
  rw [shL_self] at hx
  obtain ⟨c, hc, rfl⟩ := List.mem_map.1 hx
  obtain ⟨i, d, h1, h2, h3⟩ := findS_get (findS_mem hc)
  unfold join_Join_1_cp_cp delJ fA
  rw [h1, ix_of h2, Option.bind_some, find_eq (by omega), Option.bind_some, Int.toNat_natCast, h2]
theorem join_eq {a b : api_Table} (ha : szT a) (hb : szT b) (wa : wfT a) (wb : wfT b) (la : a.Rows.length ≤ 40) (lb : b.Rows.length ≤ 40) (most : Int) : join_Join a b most = some (joinS a b most) := by
  have e0 : ix [a, b] 0 = some a := rfl
  have e1 : ix [a, b] 1 = some b := rfl
  have w0 : IntKind.i64.wrap (0 + 1) = 1 := by decide
  have w1 : IntKind.i64.wrap (1 + 1) = 2 := by decide
  unfold join_Join joinS
  rw [show ((2 : Int) - 0).toNat + 1 = 0 + 1 + 1 + 1 from rfl, join_Join.l0, e0, w0, if_pos (by decide), Option.bind_some, check_eq ha.cols ha.rows, Option.bind_some]
  by_cases hca : checkS a = 0
  · rw [if_neg (by simpa using hca), if_neg (by simpa using hca), join_Join.l0, e1, w1, if_pos (by decide), Option.bind_some, check_eq hb.cols hb.rows, Option.bind_some]
    by_cases hcb : checkS b = 0
    · obtain ⟨ca, ra⟩ := checkS_zero.1 hca
      obtain ⟨cb, rb⟩ := checkS_zero.1 hcb
      have l1 := (colsS_col ca).1
      have l2 := (colsS_col cb).1
      rw [if_neg (by simpa using hcb), if_neg (by simpa using hcb), join_Join.l0, if_neg (by decide), jcols_eq l1 l2, Option.bind_some]
      by_cases hj : (colsJ a.Cols b.Cols).2 = false
      · rw [if_pos (by simp [hj]), if_pos hj]; rfl
      · obtain ⟨h1, h2, h3, _⟩ := colsJ_true hj
        have two : Two a b := ⟨⟨ca, cb, h1⟩, ra, rb, wa, wb, la, lb⟩
        have hsl : (shL a.Cols a.Cols).length ≤ 16 := by rw [shL_self, List.length_map]; omega
        rw [if_neg (by simpa using hj), if_neg hj, split_eq l1 l1, Option.bind_some, split_eq l2 l1, Option.bind_some]
        unfold join_Join.j1
        rw [del_eq hsl (del1_eq l1 l2), Option.bind_some, fuel_nat, show (0 : Int) = ((0 : Nat) : Int) from rfl]
        exact join_l2 two (left_eq _ _) (shL_A _ _) rfl (by rw [h2]; simp only []; omega) _ 0 [] (Nat.zero_le _) (by omega) (fun k => by simp [mget]) (fun r _ => by simp [mget])
    · rw [if_pos (by simpa using hcb), if_pos (by simpa using hcb)]; rfl
  · rw [if_pos (by simpa using hca), if_pos (by simpa using hca)]; rfl
end Go.Proofs.Ytabdokppkcgdlaa.M
