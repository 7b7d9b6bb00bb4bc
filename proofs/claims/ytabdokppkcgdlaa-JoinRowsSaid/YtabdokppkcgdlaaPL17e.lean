/- Joins: the laws of none, and of rows. -/
import Derived.Test.YtabdokppkcgdlaaPure
import Derived.Test.YtabdokppkcgdlaaPL17d
namespace Go.Proofs.Ytabdokppkcgdlaa.M
open Go Go.Eng Go.Proofs Go.RowKit
set_option maxRecDepth 100000
set_option linter.unusedVariables false
set_option linter.unusedSimpArgs false

/-! ### none, and a table with itself -/
theorem okC_self {T : List api_Col} (h : colsS T = true) {c : api_Col} (hc : c ∈ T) : okC T c = decide (c.Kind ≠ 4) := by
  have h1 := find_self h hc
  have h2 := findS_mem hc
  have h0 : decide (findS T c.Name < 0) = false := by simp; omega
  unfold okC
  rw [h0, h1]
  simp
theorem newC_self (T : List api_Col) : newC T T = [] := by
  unfold newC
  refine List.filter_eq_nil_iff.2 fun c hc => ?_
  have := findS_mem hc
  simp; omega
theorem colsJ_self {T : List api_Col} (h : colsS T = true) : colsJ T T = if T.any (fun c => decide (c.Kind = 4)) = true then ([], false) else (T, true) := by
  have hl := (colsS_iff.1 h).2.2
  have e : T.all (okC T) = !T.any (fun c => decide (c.Kind = 4)) := by
    rw [List.not_any_eq_all_not]
    rw [Bool.eq_iff_iff, List.all_eq_true, List.all_eq_true]
    constructor
    · intro g c hc; have := g c hc; rw [okC_self h hc] at this; simpa using this
    · intro g c hc; rw [okC_self h hc]; simpa using g c hc
  unfold colsJ endJ
  rw [e, newC_self, List.append_nil]
  cases hh : T.any (fun c => decide (c.Kind = 4)) with
  | true => simp
  | false =>
    simp only [Bool.not_false, if_true]
    rw [if_neg (by omega), if_neg (by simp)]
theorem match_self {T : List api_Col} (f : Fit T T) {r s : List api_Value} (hr : rowOk r T = true) (hs : rowOk s T = true) : matchJ T T r s = decide (cmpR r s = 0) := by
  rw [Bool.eq_iff_iff, match_iff f hr hs, decide_eq_true_eq]
  have hn := (colsS_iff.1 f.a).2.1
  constructor
  · intro g
    have : r = s := by
      rw [← row_names hn (rowOk_len hr), ← row_names hn (rowOk_len hs)]
      exact fm_congr fun n hm => g n (find_mem.2 hm) (find_mem.2 hm)
    rw [this]; exact cmpR_self s
  · intro e n _ _
    rw [cmpR_zero r s e]
def eqs (rows : List (List api_Value)) (r : List api_Value) : List (List api_Value) := rows.filter fun s => decide (cmpR r s = 0)
theorem self_len {T : List api_Col} (f : Fit T T) {rows : List (List api_Value)} (h : ∀ r ∈ rows, rowOk r T = true) : (rowsJ T T rows rows).length = (rows.flatMap (eqs rows)).length := by
  unfold rowsJ
  rw [List.length_flatMap, List.length_flatMap]
  congr 1
  refine List.map_congr_left fun r hr => ?_
  rw [List.length_map]
  unfold eqs
  congr 1
  exact List.filter_congr fun s hs => match_self f (h r hr) (h s hs)
theorem none_l4 {kl3 : Int → Int → Option Bool} {t : api_Table} (ht : OkT t) {i : Nat} {r : List api_Value} (hr : t.Rows[i]? = some r) : ∀ (fuel k n : Nat), k ≤ t.Rows.length → t.Rows.length < k + fuel → n + t.Rows.length ≤ 1000000 + k →
    law17_JoinNone.l4 kl3 t (i : Int) fuel (n : Int) (k : Int) = kl3 ((n + (eqs (t.Rows.drop k) r).length : Nat) : Int) (IntKind.i64.wrap ((i : Int) + 1))
  | 0, k, _, _, h, _ => by omega
  | fuel + 1, k, n, h1, h2, h3 => by
    have hl := ht.len
    have hro := ht.sz.row (List.mem_of_getElem? hr)
    rw [law17_JoinNone.l4]
    by_cases hk : k < t.Rows.length
    · obtain ⟨s, hs, es⟩ := getE hk
      rw [if_pos (dlt hk), ix_of hr, Option.bind_some, ix_of hs, Option.bind_some, refRow_eq hro, Option.bind_some, es]
      unfold law17_JoinNone.j5
      rw [w64_nat k (by omega)]
      by_cases hc : cmpR r s = 0
      · have e : eqs (s :: t.Rows.drop (k + 1)) r = s :: eqs (t.Rows.drop (k + 1)) r := by simp [eqs, hc]
        rw [if_pos (by simpa using hc), w64_nat n (by omega), none_l4 ht hr fuel (k + 1) (n + 1) (by omega) (by omega) (by omega), e, List.length_cons, show n + 1 + (eqs (t.Rows.drop (k + 1)) r).length = n + ((eqs (t.Rows.drop (k + 1)) r).length + 1) by omega]
      · have e : eqs (s :: t.Rows.drop (k + 1)) r = eqs (t.Rows.drop (k + 1)) r := by simp [eqs, hc]
        rw [if_neg (by simpa using hc), none_l4 ht hr fuel (k + 1) n (by omega) (by omega) (by omega), e]
    · rw [if_neg (dnl (by omega)), List.drop_of_length_le (by omega)]
      simp [eqs]
theorem eqs_len (rows : List (List api_Value)) (r : List api_Value) : (eqs rows r).length ≤ rows.length := List.length_filter_le ..
theorem none_l3 {t : api_Table} (ht : OkT t) {x y : api_Table × Int} (hx : x.2 = 0) (hxr : x.1.Rows.length = 0) (hy : y.2 = 0) (hyc : ref02_SameCols y.1.Cols t.Cols = some true) (hyr : y.1.Rows.length = (t.Rows.flatMap (eqs t.Rows)).length) : ∀ (fuel i n : Nat), i ≤ t.Rows.length → t.Rows.length < i + fuel → n ≤ 40 * i → n = ((t.Rows.take i).flatMap (eqs t.Rows)).length →
    law17_JoinNone.l3 true t x y fuel (n : Int) (i : Int) = some true
  | 0, i, _, _, h, _, _ => by omega
  | fuel + 1, i, n, h1, h2, h3, h4 => by
    have hl := ht.len
    rw [law17_JoinNone.l3]
    by_cases hi : i < t.Rows.length
    · obtain ⟨r, hr, er⟩ := getE hi
      have he := eqs_len t.Rows r
      rw [if_pos (dlt hi), fuel_nat, show (0 : Int) = ((0 : Nat) : Int) from rfl, none_l4 ht hr _ 0 n (Nat.zero_le _) (by omega) (by omega), w64_nat i (by omega), List.drop_zero]
      exact none_l3 ht hx hxr hy hyc hyr fuel (i + 1) _ (by omega) (by omega) (by omega) (by rw [List.take_add_one, hr, List.flatMap_append, List.length_append, ← h4]; simp)
    · rw [List.take_of_length_le (by omega)] at h4
      rw [if_neg (dnl (by omega)), hyc, Option.bind_some, if_pos rfl, if_pos (by simpa using hx), if_pos (by rw [hxr]; rfl), if_pos (by simpa using hy), if_pos rfl, hyr, h4]
      simp
theorem none_l0 {t : api_Table} (ht : OkT t) (hz : checkS t = 0) : ∀ (fuel i : Nat) (b : Bool), i ≤ t.Cols.length → t.Cols.length < i + fuel → b = (t.Cols.take i).any (fun c => decide (c.Kind = 4)) →
    law17_JoinNone.l0 true t fuel b (i : Int) = some true
  | 0, i, _, _, h, _ => by omega
  | fuel + 1, i, b, h1, h2, h3 => by
    obtain ⟨hc, hrows⟩ := checkS_zero.1 hz
    have hcl := (colsS_iff.1 hc).2.2
    rw [law17_JoinNone.l0]
    by_cases hi : i < t.Cols.length
    · obtain ⟨c, hcc, ec⟩ := getE hi
      have ht' : (t.Cols.take (i + 1)).any (fun c => decide (c.Kind = 4)) = (b || decide (c.Kind = 4)) := by
        rw [List.take_add_one, hcc, List.any_append, ← h3]; simp
      rw [if_pos (dlt hi)]
      unfold law17_JoinNone.j1
      by_cases hb : b = true
      · rw [if_pos hb, w64_nat i (by omega)]
        exact none_l0 ht hz fuel (i + 1) true (by omega) (by omega) (by rw [ht', hb]; rfl)
      · rw [if_neg hb, ix_of hcc, Option.bind_some, w64_nat i (by omega)]
        exact none_l0 ht hz fuel (i + 1) _ (by omega) (by omega) (by rw [ht', show b = false by simpa using hb]; rfl)
    · rw [List.take_of_length_le (by omega)] at h3
      have o2 : OkT ⟨t.Cols, []⟩ := ht.sub rfl (by simp) (fun r hr => by cases hr)
      have z2 : checkS ⟨t.Cols, []⟩ = 0 := checkS_zero.2 ⟨hc, fun r hr => by cases hr⟩
      rw [if_neg (dnl (by omega)), jeq ht o2, Option.bind_some, jeq ht ht, Option.bind_some]
      have hcj := colsJ_self hc
      rw [← h3] at hcj
      by_cases hb : b = true
      · rw [if_pos hb] at hcj
        have e1 : joinS t ⟨t.Cols, []⟩ 0 = (none2, 20) := by unfold joinS; rw [if_neg (by simpa using hz), if_neg (by simpa using z2), if_pos (by rw [hcj])]
        have e2 : joinS t t 1600 = (none2, 20) := by unfold joinS; rw [if_neg (by simpa using hz), if_neg (by simpa using hz), if_pos (by rw [hcj])]
        rw [e1, e2, if_pos hb, if_pos rfl, if_pos (by decide)]
        rfl
      · rw [if_neg hb] at hcj
        have g : Good t t := ⟨hz, hz, by rw [hcj]; simp⟩
        have e1 : joinS t ⟨t.Cols, []⟩ 0 = (canonS ⟨t.Cols, []⟩, 0) := by
          unfold joinS
          rw [if_neg (by simpa using hz), if_neg (by simpa using z2), hcj, if_neg (by simp)]
          have : rowsJ t.Cols t.Cols t.Rows [] = [] := by simp [rowsJ]
          unfold jres
          rw [this, if_neg (by decide)]
        have e2 := g.join ht.len ht.len
        have eX : tabJ t t = ⟨t.Cols, rowsJ t.Cols t.Cols t.Rows t.Rows⟩ := by unfold tabJ; rw [newC_self, List.append_nil]
        rw [e1, e2, if_neg hb, fuel_nat, show (0 : Int) = ((0 : Nat) : Int) from rfl]
        refine none_l3 ht rfl ?_ rfl ?_ ?_ _ 0 0 (Nat.zero_le _) (by omega) (by omega) rfl
        · show (sortC cmpR []).length = 0; rw [sortC_len]; rfl
        · rw [eX]
          rw [rsc_eq (by show t.Cols.length < _; omega)]
          simp [canonS]
        · rw [canonS_len, eX]
          exact self_len g.fit hrows
theorem JoinNone_pure (t : api_Table) (ot : ok_api_Table t) : law17_JoinNone t = some true := by
  have ha := okT_of ot
  unfold law17_JoinNone
  rw [shown_eq, Option.bind_some, cutJ_eq, Option.bind_some, rcheck_eq ha.sz.cols ha.sz.rows, Option.bind_some]
  generalize cutJ t = a at ha
  by_cases hz : checkS a = 0
  · rw [if_neg (by simpa using hz), fuel_nat]
    exact none_l0 ha hz _ 0 false (Nat.zero_le _) (by omega) rfl
  · rw [if_pos (by simpa using hz)]

/-! ### rows -/
/-- A joined row, cut to the columns of a side. -/
theorem side_a {A B : List api_Col} (h : Fit A B) {r s : List api_Value} (hr : rowOk r A = true) (hs : rowOk s B = true) : (names A).filterMap (rowAt (A ++ newC A B) (r ++ restB A B s)) = r := by
  have e := row_names (colsS_iff.1 h.a).2.1 (rowOk_len hr)
  refine Eq.trans (fm_congr fun n hn => ?_) e
  rw [rowX h hr hs (Or.inl (find_mem.2 hn)), if_pos (find_mem.2 hn)]
theorem side_b {A B : List api_Col} (h : Fit A B) {r s : List api_Value} (hr : rowOk r A = true) (hs : rowOk s B = true) (hm : matchJ A B r s = true) : (names B).filterMap (rowAt (A ++ newC A B) (r ++ restB A B s)) = s := by
  have e := row_names (colsS_iff.1 h.b).2.1 (rowOk_len hs)
  refine Eq.trans (fm_congr fun n hn => ?_) e
  rw [rowX h hr hs (Or.inr (find_mem.2 hn))]
  split
  · rename_i h1; exact (match_iff h hr hs).1 hm n h1 (find_mem.2 hn)
  · rfl
section
variable {a b : api_Table} {kl2 : Int → Option Bool} {i : Nat} {t : List api_Value} {m : Nat} {u : api_Table} {X : api_Table} {row : List api_Value}
theorem rows_l4 (hu : ix [a, b] (m : Int) = some u) (ho : OkT u) (hrow : okRow row) : ∀ (fuel k : Nat) (bb : Bool), k ≤ u.Rows.length → u.Rows.length < k + fuel → (bb = true ∨ row ∈ u.Rows.drop k) →
    law17_JoinRows.l4 kl2 [a, b] (m : Int) row fuel bb (k : Int) = kl2 (IntKind.i64.wrap ((m : Int) + 1))
  | 0, k, _, _, h, _ => by omega
  | fuel + 1, k, bb, h1, h2, h3 => by
    have hl := ho.len
    rw [law17_JoinRows.l4, hu, Option.bind_some]
    by_cases hk : k < u.Rows.length
    · obtain ⟨s, hs, es⟩ := getE hk
      rw [if_pos (dlt hk)]
      unfold law17_JoinRows.j5
      by_cases hb : bb = true
      · rw [if_pos hb, w64_nat k (by omega)]
        exact rows_l4 hu ho hrow fuel (k + 1) true (by omega) (by omega) (Or.inl rfl)
      · rw [if_neg hb, Option.bind_some, ix_of hs, Option.bind_some, refRow_eq hrow, Option.bind_some, w64_nat k (by omega)]
        refine rows_l4 hu ho hrow fuel (k + 1) _ (by omega) (by omega) ?_
        rcases h3 with h3 | h3
        · exact absurd h3 hb
        · rw [es] at h3
          rcases List.mem_cons.1 h3 with rfl | h3
          · left; rw [cmpR_self]; rfl
          · exact Or.inr h3
    · rw [if_neg (dnl (by omega))]
      rw [List.drop_of_length_le (by omega)] at h3
      have hb : bb = true := by rcases h3 with h3 | h3; exact h3; cases h3
      rw [hb, if_neg (by simp)]
theorem rows_l3 {y : api_Table × Int} (hu : ix [a, b] (m : Int) = some u) (ho : OkT u) (hX : y.1 = X) (ht : X.Rows[i]? = some t) (hXl : X.Cols.length ≤ 16) (hsm : ∀ n ∈ names u.Cols, ∃ (k : Nat) (v : api_Value), findS X.Cols n = (k : Int) ∧ t[k]? = some v) (hul : u.Cols.length ≤ 16) (hrow : okRow ((names u.Cols).filterMap (rowAt X.Cols t))) (hin : (names u.Cols).filterMap (rowAt X.Cols t) ∈ u.Rows) : ∀ (fuel k : Nat) (acc : List api_Value), k ≤ u.Cols.length → u.Cols.length < k + fuel → acc.length ≤ k → acc = (names (u.Cols.take k)).filterMap (rowAt X.Cols t) →
    law17_JoinRows.l3 kl2 y [a, b] (i : Int) (m : Int) fuel acc (k : Int) = kl2 (IntKind.i64.wrap ((m : Int) + 1))
  | 0, k, _, _, h, _, _ => by omega
  | fuel + 1, k, acc, h1, h2, h3, h4 => by
    rw [law17_JoinRows.l3, hu, Option.bind_some]
    by_cases hk : k < u.Cols.length
    · obtain ⟨c, hc, ec⟩ := getE hk
      obtain ⟨j, v, hj, hv⟩ := hsm c.Name (List.mem_map_of_mem (List.mem_of_getElem? hc))
      have hra : rowAt X.Cols t c.Name = some v := by unfold rowAt; rw [hj]; exact hv
      rw [if_pos (dlt hk), hX, ix_of ht, Option.bind_some, Option.bind_some, ix_of hc, Option.bind_some, rfind_eq (by omega), Option.bind_some, hj, ix_of hv, Option.bind_some, apd_of (by simp; omega), Option.bind_some, w64_nat k (by omega)]
      refine rows_l3 hu ho hX ht hXl hsm hul hrow hin fuel (k + 1) _ (by omega) (by omega) (by simp; omega) ?_
      rw [h4, List.take_add_one, hc]
      unfold names
      simp [hra]
    · rw [List.take_of_length_le (by omega)] at h4
      rw [if_neg (dnl (by omega))]
      simp only [Option.map_some, Option.getD_some]
      rw [fuel_nat, show (0 : Int) = ((0 : Nat) : Int) from rfl, h4]
      exact rows_l4 hu ho hrow _ 0 false (Nat.zero_le _) (by omega) (Or.inr (by rw [List.drop_zero]; exact hin))
end
theorem rows_l1 {a b : api_Table} (ha : OkT a) (hb : OkT b) (g : Good a b) : ∀ (fuel i : Nat), i ≤ (canonS (tabJ a b)).Rows.length → (canonS (tabJ a b)).Rows.length < i + fuel →
    law17_JoinRows.l1 true (canonS (tabJ a b), 0) fuel [a, b] (i : Int) = some true
  | 0, i, _, h => by omega
  | fuel + 1, i, h1, h2 => by
    have hlen := g.len ha.len hb.len
    rw [canonS_len] at h1 h2
    rw [law17_JoinRows.l1]
    have e0 : (canonS (tabJ a b), (0 : Int)).1 = canonS (tabJ a b) := rfl
    rw [e0]
    by_cases hi : i < (canonS (tabJ a b)).Rows.length
    · obtain ⟨t, ht, _⟩ := getE hi
      have htm : t ∈ rowsJ a.Cols b.Cols a.Rows b.Rows := mem_sortC.1 (List.mem_of_getElem? ht)
      obtain ⟨r, hr, s, hs, hm, rfl⟩ := rowsJ_mem.1 htm
      have f := g.fit
      have hrA := g.ra r hr
      have hsB := g.rb s hs
      have xr := X_row f hrA hsB
      have hXc := X_cols f g.xl
      have hsome : ∀ n, (n ∈ names a.Cols ∨ n ∈ names b.Cols) → ∃ (k : Nat) (v : api_Value), findS (a.Cols ++ newC a.Cols b.Cols) n = (k : Int) ∧ (r ++ restB a.Cols b.Cols s)[k]? = some v := fun n hn => by
        have h0 : 0 ≤ findS (a.Cols ++ newC a.Cols b.Cols) n := find_mem.2 (names_X.2 hn)
        obtain ⟨k, c, k1, k2, _⟩ := findS_get h0
        obtain ⟨v, hv, _⟩ := row_get xr k2
        exact ⟨k, v, k1, hv⟩
      have ea := side_a f hrA hsB
      have eb := side_b f hrA hsB hm
      have ih := rows_l1 ha hb g fuel (i + 1) (by omega) (by rw [canonS_len]; omega)
      have hw : IntKind.i64.wrap ((i : Int) + 1) = ((i + 1 : Nat) : Int) := w64_nat i (by rw [canonS_len] at hi; omega)
      rw [if_pos (dlt hi), show ((2 : Int) - 0).toNat + 1 = 0 + 1 + 1 + 1 from rfl, law17_JoinRows.l2, if_pos (by decide), fuel_nat]
      have fu0 : ((ix [a, b] 0).map fun q_ => q_.Cols).getD [] = a.Cols := rfl
      have fu1 : ((ix [a, b] 1).map fun q_ => q_.Cols).getD [] = b.Cols := rfl
      rw [fu0]
      rw [show (0 : Int) = ((0 : Nat) : Int) from rfl, rows_l3 (m := 0) (X := canonS (tabJ a b)) (i := i) (u := a) rfl ha rfl ht g.xl (fun n hn => hsome n (Or.inl hn)) f.la (by
          show okRow ((names a.Cols).filterMap (rowAt (a.Cols ++ newC a.Cols b.Cols) (r ++ restB a.Cols b.Cols s)))
          rw [ea]; exact ha.sz.row hr) (by
          show (names a.Cols).filterMap (rowAt (a.Cols ++ newC a.Cols b.Cols) (r ++ restB a.Cols b.Cols s)) ∈ a.Rows
          rw [ea]; exact hr) _ 0 [] (Nat.zero_le _) (by omega) (by simp) rfl]
      rw [w64_nat 0 (by omega), law17_JoinRows.l2, if_pos (by decide), fuel_nat]
      rw [show (((0 + 1 : Nat)) : Int) = 1 from rfl, fu1]
      rw [show (1 : Int) = ((1 : Nat) : Int) from rfl, show (0 : Int) = ((0 : Nat) : Int) from rfl, rows_l3 (m := 1) (X := canonS (tabJ a b)) (i := i) (u := b) rfl hb rfl ht g.xl (fun n hn => hsome n (Or.inr hn)) f.lb (by
          show okRow ((names b.Cols).filterMap (rowAt (a.Cols ++ newC a.Cols b.Cols) (r ++ restB a.Cols b.Cols s)))
          rw [eb]; exact hb.sz.row hs) (by
          show (names b.Cols).filterMap (rowAt (a.Cols ++ newC a.Cols b.Cols) (r ++ restB a.Cols b.Cols s)) ∈ b.Rows
          rw [eb]; exact hs) _ 0 [] (Nat.zero_le _) (by omega) (by simp) rfl]
      rw [w64_nat 1 (by omega), law17_JoinRows.l2, if_neg (by decide), hw]
      exact ih
    · rw [if_neg (dnl (by rw [canonS_len] at hi ⊢; omega))]
theorem JoinRows_pure (t : api_Table) (ot : ok_api_Table t) (u : api_Table) (ou : ok_api_Table u) : law17_JoinRows t u = some true := by
  have ha := okT_of ot
  have hb := okT_of ou
  unfold law17_JoinRows
  rw [shown_eq, Option.bind_some, cutJ_eq, Option.bind_some, cutJ_eq, Option.bind_some]
  generalize cutJ t = a at ha
  generalize cutJ u = b at hb
  rw [jeq ha hb, Option.bind_some]
  by_cases he : (joinS a b 1600).2 = 0
  · have g := join_zero he
    rw [if_neg (by simpa using he), g.join ha.len hb.len, fuel_nat]
    exact rows_l1 ha hb g _ 0 (Nat.zero_le _) (by show (canonS (tabJ a b)).Rows.length < 0 + ((canonS (tabJ a b)).Rows.length + 1); omega)
  · rw [if_pos (by simpa using he), if_pos rfl]
    unfold law17_JoinRows.j0
    have : (joinS a b 1600).1.Rows = [] := by
      unfold joinS at he ⊢
      split
      · rfl
      · split
        · rfl
        · split
          · rfl
          · rename_i h1 h2 h3
            rw [if_neg h1, if_neg h2, if_neg h3] at he
            unfold jres at he ⊢
            split
            · rfl
            · rename_i h4; rw [if_neg h4] at he; exact absurd rfl he
    rw [this]
    rfl
end Go.Proofs.Ytabdokppkcgdlaa.M
