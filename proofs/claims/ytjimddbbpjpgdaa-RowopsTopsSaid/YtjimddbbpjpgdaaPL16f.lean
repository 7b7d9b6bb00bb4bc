/- Layer 16: the plain law of which rows come first. -/
import Derived.Test.YtjimddbbpjpgdaaPure
import Derived.Test.YtjimddbbpjpgdaaPL16e
namespace Go.Proofs.Ytjimddbbpjpgdaa.M
open Go Go.Eng Go.Proofs Go.RowKit
set_option maxRecDepth 100000
set_option linter.unusedVariables false
set_option linter.unusedSimpArgs false

theorem take_out {L : LL} {b : Nat} {x : List api_Value} (hb : L[b]? = some x) : L.Perm (x :: (L.take b ++ L.drop (b + 1))) := by
  obtain ⟨hl, e⟩ := List.getElem?_eq_some_iff.1 hb
  have h1 : L = L.take b ++ (x :: L.drop (b + 1)) := by
    rw [← e, ← List.drop_eq_getElem_cons hl, List.take_append_drop]
  exact (List.Perm.of_eq h1).trans List.perm_middle
theorem rtop_l3 {kl1 : LL → LL → Option (api_Table × Int)} {n : Int} {K : Nat} {L O : LL} (hL : L.length + O.length ≤ 1000000) (ha : Asc cmpR L) (hr : ∀ r ∈ L, K < r.length ∧ (keyV K r).S.size < 4611686018427387904) : ∀ (fuel i b0 : Nat), i ≤ L.length → L.length < i + fuel → b0 < i → (∀ x, L[b0]? = some x → ∀ j, j < i → ∀ y, L[j]? = some y → cmpT K x y ≤ 0) →
    ∃ b x, L[b]? = some x ∧ (∀ y ∈ L, cmpT K x y ≤ 0) ∧ ref16_Top.l3 kl1 n (K : Int) L O fuel (b0 : Int) (i : Int) = kl1 (L.take b ++ L.drop (b + 1)) (O ++ [x])
  | 0, i, b0, _, h, _, _ => by omega
  | fuel + 1, i, b0, h1, h2, h3, hle => by
    rw [ref16_Top.l3]
    obtain ⟨x, hx, _⟩ := getE (l := L) (i := b0) (by omega)
    have hxm := List.mem_of_getElem? hx
    by_cases hi : i < L.length
    · obtain ⟨y, hy, _⟩ := getE hi
      have hym := List.mem_of_getElem? hy
      rw [if_pos (by simp; omega), ix_of hy, Option.bind_some, ix_key (hr y hym).1, Option.bind_some, ix_of hx, Option.bind_some, ix_key (hr x hxm).1, Option.bind_some, refV_eq (hr y hym).2, Option.bind_some]
      unfold ref16_Top.j4
      rw [w64_nat i (by omega)]
      have hR : cmpR x y ≤ 0 := by
        obtain ⟨p1, e1⟩ := List.getElem?_eq_some_iff.1 hx
        obtain ⟨p2, e2⟩ := List.getElem?_eq_some_iff.1 hy
        have := List.pairwise_iff_getElem.1 ha b0 i p1 p2 h3
        rw [e1, e2] at this; exact this
      have hkey := cmpT_key (K := K) hR
      have hkk : cmpK K y x = cmpV (keyV K x) (keyV K y) := rfl
      have hf := cmpV_cmp.flip (keyV K x) (keyV K y)
      have hfT := flipT (K := K) y x
      by_cases hg : cmpV (keyV K y) (keyV K x) > 0
      · rw [if_pos (by simpa using hg)]
        refine rtop_l3 hL ha hr fuel (i + 1) i (by omega) (by omega) (by omega) fun x' hx' j hj z hz => ?_
        rw [hy] at hx'; cases hx'
        have hlt : cmpT K y x < 0 := hkey.1 (by omega)
        by_cases hji : j = i
        · subst hji; rw [hy] at hz; cases hz
          have := (cmpT_cmp K).refl y; omega
        · exact (cmpT_cmp K).trans _ _ _ (by omega) (hle x hx j (by omega) z hz)
      · rw [if_neg (by simpa using hg)]
        refine rtop_l3 hL ha hr fuel (i + 1) b0 (by omega) (by omega) (by omega) fun x' hx' j hj z hz => ?_
        rw [hx] at hx'; cases hx'
        have hge : ¬ cmpT K y x < 0 := fun h => by have := hkey.2 h; omega
        by_cases hji : j = i
        · subst hji; rw [hy] at hz; cases hz
          omega
        · exact hle x hx j (by omega) z hz
    · rw [if_neg (by simp; omega), ix_of hx, Option.bind_some, apd_of (by simp only [List.length_singleton]; omega), Option.bind_some, cut_of (by omega) (by omega) (by omega), Option.bind_some, w64_nat b0 (by omega), cut_of (by omega) (by omega) (by omega), Option.bind_some]
      have e1 : (L.drop (0 : Int).toNat).take ((b0 : Int).toNat - (0 : Int).toNat) = L.take b0 := rfl
      have e2 : (L.drop ((b0 + 1 : Nat) : Int).toNat).take (((L.length : Nat) : Int).toNat - ((b0 + 1 : Nat) : Int).toNat) = L.drop (b0 + 1) := by
        rw [List.take_of_length_le (by simp)]; rfl
      rw [e1, e2, apd_of (by simp only [List.length_nil, List.length_take]; omega), Option.bind_some, apd_of (by simp only [List.nil_append, List.length_take, List.length_drop]; omega), Option.bind_some]
      refine ⟨b0, x, hx, fun y hy => ?_, rfl⟩
      obtain ⟨j, hj, e⟩ := List.mem_iff_getElem.1 hy
      exact hle x hx j (by omega) y (by rw [List.getElem?_eq_getElem hj, e])
theorem rtop_l1 {u : api_Table} {K n : Nat} (hu : szT u) (hn : n < 1000000) : ∀ (fuel : Nat) (L O : LL), L.length + O.length ≤ 1000000 → L.length + O.length ≤ u.Rows.length → (∀ r ∈ L, r ∈ u.Rows) → (∀ r ∈ O, r ∈ u.Rows) → Asc cmpR L → (∀ r ∈ u.Rows, K < r.length ∧ (keyV K r).S.size < 4611686018427387904) → O.length ≤ n → n < O.length + fuel →
    ref16_Top.l1 (n : Int) (K : Int) u fuel L O = some (⟨u.Cols, sortC cmpR ((O ++ sortC (cmpT K) L).take n)⟩, 0)
  | 0, L, O, _, _, _, _, _, _, _, h => by omega
  | fuel + 1, L, O, hL, hLu, hLm, hOm, ha, hr, h1, h2 => by
    rw [ref16_Top.l1]
    have fin : (O ++ sortC (cmpT K) L).take n = O → ref16_Top.j2 (ref16_Top.l1 (n : Int) (K : Int) u fuel) (n : Int) (K : Int) u L O false = some (⟨u.Cols, sortC cmpR ((O ++ sortC (cmpT K) L).take n)⟩, 0) := fun e => by
      unfold ref16_Top.j2
      have ho : szT (⟨u.Cols, O⟩ : api_Table) := hu.sub rfl (by dsimp only; omega) hOm
      rw [if_neg (by decide), rcanon_eq ho, Option.bind_some, e]; rfl
    by_cases hlt : O.length < n
    · rw [if_pos (by simp; omega)]
      by_cases hz : 0 < L.length
      · rw [decide_eq_true (by omega)]
        unfold ref16_Top.j2
        rw [if_pos rfl]
        obtain ⟨x0, hx0, _⟩ := getE hz
        obtain ⟨b, x, hb, hmin, e3⟩ := rtop_l3 (kl1 := ref16_Top.l1 (n : Int) (K : Int) u fuel) (n := (n : Int)) (K := K) (L := L) (O := O) hL ha (fun r h => hr r (hLm r h)) (((L.length : Int) - 1).toNat + 1) 1 0 (by omega) (by omega) (by omega) (fun x hx j hj y hy => by
          have : j = 0 := by omega
          subst this
          rw [hx] at hy; cases hy
          have := (cmpT_cmp K).refl x; omega)
        refine Eq.trans e3 ?_
        have hp := take_out hb
        have hlen := hp.length_eq
        have hxm := List.mem_of_getElem? hb
        have hsub : (L.take b ++ L.drop (b + 1)).Sublist L := by
          have : L.take b ++ L.drop b = L := List.take_append_drop b L
          have h3 : (L.drop (b + 1)).Sublist (L.drop b) := by
            have := List.drop_sublist 1 (L.drop b)
            rwa [List.drop_drop] at this
          have := (List.Sublist.refl (L.take b)).append h3
          rwa [List.take_append_drop] at this
        have hsm : ∀ r ∈ L.take b ++ L.drop (b + 1), r ∈ L := fun r h => hsub.subset h
        simp only [List.length_cons] at hlen
        generalize L.take b ++ L.drop (b + 1) = L2 at *
        have ha2 : Asc cmpR L2 := by unfold Asc at *; exact ha.sublist hsub
        rw [rtop_l1 hu hn fuel L2 (O ++ [x]) (by simp only [List.length_append, List.length_singleton]; omega) (by simp only [List.length_append, List.length_singleton]; omega) (fun r h => hLm r (hsm r h)) (fun r h => by
          rcases List.mem_append.1 h with h | h
          · exact hOm r h
          · simp at h; subst h; exact hLm _ hxm) ha2 hr (by simp only [List.length_append, List.length_singleton]; omega) (by simp only [List.length_append, List.length_singleton]; omega)]
        have es : sortC (cmpT K) L = x :: sortC (cmpT K) L2 := by
          refine asc_uniq (cmpT_cmp K) (cmpT_zero K) (sortC_asc (cmpT_cmp K) _) ?_ ((sortC_perm _ _).trans (hp.trans ((sortC_perm (cmpT K) L2).symm.cons x)))
          unfold Asc
          exact List.pairwise_cons.2 ⟨fun y hy => hmin y (hsm y (mem_sortC.1 hy)), sortC_asc (cmpT_cmp K) _⟩
        rw [es]
        simp
      · rw [decide_eq_false (by omega)]
        have : L = [] := List.eq_nil_of_length_eq_zero (by omega)
        subst this
        refine fin ?_
        rw [List.perm_nil.1 (sortC_perm (cmpT K) ([] : LL)), List.append_nil, List.take_of_length_le (by omega)]
    · rw [if_neg (by simp; omega)]
      refine fin ?_
      rw [List.take_append_of_le_length (by omega), List.take_of_length_le (by omega)]
theorem rtop_ok {t : api_Table} {n : Int} {s : ByteArray} {K : Nat} {c : api_Col} (hs : szT t) (hz : checkS t = 0) (hn : 1 ≤ n) (hn2 : n ≤ 1000) (hf : findS t.Cols s = (K : Int)) (hc : t.Cols[K]? = some c) (hk : c.Kind ≠ 4) (hl : t.Rows.length ≤ 100) : ref16_Top t n s = some (⟨t.Cols, topR K n.toNat t.Rows⟩, 0) := by
  have hKl := (List.getElem?_eq_some_iff.1 hc).1
  have hrow : ∀ r ∈ t.Rows, K < r.length ∧ (keyV K r).S.size < 4611686018427387904 := fun r hr => by
    have h1 : K < r.length := by rw [rowOk_len ((checkS_zero.1 hz).2 r hr)]; exact hKl
    have := hs.s r hr _ (key_mem h1)
    exact ⟨h1, by omega⟩
  unfold ref16_Top ref16_Top.j0
  rw [rcheck_eq hs.cols hs.rows, Option.bind_some, if_neg (by simpa using hz), rfind_eq hs.cols.1, Option.bind_some, if_neg (by simp; omega), if_neg (by simp; omega), hf, if_neg (by simp <;> omega), ix_of hc, Option.bind_some, if_neg (by simpa using hk), rcanon_eq hs, Option.bind_some]
  obtain ⟨m, rfl⟩ : ∃ m : Nat, n = (m : Int) := ⟨n.toNat, by omega⟩
  have hcl : (canonS t).Rows.length = t.Rows.length := sortC_len _ _
  have := rtop_l1 (u := canonS t) (K := K) (n := m) hs.canon (by omega) (((m : Int) - 0).toNat + 1) (canonS t).Rows [] (by simp only [List.length_nil]; omega) (by simp only [List.length_nil]; omega) (fun r h => h) (fun r h => by cases h) (sortC_asc cmpR_cmp _) (fun r h => hrow r (mem_sortC.1 h)) (by simp) (by simp only [List.length_nil]; omega)
  rw [this, List.nil_append, Int.toNat_natCast]
  unfold topR
  rw [show sortC (cmpT K) (canonS t).Rows = sortC (cmpT K) t.Rows from sortC_of_perm (cmpT_cmp K) (cmpT_zero K) (sortC_perm cmpR t.Rows)]
  rfl
theorem RowopsTops_pure (t : api_Table) (ot : ok_api_Table t) (n : Int) (on : (Lit.int .i64 n).wf = true) (s : ByteArray) (os : s.size ≤ 140737488351232) : law16_RowopsTops t n s = some true := by
  have hs := (szT_of ot).cut
  have hcl := cut_len t
  unfold law16_RowopsTops
  rw [shown_ok, Option.bind_some, cut_eq', Option.bind_some]
  have both : ∀ (r : api_Table × Int), szT r.1 → rowops_Top (cutS t) n s = some r → ref16_Top (cutS t) n s = some r → ((rowops_Top (cutS t) n s).bind fun y_12 => ((ref16_Top (cutS t) n s).bind fun y_25 => ((ref02_Same y_12.1 y_25.1).bind fun y_38 => (if true = true then (if y_38 = true then some (y_12.2 == y_25.2) else some false) else some false)))) = some true := fun r hr h1 h2 => by
    rw [h1, Option.bind_some, h2, Option.bind_some, rsame_eq hr, Option.bind_some]
    simp
  by_cases hz : checkS (cutS t) = 0
  · by_cases hn1 : n < 1
    · refine both (none2, 1) szT_none2 ?_ ?_
      · unfold rowops_Top rowops_Top.j0
        rw [check_eq hs.cols hs.rows, Option.bind_some, if_neg (by simpa using hz), find_eq hs.cols.1, Option.bind_some, if_pos (by simpa using hn1), if_pos rfl]; rfl
      · unfold ref16_Top ref16_Top.j0
        rw [rcheck_eq hs.cols hs.rows, Option.bind_some, if_neg (by simpa using hz), rfind_eq hs.cols.1, Option.bind_some, if_pos (by simpa using hn1), if_pos rfl]; rfl
    · by_cases hn2 : n > 1000
      · refine both (none2, 1) szT_none2 ?_ ?_
        · unfold rowops_Top rowops_Top.j0
          rw [check_eq hs.cols hs.rows, Option.bind_some, if_neg (by simpa using hz), find_eq hs.cols.1, Option.bind_some, if_neg (by simpa using hn1), if_pos (by simpa using hn2), if_pos rfl]; rfl
        · unfold ref16_Top ref16_Top.j0
          rw [rcheck_eq hs.cols hs.rows, Option.bind_some, if_neg (by simpa using hz), rfind_eq hs.cols.1, Option.bind_some, if_neg (by simpa using hn1), if_pos (by simpa using hn2), if_pos rfl]; rfl
      · by_cases hf : findS (cutS t).Cols s < 0
        · refine both (none2, 1) szT_none2 ?_ ?_
          · unfold rowops_Top rowops_Top.j0
            rw [check_eq hs.cols hs.rows, Option.bind_some, if_neg (by simpa using hz), find_eq hs.cols.1, Option.bind_some, if_neg (by simpa using hn1), if_neg (by simpa using hn2), if_pos (by simpa using hf), if_pos rfl]; rfl
          · unfold ref16_Top ref16_Top.j0
            rw [rcheck_eq hs.cols hs.rows, Option.bind_some, if_neg (by simpa using hz), rfind_eq hs.cols.1, Option.bind_some, if_neg (by simpa using hn1), if_neg (by simpa using hn2), if_pos (by simpa using hf), if_pos rfl]; rfl
        · obtain ⟨K, c, e1, e2, _, _⟩ := findS_some (show 0 ≤ findS (cutS t).Cols s by omega)
          by_cases hk : c.Kind = 4
          · refine both (none2, 1) szT_none2 (top_bad hs hz e1 e2 hk) ?_
            unfold ref16_Top ref16_Top.j0
            rw [rcheck_eq hs.cols hs.rows, Option.bind_some, if_neg (by simpa using hz), rfind_eq hs.cols.1, Option.bind_some, if_neg (by simpa using hn1), if_neg (by simpa using hn2), e1, if_neg (by simp <;> omega), ix_of e2, Option.bind_some, if_pos (by simpa using hk)]; rfl
          · exact both _ (hs.top K n.toNat) (top_eq hs hz (by omega) (by omega) e1 e2 hk) (rtop_ok hs hz (by omega) (by omega) e1 e2 hk hcl)
  · refine both (none2, checkS (cutS t)) szT_none2 ?_ ?_
    · unfold rowops_Top
      rw [check_eq hs.cols hs.rows, Option.bind_some, if_pos (by simpa using hz)]; rfl
    · unfold ref16_Top
      rw [rcheck_eq hs.cols hs.rows, Option.bind_some, if_pos (by simpa using hz)]; rfl
end Go.Proofs.Ytjimddbbpjpgdaa.M
