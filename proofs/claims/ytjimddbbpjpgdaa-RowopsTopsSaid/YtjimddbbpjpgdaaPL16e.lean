/- Layer 16: the plain laws of first rows. -/
import Derived.Test.YtjimddbbpjpgdaaPure
import Derived.Test.YtjimddbbpjpgdaaPL16b
import Derived.Test.YtjimddbbpjpgdaaPL16d
import Derived.Test.YtjimddbbpjpgdaaPLTd
namespace Go.Proofs.Ytjimddbbpjpgdaa.M
open Go Go.Eng Go.Proofs Go.RowKit
set_option maxRecDepth 100000
set_option linter.unusedVariables false
set_option linter.unusedSimpArgs false

/-! the first n of something -/
section
variable {α : Type} {c : α → α → Int} (h : IsCmp c) (h0 : ∀ x y, c x y = 0 → x = y)
include h
theorem asc_split (e : α) : ∀ {Z : List α}, Asc c Z → ∃ Z1 Z2, Z = Z1 ++ Z2 ∧ (∀ s ∈ Z1, c s e ≤ 0) ∧ (∀ s ∈ Z2, 0 < c s e)
  | [], _ => ⟨[], [], rfl, (fun s hs => by cases hs), (fun s hs => by cases hs)⟩
  | s :: Z, ha => by
    unfold Asc at ha
    obtain ⟨a1, a2⟩ := List.pairwise_cons.1 ha
    by_cases hs : c s e ≤ 0
    · obtain ⟨Z1, Z2, e1, e2, e3⟩ := asc_split e a2
      refine ⟨s :: Z1, Z2, by rw [e1]; rfl, fun y hy => ?_, e3⟩
      rcases List.mem_cons.1 hy with rfl | hy
      · exact hs
      · exact e2 y hy
    · refine ⟨[], s :: Z, rfl, (fun s hs => by cases hs), fun y hy => ?_⟩
      rcases List.mem_cons.1 hy with rfl | hy
      · omega
      · by_cases hy2 : c y e ≤ 0
        · exact absurd (h.trans s y e (a1 y hy) hy2) hs
        · omega
include h0
theorem tops_snoc {n : Nat} {S : List α} {e : α} (hc : n ≤ S.countP (fun s => decide (c s e ≤ 0))) : (sortC c (S ++ [e])).take n = (sortC c S).take n := by
  have hZ := sortC_asc h S
  obtain ⟨Z1, Z2, e1, e2, e3⟩ := asc_split h e hZ
  have hl : n ≤ Z1.length := by
    rw [← (sortC_perm c S).countP_eq, e1, List.countP_append] at hc
    have : Z2.countP (fun s => decide (c s e ≤ 0)) = 0 := List.countP_eq_zero.2 fun s hs => by
      have := e3 s hs
      simp; omega
    have := List.countP_le_length (l := Z1) (p := fun s => decide (c s e ≤ 0))
    omega
  have hs : Z1 ++ e :: Z2 = sortC c (S ++ [e]) := by
    refine asc_uniq h h0 ?_ (sortC_asc h _) ?_
    · rw [e1] at hZ
      unfold Asc at hZ ⊢
      obtain ⟨a1, a2, a3⟩ := List.pairwise_append.1 hZ
      refine List.pairwise_append.2 ⟨a1, List.pairwise_cons.2 ⟨fun y hy => ?_, a2⟩, fun s hs y hy => ?_⟩
      · have := e3 y hy
        have := h.flip y e
        omega
      · rcases List.mem_cons.1 hy with rfl | hy
        · exact e2 s hs
        · exact a3 s hs y hy
    · have p1 : (Z1 ++ e :: Z2).Perm ([e] ++ (Z1 ++ Z2)) := List.perm_middle
      rw [← e1] at p1
      exact (p1.trans (List.perm_append_comm)).trans (((sortC_perm c S).append_right [e]).trans (sortC_perm c _).symm)
  rw [← hs, e1, List.take_append_of_le_length hl, List.take_append_of_le_length hl]
theorem tops_extra {n : Nat} : ∀ (E S : List α), (∀ e ∈ E, n ≤ S.countP (fun s => decide (c s e ≤ 0))) → (sortC c (S ++ E)).take n = (sortC c S).take n
  | [], S, _ => by rw [List.append_nil]
  | e :: E, S, hE => by
    have := tops_extra (n := n) E (S ++ [e]) (fun x hx => by
      have := hE x (by simp [hx])
      rw [List.countP_append]; omega)
    rw [show S ++ e :: E = (S ++ [e]) ++ E by simp, this, tops_snoc h h0 (hE e (by simp))]
omit h0 in
theorem tops_behind {n : Nat} (xs : List α) : ∀ e ∈ (sortC c xs).drop n, n ≤ ((sortC c xs).take n).countP (fun s => decide (c s e ≤ 0)) := fun e he => by
  have ha := sortC_asc h xs
  rw [← List.take_append_drop n (sortC c xs)] at ha
  unfold Asc at ha
  have hp := (List.pairwise_append.1 ha).2.2
  have hl : ((sortC c xs).take n).length = n := by
    have : 0 < ((sortC c xs).drop n).length := List.length_pos_of_mem he
    rw [List.length_drop] at this
    rw [List.length_take]; omega
  have : ((sortC c xs).take n).countP (fun s => decide (c s e ≤ 0)) = ((sortC c xs).take n).length := List.countP_eq_length.2 fun s hs => by
    have := hp s hs e he
    simpa using this
  omega
theorem tops_parts (n : Nat) (xs ys : List α) : (sortC c ((sortC c xs).take n ++ (sortC c ys).take n)).take n = (sortC c (xs ++ ys)).take n := by
  have hp : (((sortC c xs).take n ++ (sortC c ys).take n) ++ ((sortC c xs).drop n ++ (sortC c ys).drop n)).Perm (xs ++ ys) := by
    have p1 : ((sortC c xs).take n ++ (sortC c xs).drop n).Perm xs := by rw [List.take_append_drop]; exact sortC_perm _ _
    have p2 : ((sortC c ys).take n ++ (sortC c ys).drop n).Perm ys := by rw [List.take_append_drop]; exact sortC_perm _ _
    refine List.Perm.trans ?_ (p1.append p2)
    rw [List.append_assoc, List.append_assoc]
    refine List.Perm.append_left _ ?_
    rw [← List.append_assoc, ← List.append_assoc]
    exact List.Perm.append_right _ List.perm_append_comm
  rw [← sortC_of_perm h h0 hp]
  refine (tops_extra h h0 _ _ fun e he => ?_).symm
  rw [List.countP_append]
  rcases List.mem_append.1 he with he | he
  · have := tops_behind h xs e he; omega
  · have := tops_behind h ys e he; omega
theorem tops_tops (n : Nat) (xs : List α) : sortC c ((sortC c xs).take n) = (sortC c xs).take n := by
  refine (asc_uniq h h0 ?_ (sortC_asc h _) (sortC_perm _ _).symm).symm
  have ha := sortC_asc h xs
  unfold Asc at ha ⊢
  exact ha.sublist (List.take_sublist n _)
end
def topR (K n : Nat) (xs : LL) : LL := sortC cmpR ((sortC (cmpT K) xs).take n)
theorem topR_perm {K n : Nat} {xs ys : LL} (h : xs.Perm ys) : topR K n xs = topR K n ys := by unfold topR; rw [sortC_of_perm (cmpT_cmp K) (cmpT_zero K) h]
theorem topR_sub {K n : Nat} {xs : LL} {r : List api_Value} (h : r ∈ topR K n xs) : r ∈ xs := mem_sortC.1 (List.mem_of_mem_take (mem_sortC.1 h))
theorem topR_len (K n : Nat) (xs : LL) : (topR K n xs).length = min n xs.length := by unfold topR; rw [sortC_len, List.length_take, sortC_len]
theorem topR_parts (K n : Nat) (xs ys : LL) : topR K n (topR K n xs ++ topR K n ys) = topR K n (xs ++ ys) := by
  have hp : (topR K n xs ++ topR K n ys).Perm ((sortC (cmpT K) xs).take n ++ (sortC (cmpT K) ys).take n) := (sortC_perm _ _).append (sortC_perm _ _)
  rw [topR_perm hp]
  unfold topR
  rw [tops_parts (cmpT_cmp K) (cmpT_zero K)]
theorem topR_fewer {K n : Nat} (hn : 1 ≤ n) (xs : LL) : topR K 1 (topR K n xs) = topR K 1 xs := by
  have hp : (topR K n xs).Perm ((sortC (cmpT K) xs).take n) := sortC_perm _ _
  rw [topR_perm hp]
  unfold topR
  rw [tops_tops (cmpT_cmp K) (cmpT_zero K), List.take_take, show min 1 n = 1 by omega]
theorem szT.top {t : api_Table} (h : szT t) (K n : Nat) : szT ⟨t.Cols, topR K n t.Rows⟩ := h.sub rfl (by rw [topR_len]; omega) (fun r hr => topR_sub hr)
theorem check_sub {t : api_Table} (hz : checkS t = 0) {rows : LL} (hr : ∀ r ∈ rows, r ∈ t.Rows) : checkS ⟨t.Cols, rows⟩ = 0 := checkS_zero.2 ⟨(checkS_zero.1 hz).1, fun r h => (checkS_zero.1 hz).2 r (hr r h)⟩
theorem top_eq {t : api_Table} {n : Int} {s : ByteArray} {K : Nat} {c : api_Col} (hs : szT t) (hz : checkS t = 0) (hn : 1 ≤ n) (hn2 : n ≤ 1000) (hf : findS t.Cols s = (K : Int)) (hc : t.Cols[K]? = some c) (hk : c.Kind ≠ 4) : rowops_Top t n s = some (⟨t.Cols, topR K n.toNat t.Rows⟩, 0) := by
  have hKl := (List.getElem?_eq_some_iff.1 hc).1
  have hhas : has K (sortC cmpR t.Rows) := fun r hr => by rw [rowOk_len ((checkS_zero.1 hz).2 r (mem_sortC.1 hr))]; exact hKl
  have hl : (sortC cmpR t.Rows).length < 281474976710656 := by rw [sortC_len]; have := hs.r; omega
  have hst := stable_eq (K := K) hl hhas (sortC_asc cmpR_cmp _)
  rw [sortC_of_perm (cmpT_cmp K) (cmpT_zero K) (sortC_perm cmpR t.Rows)] at hst
  unfold rowops_Top rowops_Top.j0
  rw [check_eq hs.cols hs.rows, Option.bind_some, if_neg (by simpa using hz), find_eq hs.cols.1, Option.bind_some, if_neg (by simp; omega), if_neg (by simp; omega), hf, if_neg (by simp <;> omega), ix_of hc, Option.bind_some, if_neg (by simpa using hk), canon_eq hs, Option.bind_some]
  show ((slices_SortStableFunc_api_Value_api_Value_f_rowops_Top_1p (sortC cmpR t.Rows) (K : Int)).bind _) = _
  rw [hst, Option.bind_some, cut_of (by omega) (by omega) (by omega), Option.bind_some]
  have e : ((sortC (cmpT K) t.Rows).drop (0 : Int).toNat).take ((min n ((sortC (cmpT K) t.Rows).length : Int)).toNat - (0 : Int).toNat) = (sortC (cmpT K) t.Rows).take n.toNat := by
    show (sortC (cmpT K) t.Rows).take ((min n ((sortC (cmpT K) t.Rows).length : Int)).toNat - 0) = (sortC (cmpT K) t.Rows).take n.toNat
    rcases Int.le_total n ((sortC (cmpT K) t.Rows).length : Int) with h | h
    · rw [Int.min_eq_left h, Nat.sub_zero]
    · rw [Int.min_eq_right h, List.take_of_length_le (by omega), List.take_of_length_le (by omega)]
  have hm : szT ⟨t.Cols, (sortC (cmpT K) t.Rows).take n.toNat⟩ := hs.sub rfl (by simp only [List.length_take, sortC_len]; omega) (fun r hr => mem_sortC.1 (List.mem_of_mem_take hr))
  rw [e]
  show ((table_Canon ⟨t.Cols, (sortC (cmpT K) t.Rows).take n.toNat⟩).bind _) = _
  rw [canon_eq hm, Option.bind_some]
  rfl
theorem top_bad {t : api_Table} {n : Int} {s : ByteArray} {K : Nat} {c : api_Col} (hs : szT t) (hz : checkS t = 0) (hf : findS t.Cols s = (K : Int)) (hc : t.Cols[K]? = some c) (hk : c.Kind = 4) : rowops_Top t n s = some (none2, 1) := by
  unfold rowops_Top rowops_Top.j0
  rw [check_eq hs.cols hs.rows, Option.bind_some, if_neg (by simpa using hz), find_eq hs.cols.1, Option.bind_some]
  by_cases h1 : n < 1
  · rw [if_pos (by simpa using h1), if_pos rfl]; rfl
  · rw [if_neg (by simpa using h1)]
    by_cases h2 : n > 1000
    · rw [if_pos (by simpa using h2), if_pos rfl]; rfl
    · rw [if_neg (by simpa using h2), hf, if_neg (by simp <;> omega), ix_of hc, Option.bind_some, if_pos (by simpa using hk)]; rfl
theorem tmod_nat {x : Int} {n : Nat} (hx : 0 ≤ x) (hn : 0 < n) : ∃ k : Nat, k < n ∧ x.tmod (n : Int) = (k : Int) := by
  have h0 := Int.tmod_nonneg (n : Int) hx
  have h1 := Int.tmod_lt_of_pos x (show 0 < (n : Int) by omega)
  exact ⟨(x.tmod (n : Int)).toNat, by omega, by omega⟩
theorem tmod_neg_nat {x : Int} {n : Nat} (hx : x < 0) (hn : 0 < n) : ∃ k : Nat, k < n ∧ x.tmod (n : Int) = - (k : Int) := by
  obtain ⟨k, h1, h2⟩ := tmod_nat (x := -x) (n := n) (by omega) hn
  refine ⟨k, h1, ?_⟩
  rw [Int.neg_tmod] at h2
  omega
theorem parts_j2 {t : api_Table} {c : api_Col} {K m : Nat} {x : Int} (hs : szT t) (hl : t.Rows.length ≤ 100) (hz : checkS t = 0) (hf : findS t.Cols c.Name = (K : Int)) (hc : t.Cols[K]? = some c) (hm : m < 30) (hx : 0 ≤ x ∧ x ≤ (t.Rows.length : Int)) : law16_RowopsParts.j2 true t c (m : Int) x = some true := by
  unfold law16_RowopsParts.j2
  rw [w64_nat m (by omega)]
  by_cases hk : c.Kind = 4
  · rw [top_bad hs hz hf hc hk, Option.bind_some, if_pos (by simpa using hk), if_pos rfl]; rfl
  · obtain ⟨k, rfl⟩ : ∃ k : Nat, x = (k : Int) := ⟨x.toNat, by omega⟩
    have hkl : k ≤ t.Rows.length := by omega
    have c1 : cut t.Rows 0 (k : Int) = some (t.Rows.take k) := by
      rw [cut_of (by omega) (by omega) (by omega)]; rfl
    have c2 : cut t.Rows (k : Int) t.Rows.length = some (t.Rows.drop k) := by
      rw [cut_of (by omega) (by omega) (by omega)]
      congr 1
      rw [List.take_of_length_le (by simp)]; rfl
    have s1 : szT ⟨t.Cols, t.Rows.take k⟩ := hs.sub rfl (by simp only [List.length_take]; omega) (fun r hr => List.mem_of_mem_take hr)
    have s2 : szT ⟨t.Cols, t.Rows.drop k⟩ := hs.sub rfl (by simp only [List.length_drop]; omega) (fun r hr => List.mem_of_mem_drop hr)
    have z1 : checkS ⟨t.Cols, t.Rows.take k⟩ = 0 := check_sub hz (fun r hr => List.mem_of_mem_take hr)
    have z2 : checkS ⟨t.Cols, t.Rows.drop k⟩ = 0 := check_sub hz (fun r hr => List.mem_of_mem_drop hr)
    have zt : ∀ (u : api_Table) (n : Nat), checkS u = 0 → checkS ⟨u.Cols, topR K n u.Rows⟩ = 0 := fun u n h => check_sub h (fun r hr => topR_sub hr)
    have eN : ((m + 1 : Nat) : Int).toNat = m + 1 := by omega
    have e1 : (1 : Int).toNat = 1 := rfl
    have tt : ∀ (u : api_Table), szT u → checkS u = 0 → u.Cols = t.Cols → rowops_Top u ((m + 1 : Nat) : Int) c.Name = some (⟨u.Cols, topR K (m + 1) u.Rows⟩, 0) := fun u h1 h2 h3 => by
      have := top_eq (n := ((m + 1 : Nat) : Int)) h1 h2 (by omega) (by omega) (by rw [h3]; exact hf) (by rw [h3]; exact hc) hk
      rw [eN] at this; exact this
    have t1 : ∀ (u : api_Table), szT u → checkS u = 0 → u.Cols = t.Cols → rowops_Top u 1 c.Name = some (⟨u.Cols, topR K 1 u.Rows⟩, 0) := fun u h1 h2 h3 => by
      have := top_eq (n := 1) h1 h2 (by omega) (by omega) (by rw [h3]; exact hf) (by rw [h3]; exact hc) hk
      exact this
    rw [tt t hs hz rfl, Option.bind_some, if_neg (by simpa using hk), c1, Option.bind_some, tt _ s1 z1 rfl, Option.bind_some]
    unfold law16_RowopsParts.j4
    rw [c2, Option.bind_some, w64_nat m (by omega), tt _ s2 z2 rfl, Option.bind_some]
    unfold law16_RowopsParts.j5
    rw [w64_nat m (by omega)]
    have q1 := s1.top K (m + 1)
    have q2 := s2.top K (m + 1)
    have len1 := topR_len K (m + 1) (t.Rows.take k)
    have len2 := topR_len K (m + 1) (t.Rows.drop k)
    have lt1 : (t.Rows.take k).length ≤ 100 := by rw [List.length_take]; omega
    have lt2 : (t.Rows.drop k).length ≤ 100 := by rw [List.length_drop]; omega
    dsimp only at q1 q2 ⊢
    rw [runion_eq q1 q2 (by dsimp only; omega), Option.bind_some]
    have eu : unionS ⟨t.Cols, topR K (m + 1) (t.Rows.take k)⟩ ⟨t.Cols, topR K (m + 1) (t.Rows.drop k)⟩ = (canonS ⟨t.Cols, topR K (m + 1) (t.Rows.take k) ++ topR K (m + 1) (t.Rows.drop k)⟩, 0) := by
      unfold unionS
      rw [if_neg (by simpa using zt _ (m + 1) z1), if_neg (by simpa using zt _ (m + 1) z2), if_neg (by simp)]
    rw [eu]
    dsimp only
    have hmem : ∀ r ∈ topR K (m + 1) (t.Rows.take k) ++ topR K (m + 1) (t.Rows.drop k), r ∈ t.Rows := fun r hr => by
      rcases List.mem_append.1 hr with h | h
      · exact List.mem_of_mem_take (topR_sub h)
      · exact List.mem_of_mem_drop (topR_sub h)
    have ltd : (t.Rows.take k).length + (t.Rows.drop k).length = t.Rows.length := by rw [← List.length_append, List.take_append_drop]
    have su : szT (⟨t.Cols, topR K (m + 1) (t.Rows.take k) ++ topR K (m + 1) (t.Rows.drop k)⟩ : api_Table) := hs.sub rfl (by simp only [List.length_append]; omega) hmem
    have zu : checkS (⟨t.Cols, topR K (m + 1) (t.Rows.take k) ++ topR K (m + 1) (t.Rows.drop k)⟩ : api_Table) = 0 := check_sub hz hmem
    have zc := checkS_canon (⟨t.Cols, topR K (m + 1) (t.Rows.take k) ++ topR K (m + 1) (t.Rows.drop k)⟩ : api_Table)
    rw [tt _ su.canon (by rw [zc]; exact zu) rfl, Option.bind_some, t1 _ (hs.top K (m + 1)) (zt t (m + 1) hz) rfl, Option.bind_some, t1 t hs hz rfl, Option.bind_some]
    have eA : topR K (m + 1) (canonS (⟨t.Cols, topR K (m + 1) (t.Rows.take k) ++ topR K (m + 1) (t.Rows.drop k)⟩ : api_Table)).Rows = topR K (m + 1) t.Rows := by
      rw [topR_perm (show (canonS (⟨t.Cols, topR K (m + 1) (t.Rows.take k) ++ topR K (m + 1) (t.Rows.drop k)⟩ : api_Table)).Rows.Perm _ from sortC_perm _ _)]
      dsimp only
      rw [topR_parts, List.take_append_drop]
    dsimp only
    rw [eA, topR_fewer (by omega), rsame_eq (hs.top K (m + 1)), Option.bind_some, rsame_eq (hs.top K 1), Option.bind_some]
    have eL := topR_len K (m + 1) t.Rows
    simp [canonS, eL]
    omega
theorem RowopsParts_pure (t : api_Table) (ot : ok_api_Table t) (ns : Arr2) (on : ok_Arr2 ns) (i : Int) (oi : (Lit.int .i64 i).wf = true) : law16_RowopsParts t ns i = some true := by
  have hs := (szT_of ot).cut
  have hcl := cut_len t
  have hi := i64_range oi
  unfold law16_RowopsParts
  rw [shown_ok, Option.bind_some, cut_eq', Option.bind_some, rcheck_eq hs.cols hs.rows, Option.bind_some]
  by_cases hz : checkS (cutS t) = 0
  · rw [if_neg (by simpa using hz)]
    have j0 : ∀ x : Int, 0 ≤ x → law16_RowopsParts.j0 t ns true (cutS t) x = some true := fun x hx => by
      have hcc := cols_len (checkS_zero.1 hz).1
      unfold law16_RowopsParts.j0
      rw [if_pos (by have : ((cutS t).Cols.length : Int) ≠ 0 := by omega
                     simpa using this)]
      obtain ⟨K, hK, eK⟩ := tmod_nat (n := (cutS t).Cols.length) hx (by omega)
      have hcK := List.getElem?_eq_getElem hK
      rw [eK, ix_of hcK, Option.bind_some]
      have hf := cols_find (checkS_zero.1 hz).1 hcK
      have j1 : ∀ m : Nat, m < 30 → law16_RowopsParts.j1 ns true (cutS t) ((cutS t).Cols[K]) (m : Int) = some true := fun m hm => by
        unfold law16_RowopsParts.j1
        rw [w64_nat _ (by omega), if_pos (by simp; omega)]
        by_cases hn : ns.a1 < 0
        · obtain ⟨k, k1, k2⟩ := tmod_neg_nat (n := (cutS t).Rows.length + 1) hn (by omega)
          rw [k2]
          by_cases h0 : (- (k : Int)) < 0
          · rw [if_pos (by simpa using h0), show (0 : Int) - (-(k : Int)) = (k : Int) by omega, w64 (by omega) (by omega)]
            exact parts_j2 hs hcl hz hf hcK hm ⟨by omega, by omega⟩
          · rw [if_neg (by simpa using h0)]
            exact parts_j2 hs hcl hz hf hcK hm ⟨by omega, by omega⟩
        · obtain ⟨k, k1, k2⟩ := tmod_nat (x := ns.a1) (n := (cutS t).Rows.length + 1) (by omega) (by omega)
          rw [k2, if_neg (by simp <;> omega)]
          exact parts_j2 hs hcl hz hf hcK hm ⟨by omega, by omega⟩
      by_cases hn : ns.a0 < 0
      · obtain ⟨k, k1, k2⟩ := tmod_neg_nat (n := 30) hn (by omega)
        have k2' : ns.a0.tmod 30 = -(k : Int) := k2
        rw [k2']
        by_cases h0 : (- (k : Int)) < 0
        · rw [if_pos (by simpa using h0), show (0 : Int) - (-(k : Int)) = (k : Int) by omega, w64 (by omega) (by omega)]
          exact j1 k k1
        · rw [if_neg (by simpa using h0), show (-(k : Int)) = (k : Int) by omega]
          exact j1 k k1
      · obtain ⟨k, k1, k2⟩ := tmod_nat (x := ns.a0) (n := 30) (by omega) (by omega)
        have k2' : ns.a0.tmod 30 = (k : Int) := k2
        rw [k2', if_neg (by simp <;> omega)]
        exact j1 k k1
    by_cases hi0 : i < 0
    · rw [if_pos (by simpa using hi0), w64 (x := i + 1) (by omega) (by omega), w64 (by omega) (by omega)]
      exact j0 _ (by omega)
    · rw [if_neg (by simpa using hi0)]
      exact j0 _ (by omega)
  · rw [if_pos (by simpa using hz)]
theorem ix_key {K : Nat} {r : List api_Value} (h : K < r.length) : ix r (K : Int) = some (keyV K r) := by
  rw [ix_of (List.getElem?_eq_getElem h)]
  simp [keyV, h]
theorem key_mem {K : Nat} {r : List api_Value} (h : K < r.length) : keyV K r ∈ r := by
  simp [keyV, h]
theorem cmpT_keys {K : Nat} {w r : List api_Value} (h : cmpT K w r ≤ 0) : cmpV (keyV K r) (keyV K w) ≤ 0 := by
  unfold cmpT thenC at h
  by_cases h0 : cmpK K w r = 0
  · have : cmpV (keyV K r) (keyV K w) = 0 := h0
    omega
  · rw [if_neg h0] at h; exact h
theorem whole_l7 {t c : api_Table} {n x : Int} {K : Nat} {v : api_Value} (hK : x.tmod (t.Cols.length : Int) = (K : Int)) (hl : c.Rows.length < 4611686018427387904) (hr : ∀ r ∈ c.Rows, K < r.length ∧ (keyV K r).S.size < 4611686018427387904) : ∀ (fuel i m : Nat), i ≤ c.Rows.length → c.Rows.length < i + fuel → m ≤ i →
    law16_RowopsWhole.l7 n true t x c v.Kind v.N v.S v.H fuel (m : Int) (i : Int) = some (decide (((m + (c.Rows.drop i).countP (fun r => decide (0 < cmpV (keyV K r) v)) : Nat) : Int) < n))
  | 0, i, m, _, h, _ => by omega
  | fuel + 1, i, m, h1, h2, h3 => by
    rw [law16_RowopsWhole.l7]
    by_cases hi : i < c.Rows.length
    · obtain ⟨r, hx, ex⟩ := getE hi
      have hrr := hr r (List.mem_of_getElem? hx)
      rw [if_pos (by simp; omega), ix_of hx, Option.bind_some, hK, ix_key hrr.1, Option.bind_some]
      show ((ref01_Compare (keyV K r) v).bind _) = _
      rw [refV_eq hrr.2, Option.bind_some, ex, List.countP_cons]
      unfold law16_RowopsWhole.j8
      rw [w64_nat i (by omega), w64_nat m (by omega)]
      by_cases hg : 0 < cmpV (keyV K r) v
      · rw [if_pos (by simpa using hg), if_pos (by simpa using hg), whole_l7 hK hl hr fuel (i + 1) (m + 1) (by omega) (by omega) (by omega)]
        congr 2
        rw [show m + 1 + List.countP (fun r => decide (0 < cmpV (keyV K r) v)) (c.Rows.drop (i + 1)) = m + (List.countP (fun r => decide (0 < cmpV (keyV K r) v)) (c.Rows.drop (i + 1)) + 1) by omega]
      · rw [if_neg (by simpa using hg), if_neg (by simpa using hg), whole_l7 hK hl hr fuel (i + 1) m (by omega) (by omega) (by omega)]
        rfl
    · rw [if_neg (by simp; omega), if_pos rfl, List.drop_eq_nil_of_le (by omega)]
      have e : List.countP (fun r => decide (0 < cmpV (keyV K r) v)) ([] : LL) = 0 := rfl
      rw [e, Nat.add_zero]
theorem whole_l5 {t c : api_Table} {n : Nat} {x : Int} {K : Nat} {W : LL} (hK : x.tmod (t.Cols.length : Int) = (K : Int)) (hl : W.length = n) (hn : n < 4611686018427387904) (hr : ∀ r ∈ W, K < r.length ∧ (keyV K r).S.size < 4611686018427387904) : ∀ (fuel i : Nat) (v : api_Value), (∃ w ∈ W, v = keyV K w) → (∀ j, j < i → ∀ r, W[j]? = some r → cmpV v (keyV K r) ≤ 0) → i ≤ n → n < i + fuel →
    ∃ w ∈ W, (∀ r ∈ W, cmpV (keyV K w) (keyV K r) ≤ 0) ∧ law16_RowopsWhole.l5 (n : Int) true t x W c fuel v.Kind v.N v.S v.H (i : Int) = law16_RowopsWhole.l7 (n : Int) true t x c (keyV K w).Kind (keyV K w).N (keyV K w).S (keyV K w).H (((c.Rows.length : Int) - 0).toNat + 1) 0 0
  | 0, i, v, _, _, _, h => by omega
  | fuel + 1, i, v, hv, hle, h1, h2 => by
    rw [law16_RowopsWhole.l5]
    by_cases hi : i < n
    · obtain ⟨r, hx, ex⟩ := getE (l := W) (i := i) (by omega)
      have hm := List.mem_of_getElem? hx
      have hrr := hr r hm
      rw [if_pos (by simp; omega), ix_of hx, Option.bind_some, hK, ix_key hrr.1, Option.bind_some]
      show ∃ w ∈ W, _ ∧ ((ref01_Compare (keyV K r) v).bind _) = _
      rw [refV_eq hrr.2, Option.bind_some]
      unfold law16_RowopsWhole.j6
      rw [w64_nat i (by omega)]
      by_cases hg : cmpV (keyV K r) v < 0
      · rw [if_pos (by simpa using hg), Option.bind_some, ix_key hrr.1, Option.bind_some]
        refine whole_l5 hK hl hn hr fuel (i + 1) (keyV K r) ⟨r, hm, rfl⟩ (fun j hj q hq => ?_) (by omega) (by omega)
        by_cases hji : j = i
        · subst hji
          rw [hx] at hq; cases hq
          have := cmpV_cmp.refl (keyV K r); omega
        · exact cmpV_cmp.trans _ _ _ (by omega) (hle j (by omega) q hq)
      · rw [if_neg (by simpa using hg)]
        refine whole_l5 hK hl hn hr fuel (i + 1) v hv (fun j hj q hq => ?_) (by omega) (by omega)
        by_cases hji : j = i
        · subst hji
          rw [hx] at hq; cases hq
          have := cmpV_cmp.flip (keyV K r) v; omega
        · exact hle j (by omega) q hq
    · rw [if_neg (by simp; omega)]
      obtain ⟨w, hw, rfl⟩ := hv
      refine ⟨w, hw, fun r hrm => ?_, rfl⟩
      obtain ⟨j, hj, e⟩ := List.mem_iff_getElem.1 hrm
      exact hle j (by omega) r (by rw [List.getElem?_eq_getElem hj, e])
theorem whole_count {K n : Nat} {rows : LL} {w : List api_Value} (hn : n < rows.length) (hw : w ∈ topR K n rows) (hle : ∀ r ∈ topR K n rows, cmpV (keyV K w) (keyV K r) ≤ 0) {L : LL} (hL : L.Perm rows) : L.countP (fun r => decide (0 < cmpV (keyV K r) (keyV K w))) < n := by
  have hp : L.Perm ((sortC (cmpT K) rows).take n ++ (sortC (cmpT K) rows).drop n) := by rw [List.take_append_drop]; exact hL.trans (sortC_perm _ _).symm
  have hw2 : w ∈ (sortC (cmpT K) rows).take n := mem_sortC.1 hw
  have ha := sortC_asc (cmpT_cmp K) rows
  rw [← List.take_append_drop n (sortC (cmpT K) rows)] at ha
  unfold Asc at ha
  have hd := (List.pairwise_append.1 ha).2.2
  rw [hp.countP_eq, List.countP_append]
  have z : ((sortC (cmpT K) rows).drop n).countP (fun r => decide (0 < cmpV (keyV K r) (keyV K w))) = 0 := List.countP_eq_zero.2 fun r hr => by
    have := cmpT_keys (hd w hw2 r hr)
    simp; omega
  have hl : ((sortC (cmpT K) rows).take n).length = n := by rw [List.length_take, sortC_len]; omega
  have h1 : ((sortC (cmpT K) rows).take n).countP (fun r => decide (0 < cmpV (keyV K r) (keyV K w))) ≠ ((sortC (cmpT K) rows).take n).length := fun h => by
    have := List.countP_eq_length.1 h w hw2
    have r := cmpV_cmp.refl (keyV K w)
    simp at this; omega
  have h2 := List.countP_le_length (p := fun r => decide (0 < cmpV (keyV K r) (keyV K w))) (l := (sortC (cmpT K) rows).take n)
  omega
theorem RowopsWhole_pure (t : api_Table) (ot : ok_api_Table t) (n : Int) (on : (Lit.int .i64 n).wf = true) (i : Int) (oi : (Lit.int .i64 i).wf = true) : law16_RowopsWhole t n i = some true := by
  have hs := (szT_of ot).cut
  have hcl := cut_len t
  have hi := i64_range oi
  unfold law16_RowopsWhole
  rw [shown_ok, Option.bind_some, cut_eq', Option.bind_some, rcheck_eq hs.cols hs.rows, Option.bind_some]
  by_cases hz : checkS (cutS t) = 0
  · rw [if_neg (by simpa using hz)]
    have j0 : ∀ x : Int, 0 ≤ x → law16_RowopsWhole.j0 n true (cutS t) x = some true := fun x hx => by
      have hcc := cols_len (checkS_zero.1 hz).1
      unfold law16_RowopsWhole.j0
      rw [if_pos (by have : ((cutS t).Cols.length : Int) ≠ 0 := by omega
                     simpa using this)]
      obtain ⟨K, hK, eK⟩ := tmod_nat (n := (cutS t).Cols.length) hx (by omega)
      have hcK := List.getElem?_eq_getElem hK
      rw [eK, ix_of hcK, Option.bind_some]
      have hf := cols_find (checkS_zero.1 hz).1 hcK
      by_cases hk : ((cutS t).Cols[K]).Kind = 4
      · rw [if_pos (by simpa using hk)]; rfl
      · rw [if_neg (by simpa using hk)]
        by_cases hn1 : n < 1
        · rw [if_pos (by simpa using hn1)]; rfl
        · rw [if_neg (by simpa using hn1)]
          by_cases hn2 : n > 1000
          · rw [decide_eq_true hn2]; rfl
          · rw [decide_eq_false hn2]
            obtain ⟨m, rfl⟩ : ∃ m : Nat, n = (m : Int) := ⟨n.toNat, by omega⟩
            unfold law16_RowopsWhole.j1
            rw [if_neg (by decide), eK, ix_of hcK, Option.bind_some, top_eq hs hz (by omega) (by omega) hf hcK hk, Option.bind_some, Int.toNat_natCast]
            unfold law16_RowopsWhole.j2
            rw [rcanon_eq hs, Option.bind_some]
            by_cases hge : (m : Int) ≥ ((cutS t).Rows.length : Int)
            · rw [if_pos (by simpa using hge)]
              have e : topR K m (cutS t).Rows = sortC cmpR (cutS t).Rows := by
                unfold topR
                rw [List.take_of_length_le (by rw [sortC_len]; omega)]
                exact sortC_of_perm cmpR_cmp cmpR_zero (sortC_perm _ _)
              dsimp only
              rw [e, rsame_eq (show szT (⟨(cutS t).Cols, sortC cmpR (cutS t).Rows⟩ : api_Table) from hs.canon), Option.bind_some, if_pos rfl]
              simp [law16_RowopsWhole.j3, canonS]
            · rw [if_neg (by simpa using hge), if_neg (by simp)]
              have hlen := topR_len K m (cutS t).Rows
              have hlW : (topR K m (cutS t).Rows).length = m := by omega
              have hrow : ∀ r ∈ (cutS t).Rows, K < r.length ∧ (keyV K r).S.size < 4611686018427387904 := fun r hr => by
                have h1 : K < r.length := by rw [rowOk_len ((checkS_zero.1 hz).2 r hr)]; exact hK
                have := hs.s r hr _ (key_mem h1)
                exact ⟨h1, by omega⟩
              have hrW : ∀ r ∈ topR K m (cutS t).Rows, K < r.length ∧ (keyV K r).S.size < 4611686018427387904 := fun r hr => hrow r (topR_sub hr)
              have hne : ((((topR K m (cutS t).Rows).length : Nat) : Int) != (m : Int)) = false := by rw [hlW]; simp
              dsimp only
              rw [hne]
              unfold law16_RowopsWhole.j4
              rw [if_neg (by decide)]
              obtain ⟨w0, hw0, _⟩ := getE (l := topR K m (cutS t).Rows) (i := 0) (by omega)
              have hw0m := List.mem_of_getElem? hw0
              rw [show (0 : Int) = ((0 : Nat) : Int) from rfl, ix_of hw0, Option.bind_some, eK, ix_key (hrW w0 hw0m).1, Option.bind_some]
              obtain ⟨w, hw, hle, e5⟩ := whole_l5 (t := cutS t) (c := canonS (cutS t)) eK hlW (by omega) hrW (((m : Int) - ((0 : Nat) : Int)).toNat + 1) 0 (keyV K w0) ⟨w0, hw0m, rfl⟩ (fun j hj => by omega) (by omega) (by omega)
              rw [e5]
              have e7 := whole_l7 (t := cutS t) (c := canonS (cutS t)) (n := (m : Int)) (v := keyV K w) eK (by have := hs.canon.r; omega) (fun r hr => hrow r (mem_sortC.1 hr)) ((((canonS (cutS t)).Rows.length : Int) - 0).toNat + 1) 0 0 (by omega) (by omega) (by omega)
              have hcnt := whole_count (K := K) (n := m) (rows := (cutS t).Rows) (w := w) (by omega) hw hle (L := (canonS (cutS t)).Rows) (sortC_perm _ _)
              refine e7.trans ?_
              rw [List.drop_zero, Nat.zero_add, decide_eq_true (by omega)]
    by_cases hi0 : i < 0
    · rw [if_pos (by simpa using hi0), w64 (x := i + 1) (by omega) (by omega), w64 (by omega) (by omega)]
      exact j0 _ (by omega)
    · rw [if_neg (by simpa using hi0)]
      exact j0 _ (by omega)
  · rw [if_pos (by simpa using hz)]
end Go.Proofs.Ytjimddbbpjpgdaa.M
