/- Tables: what the reference answers. -/
import Derived.Test.YtabdokppkcgdlaaPure
import Derived.Test.YtabdokppkcgdlaaPLTs
import Derived.Test.YtabdokppkcgdlaaPLVw
import Derived.Test.YtabdokppkcgdlaaPLVr
namespace Go.Proofs.Ytabdokppkcgdlaa.M
open Go Go.Eng Go.Proofs Go.RowKit
set_option maxRecDepth 100000
set_option linter.unusedVariables false
set_option linter.unusedSimpArgs false

def Sz (xs : List (List api_Value)) : Prop := xs.length * 24 ≤ 140737488355328 ∧ ∀ r ∈ xs, okRow r
theorem merge_l0 {a b : List (List api_Value)} (ha : Sz a) (hb : Sz b) (hs : (a.length + b.length) * 24 ≤ 140737488355328) : ∀ (fuel : Nat) (out : List (List api_Value)) (i k : Nat), i ≤ a.length → k ≤ b.length → (a.length - i) + (b.length - k) < fuel → out.length = i + k →
    ref02_sorted.l0 a b fuel out (i : Int) (k : Int) = some (out ++ (a.drop i).merge (b.drop k) (leC cmpR))
  | 0, out, i, k, _, _, h, _ => by omega
  | fuel + 1, out, i, k, h1, h2, h3, h4 => by
    have ha1 := ha.1
    have hb1 := hb.1
    have takeA : ∀ (hi : i < a.length), (∀ {r : List (List api_Value)}, a.drop i = a[i] :: a.drop (i + 1) → (a.drop i).merge (b.drop k) (leC cmpR) = a[i] :: (a.drop (i + 1)).merge (b.drop k) (leC cmpR)) →
        ref02_sorted.j2 (ref02_sorted.l0 a b fuel) a b out (i : Int) (k : Int) true = some (out ++ (a.drop i).merge (b.drop k) (leC cmpR)) := fun hi hm => by
      obtain ⟨x, hx, ex⟩ := getE hi
      have e : a[i] = x := by rw [List.getElem?_eq_getElem hi] at hx; exact Option.some.inj hx
      unfold ref02_sorted.j2
      rw [if_pos rfl, ix_of hx, Option.bind_some, apd_of (by simp only [List.length_singleton]; omega), Option.bind_some]
      unfold ref02_sorted.j3
      rw [w64_nat i (by omega), merge_l0 ha hb hs fuel (out ++ [x]) (i + 1) k (by omega) h2 (by omega) (by simp; omega), hm (r := []) (by rw [e]; exact ex), e]
      simp
    have takeB : ∀ (hk : k < b.length), (∀ {r : List (List api_Value)}, b.drop k = b[k] :: b.drop (k + 1) → (a.drop i).merge (b.drop k) (leC cmpR) = b[k] :: (a.drop i).merge (b.drop (k + 1)) (leC cmpR)) →
        ref02_sorted.j2 (ref02_sorted.l0 a b fuel) a b out (i : Int) (k : Int) false = some (out ++ (a.drop i).merge (b.drop k) (leC cmpR)) := fun hk hm => by
      obtain ⟨x, hx, ex⟩ := getE hk
      have e : b[k] = x := by rw [List.getElem?_eq_getElem hk] at hx; exact Option.some.inj hx
      unfold ref02_sorted.j2
      rw [if_neg (by simp), ix_of hx, Option.bind_some, apd_of (by simp only [List.length_singleton]; omega), Option.bind_some]
      unfold ref02_sorted.j3
      rw [w64_nat k (by omega), merge_l0 ha hb hs fuel (out ++ [x]) i (k + 1) h1 (by omega) (by omega) (by simp; omega), hm (r := []) (by rw [e]; exact ex), e]
      simp
    have body : i < a.length ∨ k < b.length → ref02_sorted.j1 (ref02_sorted.l0 a b fuel) a b out (i : Int) (k : Int) true = some (out ++ (a.drop i).merge (b.drop k) (leC cmpR)) := fun hor => by
      unfold ref02_sorted.j1
      rw [if_pos rfl]
      by_cases hk : k = b.length
      · rw [if_pos (by simp [hk])]
        refine takeA (by omega) fun e => ?_
        rw [List.drop_of_length_le (l := b) (by omega), List.merge_right, List.merge_right]; exact e
      · rw [if_neg (by simp; omega)]
        have hk' : k < b.length := by omega
        by_cases hi : i < a.length
        · obtain ⟨x, hx, ex⟩ := getE hi
          obtain ⟨y, hy, ey⟩ := getE hk'
          have e1 : a[i] = x := by rw [List.getElem?_eq_getElem hi] at hx; exact Option.some.inj hx
          have e2 : b[k] = y := by rw [List.getElem?_eq_getElem hk'] at hy; exact Option.some.inj hy
          rw [if_pos (dlt hi), ix_of hx, Option.bind_some, ix_of hy, Option.bind_some, refRow_eq (ha.2 x (List.mem_of_getElem? hx)), Option.bind_some]
          by_cases hc : cmpR x y ≤ 0
          · rw [show decide (cmpR x y ≤ 0) = true by simpa using hc]
            refine takeA hi fun _ => ?_
            rw [e1, ex, ey, List.cons_merge_cons, if_pos (by simpa [leC] using hc)]
          · rw [show decide (cmpR x y ≤ 0) = false by simpa using hc]
            refine takeB hk' fun _ => ?_
            rw [e2, ex, ey, List.cons_merge_cons, if_neg (by simpa [leC] using hc)]
        · rw [if_neg (dnl (by omega))]
          refine takeB hk' fun e => ?_
          rw [List.drop_of_length_le (l := a) (by omega), List.nil_merge, List.nil_merge]; exact e
    rw [ref02_sorted.l0]
    by_cases hi : i < a.length
    · rw [if_pos (dlt hi)]; exact body (Or.inl hi)
    · rw [if_neg (dnl (by omega))]
      by_cases hk : k < b.length
      · rw [show decide ((k : Int) < (b.length : Int)) = true from dlt hk]; exact body (Or.inr hk)
      · rw [show decide ((k : Int) < (b.length : Int)) = false by simpa using hk]
        unfold ref02_sorted.j1
        rw [if_neg (by simp), List.drop_of_length_le (l := a) (by omega), List.drop_of_length_le (l := b) (by omega), List.nil_merge, List.append_nil]
theorem sorted_r : ∀ (fuel : Nat) (xs : List (List api_Value)), xs.length < fuel → Sz xs → ref02_sorted.r fuel xs = some (sortC cmpR xs)
  | 0, xs, h, _ => by omega
  | fuel + 1, xs, h, hx => by
    have hx1 := hx.1
    rw [ref02_sorted.r, ref02_sorted.b]
    by_cases h2 : xs.length < 2
    · rw [if_pos (by simp; omega), apd_of (by simpa using hx1), Option.bind_some, List.nil_append]
      congr 1
      symm
      refine sortC_self cmpR_cmp cmpR_zero ?_
      match xs, h2 with
      | [], _ => exact List.Pairwise.nil
      | [x], _ => exact List.pairwise_singleton _ _
    · have hd : IntKind.i64.wrap ((xs.length : Int).tdiv 2) = ((xs.length / 2 : Nat) : Int) := by
        rw [Int.tdiv_eq_ediv_of_nonneg (by omega), w64 (by omega) (by omega)]; omega
      rw [if_neg (by simp; omega), hd, cut_of (by omega) (by omega) (by omega), Option.bind_some, cut_of (by omega) (by omega) (by omega)]
      simp only [Int.toNat_zero, List.drop_zero, Int.toNat_natCast, Nat.sub_zero, Option.bind_some]
      have eb : (xs.drop (xs.length / 2)).take (xs.length - xs.length / 2) = xs.drop (xs.length / 2) := List.take_of_length_le (by simp)
      rw [eb]
      have sa : Sz (xs.take (xs.length / 2)) := ⟨by rw [List.length_take]; omega, fun r hr => hx.2 r (List.mem_of_mem_take hr)⟩
      have sb : Sz (xs.drop (xs.length / 2)) := ⟨by rw [List.length_drop]; omega, fun r hr => hx.2 r (List.mem_of_mem_drop hr)⟩
      rw [sorted_r fuel _ (by rw [List.length_take]; omega) sa, Option.bind_some, sorted_r fuel _ (by rw [List.length_drop]; omega) sb, Option.bind_some]
      have ta : Sz (sortC cmpR (xs.take (xs.length / 2))) := ⟨by rw [sortC_len]; exact sa.1, fun r hr => sa.2 r (mem_sortC.1 hr)⟩
      have tb : Sz (sortC cmpR (xs.drop (xs.length / 2))) := ⟨by rw [sortC_len]; exact sb.1, fun r hr => sb.2 r (mem_sortC.1 hr)⟩
      have la : (sortC cmpR (xs.take (xs.length / 2))).length = xs.length / 2 := by rw [sortC_len, List.length_take]; omega
      have lb : (sortC cmpR (xs.drop (xs.length / 2))).length = xs.length - xs.length / 2 := by rw [sortC_len, List.length_drop]
      have hm := fun F hF => merge_l0 ta tb (by omega) F [] 0 0 (Nat.zero_le _) (Nat.zero_le _) hF rfl
      rw [show (0 : Int) = ((0 : Nat) : Int) from rfl, hm _ (by omega)]
      simp only [List.drop_zero, List.nil_append]
      congr 1
      refine asc_uniq cmpR_cmp cmpR_zero ?_ (sortC_asc cmpR_cmp xs) ?_
      · have := List.pairwise_merge (le := leC cmpR) (fun x y z h1 h2 => by
          simp only [leC, decide_eq_true_eq] at *
          exact cmpR_cmp.trans x y z h1 h2) (fun x y => by
          have := cmpR_cmp.flip x y
          simp only [leC, Bool.or_eq_true, decide_eq_true_eq]
          omega) (sortC cmpR (xs.take (xs.length / 2))) (sortC cmpR (xs.drop (xs.length / 2))) ((sortC_asc cmpR_cmp _).imp fun h => by simpa [leC] using h) ((sortC_asc cmpR_cmp _).imp fun h => by simpa [leC] using h)
        exact this.imp fun h => by simpa [leC] using h
      · refine (List.merge_perm_append (leC cmpR)).trans (((sortC_perm cmpR _).append (sortC_perm cmpR _)).trans ?_)
        rw [List.take_append_drop]
        exact (sortC_perm cmpR xs).symm
theorem sorted_eq {xs : List (List api_Value)} (h : Sz xs) : ref02_sorted xs = some (sortC cmpR xs) := sorted_r _ xs (Nat.lt_succ_self _) h
theorem szT.sz {t : api_Table} (h : szT t) : Sz t.Rows := ⟨by have := h.r; omega, fun r hr => h.row hr⟩
theorem rcanon_eq' {t : api_Table} (hc : t.Cols.length * 24 ≤ 140737488355328) (hr : Sz t.Rows) : ref02_Canon t = some (canonS t) := by
  unfold ref02_Canon
  rw [apd_of (by simpa using hc), Option.bind_some, sorted_eq hr, Option.bind_some, List.nil_append]; rfl
theorem rcanon_eq {t : api_Table} (h : szT t) : ref02_Canon t = some (canonS t) := rcanon_eq' (by have := h.c; omega) h.sz
theorem rsc_l0 {a b : List api_Col} (hn : a.length < 4611686018427387904) (hl : a.length = b.length) : ∀ (fuel i : Nat), i ≤ a.length → a.length < i + fuel →
    ref02_SameCols.l0 a b fuel (i : Int) = some (decide (a.drop i = b.drop i))
  | 0, i, _, h => by omega
  | fuel + 1, i, h1, h2 => by
    rw [ref02_SameCols.l0]
    by_cases hi : i < a.length
    · obtain ⟨x, hx, ex⟩ := getE hi
      obtain ⟨y, hy, ey⟩ := getE (l := b) (i := i) (by omega)
      rw [if_pos (dlt hi), ix_of hx, Option.bind_some, ix_of hy, Option.bind_some, ex, ey, w64_nat i (by omega), rsc_l0 hn hl fuel (i + 1) (by omega) (by omega)]
      by_cases e : x = y <;> simp [e]
    · rw [if_neg (dnl (by omega)), List.drop_of_length_le (by omega), List.drop_of_length_le (by omega)]; simp
theorem rsc_eq {a b : List api_Col} (hn : a.length < 4611686018427387904) : ref02_SameCols a b = some (decide (a = b)) := by
  unfold ref02_SameCols
  by_cases hl : a.length = b.length
  · rw [if_neg (by simp [hl]), fuel_nat]
    exact rsc_l0 hn hl _ 0 (Nat.zero_le _) (by omega)
  · rw [if_pos (by simp; omega)]
    have : a ≠ b := fun e => hl (by rw [e])
    simp [this]
theorem rsm_l1 {a b : api_Table} (hn : Sz a.Rows) (hl : a.Rows.length = b.Rows.length) : ∀ (fuel i : Nat), i ≤ a.Rows.length → a.Rows.length < i + fuel →
    ref02_Same.l1 a b fuel (i : Int) = some (decide (a.Rows.drop i = b.Rows.drop i))
  | 0, i, _, h => by omega
  | fuel + 1, i, h1, h2 => by
    have hn1 := hn.1
    rw [ref02_Same.l1]
    by_cases hi : i < a.Rows.length
    · obtain ⟨x, hx, ex⟩ := getE hi
      obtain ⟨y, hy, ey⟩ := getE (l := b.Rows) (i := i) (by omega)
      rw [if_pos (dlt hi), ix_of hx, Option.bind_some, ix_of hy, Option.bind_some, refRow_eq (hn.2 x (List.mem_of_getElem? hx)), Option.bind_some, ex, ey, w64_nat i (by omega), rsm_l1 hn hl fuel (i + 1) (by omega) (by omega)]
      by_cases e : cmpR x y = 0
      · rw [if_neg (by simp [e])]
        have := cmpR_zero x y e
        simp [this]
      · have hne : x ≠ y := fun h => e (by rw [h]; exact cmpR_self y)
        rw [if_pos (by simpa using e)]
        simp [hne]
    · rw [if_neg (dnl (by omega)), List.drop_of_length_le (by omega), List.drop_of_length_le (by omega)]; simp
theorem rsame_eq' {a b : api_Table} (hc : a.Cols.length < 4611686018427387904) (hr : Sz a.Rows) : ref02_Same a b = some (decide (a = b)) := by
  unfold ref02_Same ref02_Same.j0
  rw [rsc_eq hc, Option.bind_some]
  obtain ⟨c, r⟩ := a
  obtain ⟨c', r'⟩ := b
  by_cases e : c = c'
  · subst e
    by_cases hl : r.length = r'.length
    · have := rsm_l1 (a := ⟨c, r⟩) (b := ⟨c, r'⟩) hr hl (r.length + 1) 0 (Nat.zero_le _) (by simp)
      simp only [decide_true, Bool.not_true, Bool.false_eq_true, if_false, hl, bne_self_eq_false, fuel_nat] at this ⊢
      rw [show ((0 : Nat) : Int) = 0 from rfl] at this
      rw [this]; simp
    · have : r ≠ r' := fun e => hl (by rw [e])
      simp [hl, this, show ¬ ((r.length : Int) = (r'.length : Int)) by omega]
  · simp [e]
theorem rsame_eq {a b : api_Table} (h : szT a) : ref02_Same a b = some (decide (a = b)) := rsame_eq' h.cols.1 h.sz
theorem runion_eq {a b : api_Table} (ha : szT a) (hb : szT b) (h : (a.Rows.length + b.Rows.length) * 24 ≤ 140737488355328) : ref02_Union a b = some (unionS a b) := by
  unfold ref02_Union
  rw [rcheck_eq ha.cols ha.rows, Option.bind_some]
  by_cases h1 : checkS a = 0
  · rw [if_pos (by simp [h1]), rcheck_eq hb.cols hb.rows, Option.bind_some]
    unfold ref02_Union.j0
    by_cases h2 : checkS b = 0
    · rw [if_neg (by simp [h2]), rsc_eq ha.cols.1, Option.bind_some]
      by_cases h3 : a.Cols = b.Cols
      · have e : unionS a b = (canonS ⟨a.Cols, a.Rows ++ b.Rows⟩, 0) := by unfold unionS; rw [if_neg (by simp [h1]), if_neg (by simp [h2]), if_neg (by simp [h3])]
        have hcn : ref02_Canon ⟨a.Cols, a.Rows ++ b.Rows⟩ = some (canonS ⟨a.Cols, a.Rows ++ b.Rows⟩) := rcanon_eq' (t := ⟨a.Cols, a.Rows ++ b.Rows⟩) (show a.Cols.length * 24 ≤ _ by have := ha.c; omega) ⟨by simpa using h, fun r hr => by
          rcases List.mem_append.1 hr with hr | hr
          · exact ha.row hr
          · exact hb.row hr⟩
        rw [e, if_neg (by simp [h3]), apd_of (by have := ha.r; simp; omega), Option.bind_some, List.nil_append, apd_of h, Option.bind_some, hcn]; rfl
      · have e : unionS a b = (none2, 20) := by unfold unionS; rw [if_neg (by simp [h1]), if_neg (by simp [h2]), if_pos h3]
        rw [e, if_pos (by simp [h3])]; rfl
    · have e : unionS a b = (none2, checkS b) := by unfold unionS; rw [if_neg (by simp [h1]), if_pos h2]
      rw [e, if_pos (by simpa using h2)]; rfl
  · have e : unionS a b = (none2, checkS a) := by unfold unionS; rw [if_pos h1]
    rw [e, if_neg (by simpa using h1)]
    unfold ref02_Union.j0
    rw [if_pos (by simpa using h1)]; rfl
theorem places_map {cols : List api_Col} : ∀ {names : List ByteArray} {acc at_ : List Int}, placesS cols acc names = some at_ → at_ = acc ++ names.map (findS cols)
  | [], acc, at_, h => by simp only [placesS, Option.some.injEq] at h; subst h; simp
  | n :: r, acc, at_, h => by
    rw [placesS] at h
    split at h
    · cases h
    · rw [places_map h]; simp
theorem places_lt {cols : List api_Col} : ∀ {names : List ByteArray} {acc at_ : List Int}, placesS cols acc names = some at_ → ∀ n ∈ names, 0 ≤ findS cols n
  | [], acc, at_, h, n, hn => by cases hn
  | m :: r, acc, at_, h, n, hn => by
    rw [placesS] at h
    split at h
    · cases h
    · rename_i h1
      cases hn with
      | head => omega
      | tail _ hn => exact places_lt h n hn
theorem rkeep_l3 {t : api_Table} {names : List ByteArray} {kl : List (List api_Value) → Int → Option (api_Table × Int)} {acc : List (List api_Value)} {m : Nat} {row : List api_Value} (hm : t.Rows[m]? = some row) (hc : t.Cols.length < 4611686018427387904) (hk : ∀ n ∈ names, 0 ≤ findS t.Cols n) (hl : row.length = t.Cols.length) (hn : names.length ≤ 1000) (ha : (acc.length + 1) * 24 ≤ 140737488355328) : ∀ (fuel i : Nat), i ≤ names.length → names.length < i + fuel →
    ref02_Keep.l3 kl t names acc (m : Int) fuel (pickS ((names.take i).map (findS t.Cols)) row) (i : Int) = kl (acc ++ [pickS (names.map (findS t.Cols)) row]) (IntKind.i64.wrap ((m : Int) + 1))
  | 0, i, _, h => by omega
  | fuel + 1, i, h1, h2 => by
    rw [ref02_Keep.l3]
    by_cases hi : i < names.length
    · obtain ⟨n, hx, ex⟩ := getE hi
      have k0 := hk n (List.mem_of_getElem? hx)
      have k1 := findS_ge t.Cols n
      have kl' : (findS t.Cols n).toNat < row.length := by omega
      have hr : row[(findS t.Cols n).toNat]? = some row[(findS t.Cols n).toNat] := List.getElem?_eq_getElem kl'
      have hix : ix row (findS t.Cols n) = some row[(findS t.Cols n).toNat] := by unfold ix; rw [if_pos k0, hr]
      have hlen : (pickS ((names.take i).map (findS t.Cols)) row).length ≤ i := by
        unfold pickS
        exact Nat.le_trans (List.length_filterMap_le _ _) (by simp; omega)
      rw [if_pos (dlt hi), ix_of hm, Option.bind_some, ix_of hx, Option.bind_some, rfind_eq hc, Option.bind_some, hix, Option.bind_some, apd_of (by simp only [List.length_singleton]; omega), Option.bind_some, w64_nat i (by omega)]
      have e : pickS ((names.take i).map (findS t.Cols)) row ++ [row[(findS t.Cols n).toNat]] = pickS ((names.take (i + 1)).map (findS t.Cols)) row := by
        rw [List.take_add_one, hx]
        simp [pickS, List.filterMap_append, hr]
      rw [e]
      exact rkeep_l3 hm hc hk hl hn ha fuel (i + 1) (by omega) (by omega)
    · rw [if_neg (dnl (by omega)), List.take_of_length_le (by omega), apd_of (by simpa using ha), Option.bind_some]
theorem rkeep_l2 {t : api_Table} {names : List ByteArray} {cols : List api_Col} (ht : szT t) (hk : ∀ n ∈ names, 0 ≤ findS t.Cols n) (hl : ∀ row ∈ t.Rows, row.length = t.Cols.length) (hn : names.length ≤ 1000) (hc : cols.length * 24 ≤ 140737488355328) : ∀ (fuel i : Nat), i ≤ t.Rows.length → t.Rows.length < i + fuel →
    ref02_Keep.l2 t names cols fuel ((t.Rows.take i).map (pickS (names.map (findS t.Cols)))) (i : Int) = some (canonS ⟨cols, t.Rows.map (pickS (names.map (findS t.Cols)))⟩, 0)
  | 0, i, _, h => by omega
  | fuel + 1, i, h1, h2 => by
    have hr := ht.r
    rw [ref02_Keep.l2]
    by_cases hi : i < t.Rows.length
    · obtain ⟨r, hx, ex⟩ := getE hi
      have h3 := rkeep_l3 (t := t) (names := names) (kl := ref02_Keep.l2 t names cols fuel) (acc := (t.Rows.take i).map (pickS (names.map (findS t.Cols)))) hx ht.cols.1 hk (hl r (List.mem_of_getElem? hx)) hn (by simp only [List.length_map, List.length_take]; omega) (names.length + 1) 0 (Nat.zero_le _) (by omega)
      rw [show ((0 : Nat) : Int) = 0 from rfl, show pickS ((names.take 0).map (findS t.Cols)) r = [] from rfl] at h3
      rw [if_pos (dlt hi), fuel_nat, h3, w64_nat i (by omega)]
      have e : (t.Rows.take i).map (pickS (names.map (findS t.Cols))) ++ [pickS (names.map (findS t.Cols)) r] = (t.Rows.take (i + 1)).map (pickS (names.map (findS t.Cols))) := by rw [List.take_add_one, hx]; simp
      rw [e]
      exact rkeep_l2 ht hk hl hn hc fuel (i + 1) (by omega) (by omega)
    · have hcn : ref02_Canon ⟨cols, t.Rows.map (pickS (names.map (findS t.Cols)))⟩ = some (canonS ⟨cols, t.Rows.map (pickS (names.map (findS t.Cols)))⟩) := rcanon_eq' (t := ⟨cols, t.Rows.map (pickS (names.map (findS t.Cols)))⟩) hc ⟨show (t.Rows.map _).length * 24 ≤ _ by rw [List.length_map]; omega, fun r hr => by
        obtain ⟨q, hq, rfl⟩ := List.mem_map.1 hr
        have : (pickS (names.map (findS t.Cols)) q).length ≤ (names.map (findS t.Cols)).length := List.length_filterMap_le _ _
        rw [List.length_map] at this
        refine ⟨by omega, fun v hv => ?_⟩
        obtain ⟨k, _, hk⟩ := List.mem_filterMap.1 hv
        exact (ht.row hq).2 v (List.mem_of_getElem? hk)⟩
      rw [if_neg (dnl (by omega)), List.take_of_length_le (by omega), hcn]; rfl
/-- Each place is the first of its name. -/
def First (cols : List api_Col) (acc : List Int) : Prop := ∀ k ∈ acc, 0 ≤ k ∧ ∃ c, cols[k.toNat]? = some c ∧ findS cols c.Name = k
theorem first_find {cols : List api_Col} {acc : List Int} (h : First cols acc) (n : ByteArray) (hf : 0 ≤ findS cols n) : 0 ≤ findS (pickS acc cols) n ↔ findS cols n ∈ acc := by
  constructor
  · intro h1
    obtain ⟨i, c, _, h3, h4, _⟩ := findS_some h1
    obtain ⟨k, hk, hk2⟩ := List.mem_filterMap.1 (List.mem_of_getElem? h3)
    obtain ⟨_, d, hd1, hd2⟩ := h k hk
    rw [hk2] at hd1
    have := Option.some.inj hd1
    subst this
    rw [h4] at hd2
    rw [hd2]; exact hk
  · intro h1
    obtain ⟨_, c, hc1, hc2⟩ := h _ h1
    obtain ⟨i, d, h2, h3, h4, _⟩ := findS_some hf
    rcases Int.lt_or_le (findS (pickS acc cols) n) 0 with h5 | h5
    · exfalso
      have h6 : findS (pickS acc cols) n = -1 := by have := findS_ge (pickS acc cols) n; omega
      have h7 := findS_none.1 h6
      have hd : cols[(findS cols n).toNat]? = some d := by rw [h2]; simpa using h3
      exact h7 d (List.mem_filterMap.2 ⟨_, h1, hd⟩) h4
    · exact h5
theorem rkeep_l0 {t : api_Table} {all : List ByteArray} (ht : szT t) (hk : ∀ row ∈ t.Rows, row.length = t.Cols.length) (hn : all.length ≤ 1000) : ∀ (fuel i : Nat) (acc : List Int), i ≤ all.length → all.length < i + fuel → acc = (all.take i).map (findS t.Cols) → First t.Cols acc → (∀ n ∈ all.take i, 0 ≤ findS t.Cols n) →
    ref02_Keep.l0 t all fuel (pickS acc t.Cols) (i : Int) = some (match placesS t.Cols acc (all.drop i) with
      | none => (none2, 20)
      | some at_ => if all = [] then (none2, 20) else (canonS ⟨pickS at_ t.Cols, t.Rows.map (pickS at_)⟩, 0))
  | 0, i, _, _, h, _, _, _ => by omega
  | fuel + 1, i, acc, h1, h2, h3, h4, h5 => by
    have hc1 := ht.cols.1
    have hal : acc.length ≤ i := by rw [h3]; simp; omega
    have hlen : (pickS acc t.Cols).length ≤ i := Nat.le_trans (List.length_filterMap_le _ _) hal
    rw [ref02_Keep.l0]
    by_cases hi : i < all.length
    · obtain ⟨n, hx, ex⟩ := getE hi
      rw [if_pos (dlt hi), ix_of hx, Option.bind_some, rfind_eq hc1, Option.bind_some, ex, placesS]
      have hg := findS_ge t.Cols n
      by_cases hf : findS t.Cols n < 0
      · rw [if_pos (by simpa using hf), if_pos (Or.inl hf)]
        unfold ref02_Keep.j1; rw [if_pos rfl]; rfl
      · rw [if_neg (by simpa using hf), Option.bind_some, rfind_eq (by omega), Option.bind_some]
        unfold ref02_Keep.j1
        have hff := first_find h4 n (by omega)
        by_cases hm : findS t.Cols n ∈ acc
        · rw [if_pos (by simpa using hff.2 hm), if_pos (Or.inr hm)]; rfl
        · obtain ⟨j, c, e1, e2, e3, _⟩ := findS_some (cols := t.Cols) (name := n) (by omega)
          have hix : ix t.Cols (findS t.Cols n) = some c := by rw [e1]; exact ix_of e2
          rw [if_neg (by simp only [decide_eq_true_eq]; exact fun h => hm (hff.1 h)), if_neg (by simp only [hm, hf, or_self, not_false_eq_true]), hix, Option.bind_some, apd_of (by simp only [List.length_singleton]; omega), Option.bind_some, w64_nat i (by omega)]
          have hr : t.Cols[(findS t.Cols n).toNat]? = some c := by rw [e1]; simpa using e2
          have e : pickS acc t.Cols ++ [c] = pickS (acc ++ [findS t.Cols n]) t.Cols := by simp [pickS, List.filterMap_append, hr]
          rw [e]
          have et : all.take (i + 1) = all.take i ++ [n] := by rw [List.take_add_one, hx]; rfl
          refine rkeep_l0 ht hk hn fuel (i + 1) _ (by omega) (by omega) (by rw [et, h3]; simp) (fun k hk => ?_) (fun m hm => ?_)
          · rcases List.mem_append.1 hk with hk | hk
            · exact h4 k hk
            · rw [List.mem_singleton] at hk; subst hk
              exact ⟨by omega, c, hr, by rw [e3]⟩
          · rw [et] at hm
            rcases List.mem_append.1 hm with hm | hm
            · exact h5 m hm
            · rw [List.mem_singleton] at hm; subst hm; omega
    · have e0 : all.drop i = [] := List.drop_of_length_le (by omega)
      have et : all.take i = all := List.take_of_length_le (by omega)
      rw [if_neg (dnl (by omega)), e0]
      simp only [placesS]
      rw [et] at h3 h5
      by_cases hz : all = []
      · subst hz
        rw [if_pos (by simp), if_pos rfl]; rfl
      · have : all.length ≠ 0 := fun h => hz (List.eq_nil_of_length_eq_zero h)
        rw [if_neg (by simp; exact hz), if_neg hz, fuel_nat, h3]
        have := rkeep_l2 (t := t) (names := all) (cols := pickS (all.map (findS t.Cols)) t.Cols) ht h5 hk hn (by rw [← h3]; omega) (t.Rows.length + 1) 0 (Nat.zero_le _) (by omega)
        exact this
theorem rkeep_eq {t : api_Table} {names : List ByteArray} (ht : szT t) (hn : names.length ≤ 1000) : ref02_Keep t names = some (keepS t names) := by
  unfold ref02_Keep keepS
  rw [rcheck_eq ht.cols ht.rows, Option.bind_some]
  by_cases h : checkS t = 0
  · rw [if_neg (by simp [h]), if_neg (by simp [h]), fuel_nat]
    have := rkeep_l0 (all := names) ht (fun row hr => rowOk_len ((checkS_zero.1 h).2 row hr)) hn (names.length + 1) 0 [] (Nat.zero_le _) (by omega) rfl (fun _ h => nomatch h) (by simp)
    exact this
  · rw [if_pos (by simpa using h), if_pos h]; rfl
end Go.Proofs.Ytabdokppkcgdlaa.M
