/- The reference: canonical order, sameness. -/
import Derived.Test.YtjklfkiaebipnaaPure
import Derived.Test.YtjklfkiaebipnaaPLTs
import Derived.Test.YtjklfkiaebipnaaPLVw
import Derived.Test.YtjklfkiaebipnaaPLVr
namespace Go.Proofs.Ytjklfkiaebipnaa.M
open Go Go.Eng Go.Proofs Go.RowKit
set_option maxRecDepth 100000
set_option linter.unusedVariables false
set_option linter.unusedSimpArgs false

def Sz (xs : List (List api_Value)) : Prop := xs.length * 24 ≤ 140737488355328 ∧ ∀ r ∈ xs, okRow r
theorem merge_l0 {a b : List (List api_Value)} (ha : Sz a) (hb : Sz b) (hs : (a.length + b.length) * 24 ≤ 140737488355328) : ∀ (fuel : Nat) (out : List (List api_Value)) (i k : Nat), i ≤ a.length → k ≤ b.length → (a.length - i) + (b.length - k) < fuel → out.length = i + k →
    ref02_sorted.l0 a b fuel out (i : Int) (k : Int) = some (out ++ (a.drop i).merge (b.drop k) (leC cmpR))
  | 0, out, i, k, _, _, h, _ => by omega
  | fuel + 1, out, i, k, h1, h2, h3, h4 => by
    have ha1 := ha.1
    have hb1 := hb.1
    have takeA : ∀ (hi : i < a.length), (∀ {r : List (List api_Value)}, a.drop i = a[i] :: a.drop (i + 1) → (a.drop i).merge (b.drop k) (leC cmpR) = a[i] :: (a.drop (i + 1)).merge (b.drop k) (leC cmpR)) →
        ref02_sorted.j2 (ref02_sorted.l0 a b fuel) a b out (i : Int) (k : Int) true = some (out ++ (a.drop i).merge (b.drop k) (leC cmpR)) := fun hi hm => by
      obtain ⟨x, hx, ex⟩ := getE hi
      have e : a[i] = x := by rw [List.getElem?_eq_getElem hi] at hx; exact Option.some.inj hx
      unfold ref02_sorted.j2
      rw [if_pos rfl, ix_of hx, Option.bind_some, apd_of (by simp only [List.length_singleton]; omega), Option.bind_some]
      unfold ref02_sorted.j3
      rw [w64_nat i (by omega), merge_l0 ha hb hs fuel (out ++ [x]) (i + 1) k (by omega) h2 (by omega) (by simp; omega), hm (r := []) (by rw [e]; exact ex), e]
      simp
    have takeB : ∀ (hk : k < b.length), (∀ {r : List (List api_Value)}, b.drop k = b[k] :: b.drop (k + 1) → (a.drop i).merge (b.drop k) (leC cmpR) = b[k] :: (a.drop i).merge (b.drop (k + 1)) (leC cmpR)) →
        ref02_sorted.j2 (ref02_sorted.l0 a b fuel) a b out (i : Int) (k : Int) false = some (out ++ (a.drop i).merge (b.drop k) (leC cmpR)) := fun hk hm => by
      obtain ⟨x, hx, ex⟩ := getE hk
      have e : b[k] = x := by rw [List.getElem?_eq_getElem hk] at hx; exact Option.some.inj hx
      unfold ref02_sorted.j2
      rw [if_neg (by simp), ix_of hx, Option.bind_some, apd_of (by simp only [List.length_singleton]; omega), Option.bind_some]
      unfold ref02_sorted.j3
      rw [w64_nat k (by omega), merge_l0 ha hb hs fuel (out ++ [x]) i (k + 1) h1 (by omega) (by omega) (by simp; omega), hm (r := []) (by rw [e]; exact ex), e]
      simp
    have body : i < a.length ∨ k < b.length → ref02_sorted.j1 (ref02_sorted.l0 a b fuel) a b out (i : Int) (k : Int) true = some (out ++ (a.drop i).merge (b.drop k) (leC cmpR)) := fun hor => by
      unfold ref02_sorted.j1
      rw [if_pos rfl]
      by_cases hk : k = b.length
      · rw [if_pos (by simp [hk])]
        refine takeA (by omega) fun e => ?_
        rw [List.drop_of_length_le (l := b) (by omega), List.merge_right, List.merge_right]; exact e
      · rw [if_neg (by simp; omega)]
        have hk' : k < b.length := by omega
        by_cases hi : i < a.length
        · obtain ⟨x, hx, ex⟩ := getE hi
          obtain ⟨y, hy, ey⟩ := getE hk'
          have e1 : a[i] = x := by rw [List.getElem?_eq_getElem hi] at hx; exact Option.some.inj hx
          have e2 : b[k] = y := by rw [List.getElem?_eq_getElem hk'] at hy; exact Option.some.inj hy
          rw [if_pos (dlt hi), ix_of hx, Option.bind_some, ix_of hy, Option.bind_some, refRow_eq (ha.2 x (List.mem_of_getElem? hx)), Option.bind_some]
          by_cases hc : cmpR x y ≤ 0
          · rw [show decide (cmpR x y ≤ 0) = true by simpa using hc]
            refine takeA hi fun _ => ?_
            rw [e1, ex, ey, List.cons_merge_cons, if_pos (by simpa [leC] using hc)]
          · rw [show decide (cmpR x y ≤ 0) = false by simpa using hc]
            refine takeB hk' fun _ => ?_
            rw [e2, ex, ey, List.cons_merge_cons, if_neg (by simpa [leC] using hc)]
        · rw [if_neg (dnl (by omega))]
          refine takeB hk' fun e => ?_
          rw [List.drop_of_length_le (l := a) (by omega), List.nil_merge, List.nil_merge]; exact e
    rw [ref02_sorted.l0]
    by_cases hi : i < a.length
    · rw [if_pos (dlt hi)]; exact body (Or.inl hi)
    · rw [if_neg (dnl (by omega))]
      by_cases hk : k < b.length
      · rw [show decide ((k : Int) < (b.length : Int)) = true from dlt hk]; exact body (Or.inr hk)
      · rw [show decide ((k : Int) < (b.length : Int)) = false by simpa using hk]
        unfold ref02_sorted.j1
        rw [if_neg (by simp), List.drop_of_length_le (l := a) (by omega), List.drop_of_length_le (l := b) (by omega), List.nil_merge, List.append_nil]
theorem sorted_r : ∀ (fuel : Nat) (xs : List (List api_Value)), xs.length < fuel → Sz xs → ref02_sorted.r fuel xs = some (sortC cmpR xs)
  | 0, xs, h, _ => by omega
  | fuel + 1, xs, h, hx => by
    have hx1 := hx.1
    rw [ref02_sorted.r, ref02_sorted.b]
    by_cases h2 : xs.length < 2
    · rw [if_pos (by simp; omega), apd_of (by simpa using hx1), Option.bind_some, List.nil_append]
      congr 1
      symm
      refine sortC_self cmpR_cmp cmpR_zero ?_
      match xs, h2 with
      | [], _ => exact List.Pairwise.nil
      | [x], _ => exact List.pairwise_singleton _ _
    · have hd : IntKind.i64.wrap ((xs.length : Int).tdiv 2) = ((xs.length / 2 : Nat) : Int) := by
        rw [Int.tdiv_eq_ediv_of_nonneg (by omega), w64 (by omega) (by omega)]; omega
      rw [if_neg (by simp; omega), hd, cut_of (by omega) (by omega) (by omega), Option.bind_some, cut_of (by omega) (by omega) (by omega)]
      simp only [Int.toNat_zero, List.drop_zero, Int.toNat_natCast, Nat.sub_zero, Option.bind_some]
      have eb : (xs.drop (xs.length / 2)).take (xs.length - xs.length / 2) = xs.drop (xs.length / 2) := List.take_of_length_le (by simp)
      rw [eb]
      have sa : Sz (xs.take (xs.length / 2)) := ⟨by rw [List.length_take]; omega, fun r hr => hx.2 r (List.mem_of_mem_take hr)⟩
      have sb : Sz (xs.drop (xs.length / 2)) := ⟨by rw [List.length_drop]; omega, fun r hr => hx.2 r (List.mem_of_mem_drop hr)⟩
      rw [sorted_r fuel _ (by rw [List.length_take]; omega) sa, Option.bind_some, sorted_r fuel _ (by rw [List.length_drop]; omega) sb, Option.bind_some]
      have ta : Sz (sortC cmpR (xs.take (xs.length / 2))) := ⟨by rw [sortC_len]; exact sa.1, fun r hr => sa.2 r (mem_sortC.1 hr)⟩
      have tb : Sz (sortC cmpR (xs.drop (xs.length / 2))) := ⟨by rw [sortC_len]; exact sb.1, fun r hr => sb.2 r (mem_sortC.1 hr)⟩
      have la : (sortC cmpR (xs.take (xs.length / 2))).length = xs.length / 2 := by rw [sortC_len, List.length_take]; omega
      have lb : (sortC cmpR (xs.drop (xs.length / 2))).length = xs.length - xs.length / 2 := by rw [sortC_len, List.length_drop]
      have hm := fun F hF => merge_l0 ta tb (by omega) F [] 0 0 (Nat.zero_le _) (Nat.zero_le _) hF rfl
      rw [show (0 : Int) = ((0 : Nat) : Int) from rfl, hm _ (by omega)]
      simp only [List.drop_zero, List.nil_append]
      congr 1
      refine asc_uniq cmpR_cmp cmpR_zero ?_ (sortC_asc cmpR_cmp xs) ?_
      · have := List.pairwise_merge (le := leC cmpR) (fun x y z h1 h2 => by
          simp only [leC, decide_eq_true_eq] at *
          exact cmpR_cmp.trans x y z h1 h2) (fun x y => by
          have := cmpR_cmp.flip x y
          simp only [leC, Bool.or_eq_true, decide_eq_true_eq]
          omega) (sortC cmpR (xs.take (xs.length / 2))) (sortC cmpR (xs.drop (xs.length / 2))) ((sortC_asc cmpR_cmp _).imp fun h => by simpa [leC] using h) ((sortC_asc cmpR_cmp _).imp fun h => by simpa [leC] using h)
        exact this.imp fun h => by simpa [leC] using h
      · refine (List.merge_perm_append (leC cmpR)).trans (((sortC_perm cmpR _).append (sortC_perm cmpR _)).trans ?_)
        rw [List.take_append_drop]
        exact (sortC_perm cmpR xs).symm
theorem sorted_eq {xs : List (List api_Value)} (h : Sz xs) : ref02_sorted xs = some (sortC cmpR xs) := sorted_r _ xs (Nat.lt_succ_self _) h
theorem szT.sz {t : api_Table} (h : szT t) : Sz t.Rows := ⟨by have := h.r; omega, fun r hr => h.row hr⟩
theorem rcanon_eq' {t : api_Table} (hc : t.Cols.length * 24 ≤ 140737488355328) (hr : Sz t.Rows) : ref02_Canon t = some (canonS t) := by
  unfold ref02_Canon
  rw [apd_of (by simpa using hc), Option.bind_some, sorted_eq hr, Option.bind_some, List.nil_append]; rfl
theorem rcanon_eq {t : api_Table} (h : szT t) : ref02_Canon t = some (canonS t) := rcanon_eq' (by have := h.c; omega) h.sz
theorem rsc_l0 {a b : List api_Col} (hn : a.length < 4611686018427387904) (hl : a.length = b.length) : ∀ (fuel i : Nat), i ≤ a.length → a.length < i + fuel →
    ref02_SameCols.l0 a b fuel (i : Int) = some (decide (a.drop i = b.drop i))
  | 0, i, _, h => by omega
  | fuel + 1, i, h1, h2 => by
    rw [ref02_SameCols.l0]
    by_cases hi : i < a.length
    · obtain ⟨x, hx, ex⟩ := getE hi
      obtain ⟨y, hy, ey⟩ := getE (l := b) (i := i) (by omega)
      rw [if_pos (dlt hi), ix_of hx, Option.bind_some, ix_of hy, Option.bind_some, ex, ey, w64_nat i (by omega), rsc_l0 hn hl fuel (i + 1) (by omega) (by omega)]
      by_cases e : x = y <;> simp [e]
    · rw [if_neg (dnl (by omega)), List.drop_of_length_le (by omega), List.drop_of_length_le (by omega)]; simp
theorem rsc_eq {a b : List api_Col} (hn : a.length < 4611686018427387904) : ref02_SameCols a b = some (decide (a = b)) := by
  unfold ref02_SameCols
  by_cases hl : a.length = b.length
  · rw [if_neg (by simp [hl]), fuel_nat]
    exact rsc_l0 hn hl _ 0 (Nat.zero_le _) (by omega)
  · rw [if_pos (by simp; omega)]
    have : a ≠ b := fun e => hl (by rw [e])
    simp [this]
theorem rsm_l1 {a b : api_Table} (hn : Sz a.Rows) (hl : a.Rows.length = b.Rows.length) : ∀ (fuel i : Nat), i ≤ a.Rows.length → a.Rows.length < i + fuel →
    ref02_Same.l1 a b fuel (i : Int) = some (decide (a.Rows.drop i = b.Rows.drop i))
  | 0, i, _, h => by omega
  | fuel + 1, i, h1, h2 => by
    have hn1 := hn.1
    rw [ref02_Same.l1]
    by_cases hi : i < a.Rows.length
    · obtain ⟨x, hx, ex⟩ := getE hi
      obtain ⟨y, hy, ey⟩ := getE (l := b.Rows) (i := i) (by omega)
      rw [if_pos (dlt hi), ix_of hx, Option.bind_some, ix_of hy, Option.bind_some, refRow_eq (hn.2 x (List.mem_of_getElem? hx)), Option.bind_some, ex, ey, w64_nat i (by omega), rsm_l1 hn hl fuel (i + 1) (by omega) (by omega)]
      by_cases e : cmpR x y = 0
      · rw [if_neg (by simp [e])]
        have := cmpR_zero x y e
        simp [this]
      · have hne : x ≠ y := fun h => e (by rw [h]; exact cmpR_self y)
        rw [if_pos (by simpa using e)]
        simp [hne]
    · rw [if_neg (dnl (by omega)), List.drop_of_length_le (by omega), List.drop_of_length_le (by omega)]; simp
theorem rsame_eq' {a b : api_Table} (hc : a.Cols.length < 4611686018427387904) (hr : Sz a.Rows) : ref02_Same a b = some (decide (a = b)) := by
  unfold ref02_Same ref02_Same.j0
  rw [rsc_eq hc, Option.bind_some]
  obtain ⟨c, r⟩ := a
  obtain ⟨c', r'⟩ := b
  by_cases e : c = c'
  · subst e
    by_cases hl : r.length = r'.length
    · have := rsm_l1 (a := ⟨c, r⟩) (b := ⟨c, r'⟩) hr hl (r.length + 1) 0 (Nat.zero_le _) (by simp)
      simp only [decide_true, Bool.not_true, Bool.false_eq_true, if_false, hl, bne_self_eq_false, fuel_nat] at this ⊢
      rw [show ((0 : Nat) : Int) = 0 from rfl] at this
      rw [this]; simp
    · have : r ≠ r' := fun e => hl (by rw [e])
      simp [hl, this, show ¬ ((r.length : Int) = (r'.length : Int)) by omega]
  · simp [e]
theorem rsame_eq {a b : api_Table} (h : szT a) : ref02_Same a b = some (decide (a = b)) := rsame_eq' h.cols.1 h.sz
end Go.Proofs.Ytjklfkiaebipnaa.M
