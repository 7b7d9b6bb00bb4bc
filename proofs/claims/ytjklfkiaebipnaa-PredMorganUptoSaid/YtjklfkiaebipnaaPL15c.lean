/- Layer 15: of any table the rows are left for which any condition holds, of a small bulk. -/
import Derived.Test.YtjklfkiaebipnaaPL15b
import Derived.Test.YtjklfkiaebipnaaPLHf
namespace Go.Proofs.Ytjklfkiaebipnaa.M
open Go Go.Eng Go.Proofs Go.RowKit
set_option maxRecDepth 100000
set_option linter.unusedVariables false
set_option linter.unusedSimpArgs false

def wideR (n : Nat) (xs : List (List api_Value)) : Prop := xs.length = n ∧ ∀ r ∈ xs, r.length < 4611686018427387904
theorem wideR.upd {n : Nat} {xs : List (List api_Value)} (h : wideR n xs) (j : Nat) {r : List api_Value} (hr : r.length < 4611686018427387904) : wideR n (upd xs (j : Int) r) := by
  refine ⟨by rw [upd_length]; exact h.1, fun q hq => ?_⟩
  rcases List.mem_or_eq_of_mem_set hq with hq | rfl
  · exact h.2 q hq
  · exact hr
theorem where_l1 {kl0 : List (List api_Value) → Int → Option Bool} {y : api_Table} {x0 : List (List api_Value)} {n j : Nat} (hn : n < 4611686018427387904) (hj : j < n) (hk : ∀ xs, wideR n xs → kl0 xs ((j + 1 : Nat) : Int) = some true) : ∀ (fuel i : Nat) (xs : List (List api_Value)), wideR n xs → (∀ r, xs[j]? = some r → i ≤ r.length ∧ r.length < i + fuel) →
    law15_PredWhere.l1 kl0 y x0 (j : Int) fuel xs (i : Int) = some true
  | 0, i, xs, h, hi => by
    obtain ⟨r, hr, _⟩ := getE (l := xs) (i := j) (by rw [h.1]; exact hj)
    have := hi r hr
    omega
  | fuel + 1, i, xs, h, hi => by
    obtain ⟨r, hr, _⟩ := getE (l := xs) (i := j) (by rw [h.1]; exact hj)
    have hb := hi r hr
    have hw := h.2 r (List.mem_of_getElem? hr)
    rw [law15_PredWhere.l1, ix_of hr, Option.bind_some]
    by_cases hlt : i < r.length
    · obtain ⟨v, hv, _⟩ := getE hlt
      rw [if_pos (dlt hlt), Option.bind_some, ix_of hv, Option.bind_some, w64_nat i (by omega)]
      have hl : (upd r (i : Int) (⟨77, 0, ⟨#[]⟩, ⟨0, 0, 0, 0, 0, 0, 0, 0⟩⟩ : api_Value)).length = r.length := upd_length
      refine where_l1 hn hj hk fuel (i + 1) _ (h.upd j (by rw [hl]; exact hw)) fun q hq => ?_
      unfold upd at hq
      rw [Int.toNat_natCast, List.getElem?_set_self (by rw [h.1]; exact hj)] at hq
      obtain rfl := Option.some.inj hq
      have hl2 : (r.set (Int.toNat (i : Int)) (⟨77, 0, ⟨#[]⟩, ⟨0, 0, 0, 0, 0, 0, 0, 0⟩⟩ : api_Value)).length = r.length := List.length_set ..
      rw [hl2]
      omega
    · rw [if_neg (dnl (by omega)), w64_nat j (by omega)]
      exact hk xs h
theorem where_l0 {q : api_Query} {t y : api_Table} {i : Int} (ht : szT t) (hr : ∀ r ∈ t.Rows, smallR r) (hs : smallN q.N) (hq : q.N.length ≤ 1000000) {n : Nat} (hn : n < 4611686018427387904) : ∀ (fuel j : Nat) (xs : List (List api_Value)), wideR n xs → j ≤ n → n < j + fuel →
    law15_PredWhere.l0 i true q t y (whereQ t q i) true fuel xs (j : Int) = some true
  | 0, j, xs, _, _, h => by omega
  | fuel + 1, j, xs, h, h1, h2 => by
    rw [law15_PredWhere.l0]
    by_cases hj : j < n
    · obtain ⟨r, hrr, _⟩ := getE (l := xs) (i := j) (by rw [h.1]; exact hj)
      have e : ix xs (j : Int) = some r := ix_of hrr
      rw [if_pos (dlt (by rw [h.1]; exact hj)), e]
      have ef : ((((some r).getD []).length : Int) - 0).toNat + 1 = r.length + 1 := by simp
      rw [ef]
      exact where_l1 hn hj (fun xs' h' => where_l0 ht hr hs hq hn fuel (j + 1) xs' h' (by omega) (by omega)) (r.length + 1) 0 xs h (fun q' hq' => by rw [hrr] at hq'; cases hq'; omega)
    · rw [if_neg (dnl (by rw [h.1]; omega)), rwhere_eq ht hr hs hq, Option.bind_some, rsame_eq (ht.where q i), Option.bind_some]
      simp
theorem PredWhere_upto (t : api_Table) (ot : okm_api_Table t) (q : api_Query) (oq : okm_api_Query q) (i : Int) (oi : (Lit.int .i64 i).wf = true) : law15_PredWhere t q i = some true := by
  have ht := (szT_of (okm_Table ot)).cut
  have hr := cut_small (okm_small ot)
  have hs := few_small (okm_nodes oq)
  have hq := few_len q
  have hl := cut_len t
  have hw := ht.where (fewS q) i
  unfold law15_PredWhere
  rw [shown_ok, Option.bind_some, few_eq, Option.bind_some, cut_eq', Option.bind_some, pwhere_eq ht hr hs hq, Option.bind_some, rwhere_eq ht hr hs hq, Option.bind_some, rsame_eq hw, Option.bind_some, fuel_nat]
  have hlen : (whereQ (cutS t) (fewS q) i).Rows.length ≤ 100 := Nat.le_trans (List.length_filter_le _ _) hl
  have := where_l0 (y := whereQ (cutS t) (fewS q) i) (i := i) ht hr hs hq (n := (whereQ (cutS t) (fewS q) i).Rows.length) (by omega) ((whereQ (cutS t) (fewS q) i).Rows.length + 1) 0 (whereQ (cutS t) (fewS q) i).Rows ⟨rfl, fun r hr' => by have := hw.w r hr'; omega⟩ (Nat.zero_le _) (by omega)
  simp only [decide_true]
  exact this
end Go.Proofs.Ytjklfkiaebipnaa.M
