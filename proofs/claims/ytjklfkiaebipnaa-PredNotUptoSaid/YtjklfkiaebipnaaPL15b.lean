/- Layer 15: any condition for any row, of a small bulk. -/
import Derived.Test.YtjklfkiaebipnaaPL15a
import Derived.Test.YtjklfkiaebipnaaOpnM
namespace Go.Proofs.Ytjklfkiaebipnaa.M
open Go Go.Eng Go.Proofs Go.RowKit
set_option maxRecDepth 100000
set_option linter.unusedVariables false
set_option linter.unusedSimpArgs false

theorem m_size {s : ByteArray} (h : s.size ≤ 1048576) : s.size ≤ 140737488351232 := by omega
theorem okm_Col {c : api_Col} (h : okm_api_Col c) : ok_api_Col c := ⟨m_size h.1, h.2⟩
theorem okm_Value {v : api_Value} (h : okm_api_Value v) : ok_api_Value v := ⟨h.1, h.2.1, m_size h.2.2.1, h.2.2.2⟩
theorem okm_Table {t : api_Table} (h : okm_api_Table t) : ok_api_Table t := by
  obtain ⟨⟨h1, h2⟩, h3, h4⟩ := h
  exact ⟨⟨by omega, fun c hc => okm_Col (h2 c hc)⟩, by omega, fun r hr => ⟨by have := (h4 r hr).1; omega, fun v hv => okm_Value ((h4 r hr).2 v hv)⟩⟩
theorem okm_small {t : api_Table} (h : okm_api_Table t) : ∀ r ∈ t.Rows, smallR r := fun r hr => by
  have h4 := h.2.2 r hr
  refine ⟨by have := h4.1; omega, fun v hv => ?_⟩
  have h5 : v.S.size ≤ 1048576 := (h4.2 v hv).2.2.1
  omega
theorem okm_nodes {q : api_Query} (h : okm_api_Query q) : smallN q.N := fun n hn => by
  have hq := h.2 n hn
  have h1 : n.L.length ≤ 1048576 := hq.2.2.2.2.2.2.1.1
  have h2 : n.V.S.size ≤ 1048576 := hq.2.2.2.2.2.1.2.2.1
  exact ⟨by omega, by omega⟩
def fewS (q : api_Query) : api_Query := ⟨q.N.take 100⟩
theorem few_eq (q : api_Query) : law15_few q = some (fewS q) := by
  unfold law15_few fewS
  by_cases h : q.N.length > 100
  · rw [if_pos (by simp; omega), cut_of (by omega) (by omega) (by omega)]; rfl
  · rw [if_neg (by simp; omega), List.take_of_length_le (by omega)]
theorem few_small {q : api_Query} (h : smallN q.N) : smallN (fewS q).N := fun n hn => h n (List.mem_of_mem_take hn)
theorem few_len (q : api_Query) : (fewS q).N.length ≤ 1000000 := by simp [fewS]; omega
theorem cut_small {t : api_Table} (h : ∀ r ∈ t.Rows, smallR r) : ∀ r ∈ (cutS t).Rows, smallR r := fun r hr => h r (List.mem_of_mem_take hr)
theorem smallR_nil : smallR [] := ⟨by decide, fun v hv => by cases hv⟩
theorem holds_l0 {q : api_Query} {t : api_Table} {i : Int} (ht : szT t) (hr : ∀ r ∈ t.Rows, smallR r) (hs : smallN q.N) (hq : q.N.length ≤ 1000000) (hl : t.Rows.length ≤ 100) : ∀ (fuel k : Nat), k ≤ t.Rows.length → t.Rows.length < k + fuel →
    law15_PredHolds.l0 i true q t fuel (k : Int) = some true
  | 0, k, _, h => by omega
  | fuel + 1, k, h1, h2 => by
    rw [law15_PredHolds.l0]
    by_cases hk : k < t.Rows.length
    · obtain ⟨r, hx, _⟩ := getE hk
      have hm := List.mem_of_getElem? hx
      rw [if_pos (dlt hk), ix_of hx, Option.bind_some, Option.bind_some, pholds_eq ht.cols.1 (hr r hm) hs hq, Option.bind_some, rholdsQ_eq ht.cols.1 (hr r hm) hs hq, Option.bind_some, if_neg (by simp), w64_nat k (by omega)]
      exact holds_l0 ht hr hs hq hl fuel (k + 1) (by omega) (by omega)
    · rw [if_neg (dnl (by omega)), if_pos rfl, pholds_eq ht.cols.1 smallR_nil hs hq, Option.bind_some, rholdsQ_eq ht.cols.1 smallR_nil hs hq, Option.bind_some]
      simp
theorem PredHolds_upto (q : api_Query) (oq : okm_api_Query q) (i : Int) (oi : (Lit.int .i64 i).wf = true) (t : api_Table) (ot : okm_api_Table t) : law15_PredHolds q i t = some true := by
  unfold law15_PredHolds
  rw [shown_ok, Option.bind_some, few_eq, Option.bind_some, cut_eq', Option.bind_some, fuel_nat]
  exact holds_l0 (szT_of (okm_Table ot)).cut (cut_small (okm_small ot)) (few_small (okm_nodes oq)) (few_len q) (cut_len t) _ 0 (Nat.zero_le _) (by omega)
end Go.Proofs.Ytjklfkiaebipnaa.M
