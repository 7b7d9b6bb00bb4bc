/- Conditions: the reference's rows that are left. -/
import Derived.Test.YtjklfkiaebipnaaPure
import Derived.Test.YtjklfkiaebipnaaPLHe
namespace Go.Proofs.Ytjklfkiaebipnaa.M
open Go Go.Eng Go.Proofs Go.RowKit
set_option maxRecDepth 100000
set_option linter.unusedVariables false
set_option linter.unusedSimpArgs false

theorem rwhere_l0 {t : api_Table} {q : api_Query} {i : Int} {cols : List api_Col} (ht : szT t) (hr : ∀ r ∈ t.Rows, smallR r) (hs : smallN q.N) (hq : q.N.length ≤ 1000000) : ∀ (fuel k : Nat), k ≤ t.Rows.length → t.Rows.length < k + fuel →
    ref15_Where.l0 t q i cols fuel ((t.Rows.take k).filter (holdsQ q i t.Cols)) (k : Int) = some ⟨cols, t.Rows.filter (holdsQ q i t.Cols)⟩
  | 0, k, _, h => by omega
  | fuel + 1, k, h1, h2 => by
    have hrl := ht.r
    rw [ref15_Where.l0]
    by_cases hk : k < t.Rows.length
    · obtain ⟨r, hx, ex⟩ := getE hk
      have hm := List.mem_of_getElem? hx
      have hw := ht.w r hm
      have hfl := List.length_filter_le (holdsQ q i t.Cols) (t.Rows.take k)
      rw [List.length_take] at hfl
      rw [if_pos (dlt hk), ix_of hx, Option.bind_some, rholdsQ_eq ht.cols.1 (hr r hm) hs hq, Option.bind_some]
      have e : (t.Rows.take (k + 1)).filter (holdsQ q i t.Cols) = (t.Rows.take k).filter (holdsQ q i t.Cols) ++ (if holdsQ q i t.Cols r = true then [r] else []) := by
        rw [List.take_add_one, hx, List.filter_append]
        congr 1
        simp only [Option.toList_some, List.filter_cons, List.filter_nil]
      simp only [ref15_Where.j1, w64_nat k (by omega)]
      by_cases hh : holdsQ q i t.Cols r = true
      · rw [if_pos hh] at e
        rw [if_pos hh, Option.bind_some, apd_of (by simp; omega), Option.bind_some, List.nil_append, apd_of (by simp only [List.length_singleton]; omega), Option.bind_some, ← e]
        exact rwhere_l0 ht hr hs hq fuel (k + 1) (by omega) (by omega)
      · rw [if_neg hh, List.append_nil] at e
        rw [if_neg hh, ← e]
        exact rwhere_l0 ht hr hs hq fuel (k + 1) (by omega) (by omega)
    · rw [if_neg (dnl (by omega)), List.take_of_length_le (by omega)]
theorem rwhere_eq {t : api_Table} {q : api_Query} {i : Int} (ht : szT t) (hr : ∀ r ∈ t.Rows, smallR r) (hs : smallN q.N) (hq : q.N.length ≤ 1000000) : ref15_Where t q i = some (whereQ t q i) := by
  unfold ref15_Where
  rw [apd_of (by simp; have := ht.c; omega), Option.bind_some, List.nil_append, fuel_nat]
  exact rwhere_l0 ht hr hs hq _ 0 (Nat.zero_le _) (by omega)
end Go.Proofs.Ytjklfkiaebipnaa.M
