/- Tables: whether two are the same, as the reference says. (Turned from PLTr.) -/
import Derived.Test.YtifijboegibchaaPure
import Derived.Test.YtifijboegibchaaPLVw
import Derived.Test.YtifijboegibchaaPLVr
namespace Go.Proofs.Ytifijboegibchaa.M
open Go Go.Eng Go.Proofs Go.RowKit
set_option maxRecDepth 100000
set_option linter.unusedVariables false
set_option linter.unusedSimpArgs false

def Sz (xs : List (List api_Value)) : Prop := xs.length * 24 ≤ 140737488355328 ∧ ∀ r ∈ xs, okRow r
theorem rsc_l0 {a b : List api_Col} (hn : a.length < 4611686018427387904) (hl : a.length = b.length) : ∀ (fuel i : Nat), i ≤ a.length → a.length < i + fuel →
    ref02_SameCols.l0 a b fuel (i : Int) = some (decide (a.drop i = b.drop i))
  | 0, i, _, h => by omega
  | fuel + 1, i, h1, h2 => by
    rw [ref02_SameCols.l0]
    by_cases hi : i < a.length
    · obtain ⟨x, hx, ex⟩ := getE hi
      obtain ⟨y, hy, ey⟩ := getE (l := b) (i := i) (by omega)
      rw [if_pos (dlt hi), ix_of hx, Option.bind_some, ix_of hy, Option.bind_some, ex, ey, w64_nat i (by omega), rsc_l0 hn hl fuel (i + 1) (by omega) (by omega)]
      by_cases e : x = y <;> simp [e]
    · rw [if_neg (dnl (by omega)), List.drop_of_length_le (by omega), List.drop_of_length_le (by omega)]; simp
theorem rsc_eq {a b : List api_Col} (hn : a.length < 4611686018427387904) : ref02_SameCols a b = some (decide (a = b)) := by
  unfold ref02_SameCols
  by_cases hl : a.length = b.length
  · rw [if_neg (by simp [hl]), fuel_nat]
    exact rsc_l0 hn hl _ 0 (Nat.zero_le _) (by omega)
  · rw [if_pos (by simp; omega)]
    have : a ≠ b := fun e => hl (by rw [e])
    simp [this]
theorem rsm_l1 {a b : api_Table} (hn : Sz a.Rows) (hl : a.Rows.length = b.Rows.length) : ∀ (fuel i : Nat), i ≤ a.Rows.length → a.Rows.length < i + fuel →
    ref02_Same.l1 a b fuel (i : Int) = some (decide (a.Rows.drop i = b.Rows.drop i))
  | 0, i, _, h => by omega
  | fuel + 1, i, h1, h2 => by
    have hn1 := hn.1
    rw [ref02_Same.l1]
    by_cases hi : i < a.Rows.length
    · obtain ⟨x, hx, ex⟩ := getE hi
      obtain ⟨y, hy, ey⟩ := getE (l := b.Rows) (i := i) (by omega)
      rw [if_pos (dlt hi), ix_of hx, Option.bind_some, ix_of hy, Option.bind_some, refRow_eq (hn.2 x (List.mem_of_getElem? hx)), Option.bind_some, ex, ey, w64_nat i (by omega), rsm_l1 hn hl fuel (i + 1) (by omega) (by omega)]
      by_cases e : cmpR x y = 0
      · rw [if_neg (by simp [e])]
        have := cmpR_zero x y e
        simp [this]
      · have hne : x ≠ y := fun h => e (by rw [h]; exact cmpR_self y)
        rw [if_pos (by simpa using e)]
        simp [hne]
    · rw [if_neg (dnl (by omega)), List.drop_of_length_le (by omega), List.drop_of_length_le (by omega)]; simp
theorem rsame_eq' {a b : api_Table} (hc : a.Cols.length < 4611686018427387904) (hr : Sz a.Rows) : ref02_Same a b = some (decide (a = b)) := by
  unfold ref02_Same ref02_Same.j0
  rw [rsc_eq hc, Option.bind_some]
  obtain ⟨c, r⟩ := a
  obtain ⟨c', r'⟩ := b
  by_cases e : c = c'
  · subst e
    by_cases hl : r.length = r'.length
    · have := rsm_l1 (a := ⟨c, r⟩) (b := ⟨c, r'⟩) hr hl (r.length + 1) 0 (Nat.zero_le _) (by simp)
      simp only [decide_true, Bool.not_true, Bool.false_eq_true, if_false, hl, bne_self_eq_false, fuel_nat] at this ⊢
      rw [show ((0 : Nat) : Int) = 0 from rfl] at this
      rw [this]; simp
    · have : r ≠ r' := fun e => hl (by rw [e])
      simp [hl, this, show ¬ ((r.length : Int) = (r'.length : Int)) by omega]
  · simp [e]
end Go.Proofs.Ytifijboegibchaa.M
