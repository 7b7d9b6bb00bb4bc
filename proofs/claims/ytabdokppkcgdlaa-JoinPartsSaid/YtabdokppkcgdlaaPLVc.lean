/- Values: what the program's comparison answers. -/
import Derived.Test.YtabdokppkcgdlaaPure
import Derived.Test.YtabdokppkcgdlaaPLVo
namespace Go.Proofs.Ytabdokppkcgdlaa.M
open Go Go.Eng Go.Proofs Go.RowKit
set_option maxRecDepth 100000
set_option linter.unusedVariables false
set_option linter.unusedSimpArgs false

theorem isNaN_eq (x : Int) : cmp_isNaN_int x = some false := by simp [cmp_isNaN_int]
theorem cmpInt_eq (x y : Int) : cmp_Compare_int x y = some (ord3 x y) := by
  unfold cmp_Compare_int ord3
  simp only [isNaN_eq, Option.bind_some, Bool.false_eq_true, if_false, decide_eq_true_eq]
  split
  · rfl
  · split <;> rfl
theorem strCmp_eq (s t : ByteArray) : strings_Compare s t = some (lexL ord3 (sbytes s) (sbytes t)) := by
  unfold strings_Compare internal_bytealg_CompareString
  simp only [Option.bind_some, compareBytes_sb]
theorem sliCmp_l0 {xs ys : List Int} (hn : xs.length < 4611686018427387904) : ∀ (fuel i : Nat), i ≤ xs.length → i ≤ ys.length → xs.length < i + fuel → slices_Compare_int_int.l0 xs ys fuel (i : Int) = some (lexL ord3 (xs.drop i) (ys.drop i))
  | 0, i, _, _, h => by omega
  | fuel + 1, i, h1, h2, h3 => by
    rw [slices_Compare_int_int.l0]
    by_cases hi : i < xs.length
    · obtain ⟨x, hx, ex⟩ := getE hi
      rw [if_pos (dlt hi), ix_of hx, Option.bind_some, ex]
      by_cases hj : i < ys.length
      · obtain ⟨y, hy, ey⟩ := getE hj
        rw [if_neg (dng hj), ix_of hy, Option.bind_some, cmpInt_eq, Option.bind_some, ey, lexL]
        by_cases e : ord3 x y = 0
        · rw [if_neg (by simp [e]), if_pos e, w64_nat _ (by omega), sliCmp_l0 hn fuel (i + 1) (by omega) (by omega) (by omega)]
        · rw [if_pos (by simpa using e), if_neg e]
      · rw [if_pos (dge (by omega)), List.drop_of_length_le (l := ys) (by omega)]; rfl
    · rw [if_neg (dnl (by omega)), List.drop_of_length_le (l := xs) (by omega)]
      by_cases hj : xs.length < ys.length
      · obtain ⟨y, hy, ey⟩ := getE (l := ys) (i := i) (by omega)
        rw [if_pos (dlt hj), ey]; rfl
      · rw [if_neg (dnl (by omega)), List.drop_of_length_le (l := ys) (by omega)]; rfl
theorem sliCmp_eq {xs ys : List Int} (hn : xs.length < 4611686018427387904) : slices_Compare_int_int xs ys = some (lexL ord3 xs ys) := by
  unfold slices_Compare_int_int
  rw [fuel_nat]
  exact sliCmp_l0 hn _ 0 (Nat.zero_le _) (Nat.zero_le _) (by omega)
def orS : List Int → Int
  | [] => 0
  | x :: r => if x = 0 then orS r else x
theorem or_l0 {xs : List Int} (hn : xs.length < 4611686018427387904) : ∀ (fuel i : Nat), i ≤ xs.length → xs.length < i + fuel → cmp_Or_int.l0 xs fuel (i : Int) = some (orS (xs.drop i))
  | 0, i, _, h => by omega
  | fuel + 1, i, h1, h2 => by
    rw [cmp_Or_int.l0]
    by_cases hi : i < xs.length
    · obtain ⟨x, hx, ex⟩ := getE hi
      rw [if_pos (dlt hi), ix_of hx, Option.bind_some, ex, orS]
      by_cases e : x = 0
      · rw [if_neg (by simp [e]), if_pos e, w64_nat _ (by omega), or_l0 hn fuel (i + 1) (by omega) (by omega)]
      · rw [if_pos (by simpa using e), if_neg e]
    · rw [if_neg (dnl (by omega)), List.drop_of_length_le (by omega)]; rfl
theorem or_eq {xs : List Int} (hn : xs.length < 4611686018427387904) : cmp_Or_int xs = some (orS xs) := by
  unfold cmp_Or_int
  rw [fuel_nat]
  exact or_l0 hn _ 0 (Nat.zero_le _) (by omega)
theorem cmpV_eq (a b : api_Value) : value_Compare a b = some (cmpV a b) := by
  unfold value_Compare
  rw [cmpInt_eq, Option.bind_some, cmpInt_eq, Option.bind_some, strCmp_eq, Option.bind_some, sliCmp_eq (by simp [Arr8.list]), Option.bind_some, or_eq (by simp), Option.bind_some]
  simp only [orS, cmpV, thenC, onC]
  by_cases h1 : ord3 a.Kind b.Kind = 0 <;> by_cases h2 : ord3 a.N b.N = 0 <;> by_cases h3 : lexL ord3 (sbytes a.S) (sbytes b.S) = 0 <;> by_cases h4 : lexL ord3 a.H.list b.H.list = 0 <;> simp only [h1, h2, h3, h4, if_true, if_false]
end Go.Proofs.Ytabdokppkcgdlaa.M
