/- Values: what the reference's comparison answers, of values and of rows. -/
import Derived.Test.YtabdokppkcgdlaaPure
import Derived.Test.YtabdokppkcgdlaaPLVo
namespace Go.Proofs.Ytabdokppkcgdlaa.M
open Go Go.Eng Go.Proofs Go.RowKit
set_option maxRecDepth 100000
set_option linter.unusedVariables false
set_option linter.unusedSimpArgs false

theorem order_eq (x y : Int) : ref01_order x y = some (ord3 x y) := by
  unfold ref01_order ord3
  simp only [decide_eq_true_eq]
  split
  · rfl
  · split <;> rfl
theorem refH_l2 {a b : api_Value} : ∀ (fuel i : Nat), i ≤ 8 → 8 < i + fuel → ref01_Compare.l2 a b fuel (i : Int) = some (lexL ord3 (a.H.list.drop i) (b.H.list.drop i))
  | 0, i, _, h => by omega
  | fuel + 1, i, h1, h2 => by
    rw [ref01_Compare.l2]
    by_cases hi : i < 8
    · obtain ⟨x, hx, ex⟩ := getE (l := a.H.list) (i := i) hi
      obtain ⟨y, hy, ey⟩ := getE (l := b.H.list) (i := i) hi
      have hx' : Arr8.ix a.H (i : Int) = some x := ix_of hx
      have hy' : Arr8.ix b.H (i : Int) = some y := ix_of hy
      rw [if_pos (show decide ((i : Int) < 8) = true by simp; omega), hx', Option.bind_some, hy', Option.bind_some, ex, ey, lexL]
      by_cases e : x = y
      · subst e
        rw [if_neg (by simp), w64_nat _ (by omega), ord3_self, if_pos rfl, refH_l2 fuel (i + 1) (by omega) (by omega)]
      · rw [if_pos (by simpa using e), Option.bind_some, Option.bind_some, order_eq, Option.bind_some, if_neg (fun h => e (ord3_zero h))]
    · rw [if_neg (show ¬ decide ((i : Int) < 8) = true by simp; omega), List.drop_of_length_le (show a.H.list.length ≤ i by simp [Arr8.list]; omega), List.drop_of_length_le (show b.H.list.length ≤ i by simp [Arr8.list]; omega)]; rfl
theorem ref01_sz {s : ByteArray} : (s.size : Int) = ((sbytes s).length : Int) := by rw [sbytes_len]
theorem refS_l0 {a b : api_Value} (ha : a.S.size < 4611686018427387904) : ∀ (fuel i : Nat), i ≤ a.S.size → i ≤ b.S.size → a.S.size < i + fuel → (sbytes a.S).take i = (sbytes b.S).take i →
    ref01_Compare.l0 a b fuel (i : Int) = some (if lexL ord3 ((sbytes a.S).drop i) ((sbytes b.S).drop i) = 0 then lexL ord3 a.H.list b.H.list else lexL ord3 ((sbytes a.S).drop i) ((sbytes b.S).drop i))
  | 0, i, _, _, h, _ => by omega
  | fuel + 1, i, h1, h2, h3, h4 => by
    have hl2 : ref01_Compare.l2 a b (((8 : Int) - 0).toNat + 1) 0 = some (lexL ord3 a.H.list b.H.list) := refH_l2 9 0 (by omega) (by omega)
    have la := sbytes_len a.S
    have lb := sbytes_len b.S
    have fin : ∀ (h : ¬ (i < a.S.size ∧ i < b.S.size)), ref01_Compare.j1 (ref01_Compare.l0 a b fuel) a b (i : Int) false = some (if lexL ord3 ((sbytes a.S).drop i) ((sbytes b.S).drop i) = 0 then lexL ord3 a.H.list b.H.list else lexL ord3 ((sbytes a.S).drop i) ((sbytes b.S).drop i)) := fun h => by
      unfold ref01_Compare.j1
      rw [if_neg (by simp), order_eq, Option.bind_some, hl2]
      by_cases e : a.S.size = b.S.size
      · have : i = a.S.size := by omega
        rw [if_neg (by simp [e]), List.drop_of_length_le (l := sbytes a.S) (by omega), List.drop_of_length_le (l := sbytes b.S) (by omega)]
        simp [lexL]
      · rw [if_pos (by simp; omega)]
        by_cases e2 : a.S.size < b.S.size
        · obtain ⟨y, hy, ey⟩ := getE (l := sbytes b.S) (i := i) (by omega)
          rw [List.drop_of_length_le (l := sbytes a.S) (by omega), ey]
          have : ord3 (a.S.size : Int) (b.S.size : Int) = -1 := by unfold ord3; rw [if_pos (by omega)]
          rw [this]; simp [lexL]
        · obtain ⟨y, hy, ey⟩ := getE (l := sbytes a.S) (i := i) (by omega)
          rw [List.drop_of_length_le (l := sbytes b.S) (by omega), ey]
          have : ord3 (a.S.size : Int) (b.S.size : Int) = 1 := by unfold ord3; rw [if_neg (by omega), if_pos (by omega)]
          rw [this]; simp [lexL]
    rw [ref01_Compare.l0]
    by_cases hi : i < a.S.size
    · rw [if_pos (dlt hi)]
      by_cases hj : i < b.S.size
      · obtain ⟨x, hx, ex⟩ := getE (l := sbytes a.S) (i := i) (by omega)
        obtain ⟨y, hy, ey⟩ := getE (l := sbytes b.S) (i := i) (by omega)
        have bx := sbytes_range (List.mem_of_getElem? hx)
        have by' := sbytes_range (List.mem_of_getElem? hy)
        rw [show decide ((i : Int) < (b.S.size : Int)) = true from dlt hj]
        unfold ref01_Compare.j1
        rw [if_pos rfl, ixs_of hx, Option.bind_some, ixs_of hy, Option.bind_some, ex, ey, lexL]
        by_cases e : x = y
        · subst e
          rw [if_neg (by simp), w64_nat _ (by omega), ord3_self, if_pos rfl]
          exact refS_l0 ha fuel (i + 1) (by omega) (by omega) (by omega) (by rw [List.take_add_one, List.take_add_one, h4, hx, hy])
        · rw [if_pos (by simpa using e), Option.bind_some, Option.bind_some, w64 (by omega) (by omega), w64 (by omega) (by omega), order_eq, Option.bind_some, if_neg (fun h => e (ord3_zero h)), if_neg (fun h => e (ord3_zero h))]
      · rw [show decide ((i : Int) < (b.S.size : Int)) = false by simpa using hj]
        exact fin (by omega)
    · rw [if_neg (dnl (by omega))]
      exact fin (by omega)
theorem refV_eq {a b : api_Value} (ha : a.S.size < 4611686018427387904) : ref01_Compare a b = some (cmpV a b) := by
  have h0 := refS_l0 (b := b) ha (a.S.size + 1) 0 (Nat.zero_le _) (Nat.zero_le _) (by omega) rfl
  simp only [List.drop_zero] at h0
  have e : cmpV a b = if ord3 a.Kind b.Kind = 0 then if ord3 a.N b.N = 0 then if lexL ord3 (sbytes a.S) (sbytes b.S) = 0 then lexL ord3 a.H.list b.H.list else lexL ord3 (sbytes a.S) (sbytes b.S) else ord3 a.N b.N else ord3 a.Kind b.Kind := rfl
  rw [e]
  unfold ref01_Compare
  rw [fuel_nat]
  by_cases e1 : ord3 a.Kind b.Kind = 0
  · rw [if_neg (by simp [ord3_zero e1]), if_pos e1]
    by_cases e2 : ord3 a.N b.N = 0
    · rw [if_neg (by simp [ord3_zero e2]), if_pos e2]; exact h0
    · rw [if_pos (by simp only [bne_iff_ne, ne_eq]; intro h; rw [h, ord3_self] at e2; exact e2 rfl), order_eq, Option.bind_some, if_neg e2]
  · rw [if_pos (by simp only [bne_iff_ne, ne_eq]; intro h; rw [h, ord3_self] at e1; exact e1 rfl), order_eq, Option.bind_some, if_neg e1]
theorem refRow_l0 {a b : List api_Value} (ha : okRow a) : ∀ (fuel i : Nat), i ≤ a.length → i ≤ b.length → a.length < i + fuel →
    ref02_Row.l0 a b fuel (i : Int) = some (lexL cmpV (a.drop i) (b.drop i))
  | 0, i, _, _, h => by omega
  | fuel + 1, i, h1, h2, h3 => by
    have hn := ha.1
    have fin : ∀ (h : ¬ (i < a.length ∧ i < b.length)), ref02_Row.j1 (ref02_Row.l0 a b fuel) a b (i : Int) false = some (lexL cmpV (a.drop i) (b.drop i)) := fun h => by
      unfold ref02_Row.j1
      rw [if_neg (by simp)]
      by_cases e : a.length < b.length
      · obtain ⟨y, hy, ey⟩ := getE (l := b) (i := i) (by omega)
        rw [if_pos (dlt e), List.drop_of_length_le (l := a) (by omega), ey]; rfl
      · rw [if_neg (dnl (by omega))]
        by_cases e2 : b.length < a.length
        · obtain ⟨y, hy, ey⟩ := getE (l := a) (i := i) (by omega)
          rw [if_pos (by simp; omega), List.drop_of_length_le (l := b) (by omega), ey]; rfl
        · rw [if_neg (by simp; omega), List.drop_of_length_le (l := b) (by omega), List.drop_of_length_le (l := a) (by omega)]; rfl
    rw [ref02_Row.l0]
    by_cases hi : i < a.length
    · rw [if_pos (dlt hi)]
      by_cases hj : i < b.length
      · obtain ⟨x, hx, ex⟩ := getE hi
        obtain ⟨y, hy, ey⟩ := getE hj
        rw [show decide ((i : Int) < (b.length : Int)) = true from dlt hj]
        unfold ref02_Row.j1
        rw [if_pos rfl, ix_of hx, Option.bind_some, ix_of hy, Option.bind_some, refV_eq (ha.2 x (List.mem_of_getElem? hx)), Option.bind_some, ex, ey, lexL]
        by_cases e : cmpV x y = 0
        · rw [if_neg (by simp [e]), if_pos e, w64_nat _ (by omega)]
          exact refRow_l0 ha fuel (i + 1) (by omega) (by omega) (by omega)
        · rw [if_pos (by simpa using e), if_neg e]
      · rw [show decide ((i : Int) < (b.length : Int)) = false by simpa using hj]
        exact fin (by omega)
    · rw [if_neg (dnl (by omega))]
      exact fin (by omega)
theorem refRow_eq {a b : List api_Value} (ha : okRow a) : ref02_Row a b = some (cmpR a b) := by
  unfold ref02_Row
  rw [fuel_nat]
  exact refRow_l0 ha _ 0 (Nat.zero_le _) (Nat.zero_le _) (by omega)
end Go.Proofs.Ytabdokppkcgdlaa.M
