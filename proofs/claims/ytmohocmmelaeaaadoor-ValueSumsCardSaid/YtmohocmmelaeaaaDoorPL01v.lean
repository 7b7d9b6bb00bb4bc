/- Values: which may be, how they stand. (Turned from PLVs, PLVv, PLVw, PLVo, PLVc, PLVr.) -/
import Derived.Test.YtmohocmmelaeaaaDoorPure
import Derived.Test.YtmohocmmelaeaaaDoorEngQ
namespace Go.Proofs.YtmohocmmelaeaaaDoor.M
open Go Go.Eng Go.Proofs Go.RowKit
set_option maxRecDepth 100000
set_option linter.unusedVariables false
set_option linter.unusedSimpArgs false

def H0 : Arr8 := ⟨0, 0, 0, 0, 0, 0, 0, 0⟩
def validS (v : api_Value) : Bool :=
  if v.Kind = 1 then decide (v.S = ⟨#[]⟩ ∧ v.H = H0)
  else if v.Kind = 2 then decide (v.N = 0 ∧ v.H = H0 ∧ v.S.size ≤ 64)
  else if v.Kind = 3 then decide ((v.N = 0 ∨ v.N = 1) ∧ v.S = ⟨#[]⟩ ∧ v.H = H0)
  else if v.Kind = 4 then decide (v.N = 0 ∧ v.S = ⟨#[]⟩)
  else false
theorem str_eq (a b : ByteArray) : (a.toList == b.toList) = decide (a = b) := beq_bytes a b
theorem valid_eq (v : api_Value) : value_Valid v = some (validS v) := by
  obtain ⟨k, n, s, h⟩ := v
  unfold value_Valid validS value_Valid.j3 value_Valid.j4 value_Valid.j2 value_Valid.j1 value_Valid.j0 H0
  by_cases h1 : k = 1
  · simp [h1]
  by_cases h2 : k = 2
  · subst h2
    by_cases hs : s.size ≤ 64
    · simp [hs, show ((s.size : Int) ≤ 64) by omega]
    · simp [hs, show ¬ ((s.size : Int) ≤ 64) by omega]
  by_cases h3 : k = 3
  · subst h3
    by_cases n0 : n = 0
    · simp [n0]
    · by_cases n1 : n = 1
      · simp [n1]
      · simp [n0, n1]
  by_cases h4 : k = 4
  · simp [h4]
  · simp [h1, h2, h3, h4]
theorem rvalid_eq (v : api_Value) : ref01_Valid v = some (validS v) := by
  obtain ⟨k, n, s, h⟩ := v
  unfold ref01_Valid validS H0
  simp only [str_eq]
  by_cases h1 : k = 1
  · by_cases a1 : s = ⟨#[]⟩ <;> simp [h1, a1]
  by_cases h2 : k = 2
  · subst h2
    by_cases a1 : n = 0 <;> by_cases a2 : h = ⟨0, 0, 0, 0, 0, 0, 0, 0⟩ <;> by_cases hs : s.size ≤ 64 <;> simp [a1, a2, hs, show ((s.size : Int) ≤ 64) ↔ s.size ≤ 64 by omega]
  by_cases h3 : k = 3
  · subst h3
    by_cases n0 : n = 0
    · by_cases a1 : s = ⟨#[]⟩ <;> simp [n0, a1]
    · by_cases n1 : n = 1
      · by_cases a1 : s = ⟨#[]⟩ <;> simp [n1, a1]
      · simp [n0, n1]
  by_cases h4 : k = 4
  · by_cases a1 : n = 0 <;> simp [h4, a1]
  · simp [h1, h2, h3, h4]

def cmpV : api_Value → api_Value → Int := thenC (onC (·.Kind) ord3) (thenC (onC (·.N) ord3) (thenC (onC (fun v => sbytes v.S) (lexL ord3)) (onC (fun v => v.H.list) (lexL ord3))))
theorem cmpV_cmp : IsCmp cmpV := thenC_cmp (onC_cmp ord3_cmp) (thenC_cmp (onC_cmp ord3_cmp) (thenC_cmp (onC_cmp (lexL_cmp ord3_cmp)) (onC_cmp (lexL_cmp ord3_cmp))))
theorem thenC_zero {α : Type} {c1 c2 : α → α → Int} {x y : α} (h : thenC c1 c2 x y = 0) : c1 x y = 0 ∧ c2 x y = 0 := by
  unfold thenC at h
  by_cases e : c1 x y = 0
  · rw [if_pos e] at h; exact ⟨e, h⟩
  · rw [if_neg e] at h; exact absurd h e
theorem cmpV_zero (a b : api_Value) (h : cmpV a b = 0) : a = b := by
  unfold cmpV at h
  obtain ⟨h1, h⟩ := thenC_zero h
  obtain ⟨h2, h⟩ := thenC_zero h
  obtain ⟨h3, h4⟩ := thenC_zero h
  have e1 := ord3_zero h1
  have e2 := ord3_zero h2
  have e3 := sbytes_inj (lexL_zero (fun _ _ => ord3_zero) _ _ h3)
  have e4 := lexL_zero (fun _ _ => ord3_zero) _ _ h4
  obtain ⟨k, n, s, ⟨a0, a1, a2, a3, a4, a5, a6, a7⟩⟩ := a
  obtain ⟨k', n', s', ⟨b0, b1, b2, b3, b4, b5, b6, b7⟩⟩ := b
  simp only [Arr8.list, List.cons.injEq, and_true] at e1 e2 e3 e4 ⊢
  obtain ⟨rfl, rfl, rfl, rfl, rfl, rfl, rfl, rfl⟩ := e4
  subst e1; subst e2; subst e3; rfl

theorem isNaN_eq (x : Int) : cmp_isNaN_int x = some false := by simp [cmp_isNaN_int]
theorem cmpInt_eq (x y : Int) : cmp_Compare_int x y = some (ord3 x y) := by
  unfold cmp_Compare_int ord3
  simp only [isNaN_eq, Option.bind_some, Bool.false_eq_true, if_false, decide_eq_true_eq]
  split
  · rfl
  · split <;> rfl
theorem strCmp_eq (s t : ByteArray) : strings_Compare s t = some (lexL ord3 (sbytes s) (sbytes t)) := by
  unfold strings_Compare internal_bytealg_CompareString
  simp only [Option.bind_some, compareBytes_sb]
theorem sliCmp_l0 {xs ys : List Int} (hn : xs.length < 4611686018427387904) : ∀ (fuel i : Nat), i ≤ xs.length → i ≤ ys.length → xs.length < i + fuel → slices_Compare_int_int.l0 xs ys fuel (i : Int) = some (lexL ord3 (xs.drop i) (ys.drop i))
  | 0, i, _, _, h => by omega
  | fuel + 1, i, h1, h2, h3 => by
    rw [slices_Compare_int_int.l0]
    by_cases hi : i < xs.length
    · obtain ⟨x, hx, ex⟩ := getE hi
      rw [if_pos (dlt hi), ix_of hx, Option.bind_some, ex]
      by_cases hj : i < ys.length
      · obtain ⟨y, hy, ey⟩ := getE hj
        rw [if_neg (dng hj), ix_of hy, Option.bind_some, cmpInt_eq, Option.bind_some, ey, lexL]
        by_cases e : ord3 x y = 0
        · rw [if_neg (by simp [e]), if_pos e, w64_nat _ (by omega), sliCmp_l0 hn fuel (i + 1) (by omega) (by omega) (by omega)]
        · rw [if_pos (by simpa using e), if_neg e]
      · rw [if_pos (dge (by omega)), List.drop_of_length_le (l := ys) (by omega)]; rfl
    · rw [if_neg (dnl (by omega)), List.drop_of_length_le (l := xs) (by omega)]
      by_cases hj : xs.length < ys.length
      · obtain ⟨y, hy, ey⟩ := getE (l := ys) (i := i) (by omega)
        rw [if_pos (dlt hj), ey]; rfl
      · rw [if_neg (dnl (by omega)), List.drop_of_length_le (l := ys) (by omega)]; rfl
theorem sliCmp_eq {xs ys : List Int} (hn : xs.length < 4611686018427387904) : slices_Compare_int_int xs ys = some (lexL ord3 xs ys) := by
  unfold slices_Compare_int_int
  rw [fuel_nat]
  exact sliCmp_l0 hn _ 0 (Nat.zero_le _) (Nat.zero_le _) (by omega)
def orS : List Int → Int
  | [] => 0
  | x :: r => if x = 0 then orS r else x
theorem or_l0 {xs : List Int} (hn : xs.length < 4611686018427387904) : ∀ (fuel i : Nat), i ≤ xs.length → xs.length < i + fuel → cmp_Or_int.l0 xs fuel (i : Int) = some (orS (xs.drop i))
  | 0, i, _, h => by omega
  | fuel + 1, i, h1, h2 => by
    rw [cmp_Or_int.l0]
    by_cases hi : i < xs.length
    · obtain ⟨x, hx, ex⟩ := getE hi
      rw [if_pos (dlt hi), ix_of hx, Option.bind_some, ex, orS]
      by_cases e : x = 0
      · rw [if_neg (by simp [e]), if_pos e, w64_nat _ (by omega), or_l0 hn fuel (i + 1) (by omega) (by omega)]
      · rw [if_pos (by simpa using e), if_neg e]
    · rw [if_neg (dnl (by omega)), List.drop_of_length_le (by omega)]; rfl
theorem or_eq {xs : List Int} (hn : xs.length < 4611686018427387904) : cmp_Or_int xs = some (orS xs) := by
  unfold cmp_Or_int
  rw [fuel_nat]
  exact or_l0 hn _ 0 (Nat.zero_le _) (by omega)
theorem cmpV_eq (a b : api_Value) : value_Compare a b = some (cmpV a b) := by
  unfold value_Compare
  rw [cmpInt_eq, Option.bind_some, cmpInt_eq, Option.bind_some, strCmp_eq, Option.bind_some, sliCmp_eq (by simp [Arr8.list]), Option.bind_some, or_eq (by simp), Option.bind_some]
  simp only [orS, cmpV, thenC, onC]
  by_cases h1 : ord3 a.Kind b.Kind = 0 <;> by_cases h2 : ord3 a.N b.N = 0 <;> by_cases h3 : lexL ord3 (sbytes a.S) (sbytes b.S) = 0 <;> by_cases h4 : lexL ord3 a.H.list b.H.list = 0 <;> simp only [h1, h2, h3, h4, if_true, if_false]

theorem order_eq (x y : Int) : ref01_order x y = some (ord3 x y) := by
  unfold ref01_order ord3
  simp only [decide_eq_true_eq]
  split
  · rfl
  · split <;> rfl
theorem refH_l2 {a b : api_Value} : ∀ (fuel i : Nat), i ≤ 8 → 8 < i + fuel → ref01_Compare.l2 a b fuel (i : Int) = some (lexL ord3 (a.H.list.drop i) (b.H.list.drop i))
  | 0, i, _, h => by omega
  | fuel + 1, i, h1, h2 => by
    rw [ref01_Compare.l2]
    by_cases hi : i < 8
    · obtain ⟨x, hx, ex⟩ := getE (l := a.H.list) (i := i) hi
      obtain ⟨y, hy, ey⟩ := getE (l := b.H.list) (i := i) hi
      have hx' : Arr8.ix a.H (i : Int) = some x := ix_of hx
      have hy' : Arr8.ix b.H (i : Int) = some y := ix_of hy
      rw [if_pos (show decide ((i : Int) < 8) = true by simp; omega), hx', Option.bind_some, hy', Option.bind_some, ex, ey, lexL]
      by_cases e : x = y
      · subst e
        rw [if_neg (by simp), w64_nat _ (by omega), ord3_self, if_pos rfl, refH_l2 fuel (i + 1) (by omega) (by omega)]
      · rw [if_pos (by simpa using e), Option.bind_some, Option.bind_some, order_eq, Option.bind_some, if_neg (fun h => e (ord3_zero h))]
    · rw [if_neg (show ¬ decide ((i : Int) < 8) = true by simp; omega), List.drop_of_length_le (show a.H.list.length ≤ i by simp [Arr8.list]; omega), List.drop_of_length_le (show b.H.list.length ≤ i by simp [Arr8.list]; omega)]; rfl
theorem ref01_sz {s : ByteArray} : (s.size : Int) = ((sbytes s).length : Int) := by rw [sbytes_len]
theorem refS_l0 {a b : api_Value} (ha : a.S.size < 4611686018427387904) : ∀ (fuel i : Nat), i ≤ a.S.size → i ≤ b.S.size → a.S.size < i + fuel → (sbytes a.S).take i = (sbytes b.S).take i →
    ref01_Compare.l0 a b fuel (i : Int) = some (if lexL ord3 ((sbytes a.S).drop i) ((sbytes b.S).drop i) = 0 then lexL ord3 a.H.list b.H.list else lexL ord3 ((sbytes a.S).drop i) ((sbytes b.S).drop i))
  | 0, i, _, _, h, _ => by omega
  | fuel + 1, i, h1, h2, h3, h4 => by
    have hl2 : ref01_Compare.l2 a b (((8 : Int) - 0).toNat + 1) 0 = some (lexL ord3 a.H.list b.H.list) := refH_l2 9 0 (by omega) (by omega)
    have la := sbytes_len a.S
    have lb := sbytes_len b.S
    have fin : ∀ (h : ¬ (i < a.S.size ∧ i < b.S.size)), ref01_Compare.j1 (ref01_Compare.l0 a b fuel) a b (i : Int) false = some (if lexL ord3 ((sbytes a.S).drop i) ((sbytes b.S).drop i) = 0 then lexL ord3 a.H.list b.H.list else lexL ord3 ((sbytes a.S).drop i) ((sbytes b.S).drop i)) := fun h => by
      unfold ref01_Compare.j1
      rw [if_neg (by simp), order_eq, Option.bind_some, hl2]
      by_cases e : a.S.size = b.S.size
      · have : i = a.S.size := by omega
        rw [if_neg (by simp [e]), List.drop_of_length_le (l := sbytes a.S) (by omega), List.drop_of_length_le (l := sbytes b.S) (by omega)]
        simp [lexL]
      · rw [if_pos (by simp; omega)]
        by_cases e2 : a.S.size < b.S.size
        · obtain ⟨y, hy, ey⟩ := getE (l := sbytes b.S) (i := i) (by omega)
          rw [List.drop_of_length_le (l := sbytes a.S) (by omega), ey]
          have : ord3 (a.S.size : Int) (b.S.size : Int) = -1 := by unfold ord3; rw [if_pos (by omega)]
          rw [this]; simp [lexL]
        · obtain ⟨y, hy, ey⟩ := getE (l := sbytes a.S) (i := i) (by omega)
          rw [List.drop_of_length_le (l := sbytes b.S) (by omega), ey]
          have : ord3 (a.S.size : Int) (b.S.size : Int) = 1 := by unfold ord3; rw [if_neg (by omega), if_pos (by omega)]
          rw [this]; simp [lexL]
    rw [ref01_Compare.l0]
    by_cases hi : i < a.S.size
    · rw [if_pos (dlt hi)]
      by_cases hj : i < b.S.size
      · obtain ⟨x, hx, ex⟩ := getE (l := sbytes a.S) (i := i) (by omega)
        obtain ⟨y, hy, ey⟩ := getE (l := sbytes b.S) (i := i) (by omega)
        have bx := sbytes_range (List.mem_of_getElem? hx)
        have by' := sbytes_range (List.mem_of_getElem? hy)
        rw [show decide ((i : Int) < (b.S.size : Int)) = true from dlt hj]
        unfold ref01_Compare.j1
        rw [if_pos rfl, ixs_of hx, Option.bind_some, ixs_of hy, Option.bind_some, ex, ey, lexL]
        by_cases e : x = y
        · subst e
          rw [if_neg (by simp), w64_nat _ (by omega), ord3_self, if_pos rfl]
          exact refS_l0 ha fuel (i + 1) (by omega) (by omega) (by omega) (by rw [List.take_add_one, List.take_add_one, h4, hx, hy])
        · rw [if_pos (by simpa using e), Option.bind_some, Option.bind_some, w64 (by omega) (by omega), w64 (by omega) (by omega), order_eq, Option.bind_some, if_neg (fun h => e (ord3_zero h)), if_neg (fun h => e (ord3_zero h))]
      · rw [show decide ((i : Int) < (b.S.size : Int)) = false by simpa using hj]
        exact fin (by omega)
    · rw [if_neg (dnl (by omega))]
      exact fin (by omega)
theorem refV_eq {a b : api_Value} (ha : a.S.size < 4611686018427387904) : ref01_Compare a b = some (cmpV a b) := by
  have h0 := refS_l0 (b := b) ha (a.S.size + 1) 0 (Nat.zero_le _) (Nat.zero_le _) (by omega) rfl
  simp only [List.drop_zero] at h0
  have e : cmpV a b = if ord3 a.Kind b.Kind = 0 then if ord3 a.N b.N = 0 then if lexL ord3 (sbytes a.S) (sbytes b.S) = 0 then lexL ord3 a.H.list b.H.list else lexL ord3 (sbytes a.S) (sbytes b.S) else ord3 a.N b.N else ord3 a.Kind b.Kind := rfl
  rw [e]
  unfold ref01_Compare
  rw [fuel_nat]
  by_cases e1 : ord3 a.Kind b.Kind = 0
  · rw [if_neg (by simp [ord3_zero e1]), if_pos e1]
    by_cases e2 : ord3 a.N b.N = 0
    · rw [if_neg (by simp [ord3_zero e2]), if_pos e2]; exact h0
    · rw [if_pos (by simp only [bne_iff_ne, ne_eq]; intro h; rw [h, ord3_self] at e2; exact e2 rfl), order_eq, Option.bind_some, if_neg e2]
  · rw [if_pos (by simp only [bne_iff_ne, ne_eq]; intro h; rw [h, ord3_self] at e1; exact e1 rfl), order_eq, Option.bind_some, if_neg e1]
end Go.Proofs.YtmohocmmelaeaaaDoor.M
