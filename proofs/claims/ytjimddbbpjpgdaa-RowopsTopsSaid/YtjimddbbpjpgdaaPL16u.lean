/- The library's stable sort: two rows that stand in order are merged in place. -/
import Derived.Test.YtjimddbbpjpgdaaPure
import Derived.Test.YtjimddbbpjpgdaaPL16s
namespace Go.Proofs.Ytjimddbbpjpgdaa.M
open Go Go.Eng Go.Proofs Go.RowKit
set_option maxRecDepth 100000
set_option linter.unusedVariables false
set_option linter.unusedSimpArgs false

section
variable {K : Nat}
/-! ranges change places -/
theorem swap_l0 {a b n : Nat} (hb : b + n < 4611686018427387904) : ∀ (fuel i : Nat) (W1 X Z Y W2 : LL), W1.length = a + i → X.length + i = n → Y.length + i = n → W1.length + X.length + Z.length = b + i → X.length < fuel →
    slices_swapRangeCmpFunc_api_Value_f_rowops_Top_1p.l0 (a : Int) (b : Int) (n : Int) fuel (W1 ++ (X ++ (Z ++ (Y ++ W2)))) (i : Int) = some (W1 ++ (Y ++ (Z ++ (X ++ W2))))
  | 0, i, W1, X, Z, Y, W2, _, _, _, _, h => by omega
  | fuel + 1, i, W1, X, Z, Y, W2, h1, h2, h3, h4, h5 => by
    rw [slices_swapRangeCmpFunc_api_Value_f_rowops_Top_1p.l0]
    match X, Y, h2, h3 with
    | [], [], h2, h3 =>
      rw [if_neg (by simp only [List.length_nil] at h2; simp; omega)]
    | [], y :: Y, h2, h3 => simp only [List.length_nil, List.length_cons] at h2 h3; omega
    | x :: X, [], h2, h3 => simp only [List.length_nil, List.length_cons] at h2 h3; omega
    | x :: X, y :: Y, h2, h3 =>
      simp only [List.length_cons] at h2 h3 h4 h5
      have ea : (a : Int) + (i : Int) = ((a + i : Nat) : Int) := by omega
      have eb : (b : Int) + (i : Int) = ((b + i : Nat) : Int) := by omega
      have d1 : W1 ++ (x :: X ++ (Z ++ (y :: Y ++ W2))) = (W1 ++ x :: (X ++ Z)) ++ y :: (Y ++ W2) := by simp
      have d2 : W1 ++ (x :: X ++ (Z ++ (y :: Y ++ W2))) = W1 ++ x :: (X ++ (Z ++ (y :: Y ++ W2))) := by simp
      have l1 : (W1 ++ x :: (X ++ Z)).length = b + i := by simp only [List.length_append, List.length_cons]; omega
      have g1 : ix (W1 ++ (x :: X ++ (Z ++ (y :: Y ++ W2)))) ((b + i : Nat) : Int) = some y := by rw [d1]; exact ix_mid _ _ _ l1
      have g2 : ix (W1 ++ (x :: X ++ (Z ++ (y :: Y ++ W2)))) ((a + i : Nat) : Int) = some x := by rw [d2]; exact ix_mid _ _ _ h1
      have u1 : upd (W1 ++ (x :: X ++ (Z ++ (y :: Y ++ W2)))) ((a + i : Nat) : Int) y = (W1 ++ y :: (X ++ Z)) ++ y :: (Y ++ W2) := by rw [d2, upd_mid _ _ _ _ h1]; simp
      have l2 : (W1 ++ y :: (X ++ Z)).length = b + i := by simp only [List.length_append, List.length_cons]; omega
      have g3 : ix ((W1 ++ y :: (X ++ Z)) ++ y :: (Y ++ W2)) ((b + i : Nat) : Int) = some y := ix_mid _ _ _ l2
      have u2 : upd ((W1 ++ y :: (X ++ Z)) ++ y :: (Y ++ W2)) ((b + i : Nat) : Int) x = (W1 ++ [y]) ++ (X ++ ((Z ++ [x]) ++ (Y ++ W2))) := by rw [upd_mid _ _ _ _ l2]; simp
      rw [if_pos (by simp; omega), ea, eb, w64 (x := ((b + i : Nat) : Int)) (by omega) (by omega), w64 (x := ((a + i : Nat) : Int)) (by omega) (by omega), g1, Option.bind_some, g2, Option.bind_some, Option.bind_some, u1, g3, Option.bind_some, u2, w64_nat i (by omega)]
      rw [swap_l0 hb fuel (i + 1) (W1 ++ [y]) X (Z ++ [x]) Y W2 (by simp only [List.length_append, List.length_singleton]; omega) (by omega) (by omega) (by simp only [List.length_append, List.length_singleton]; omega) (by omega)]
      simp
theorem swap_eq {a b n : Nat} {k : Int} (hb : b + n < 4611686018427387904) {W1 X Z Y W2 : LL} (h1 : W1.length = a) (h2 : X.length = n) (h3 : Y.length = n) (h4 : a + X.length + Z.length = b) :
    slices_swapRangeCmpFunc_api_Value_f_rowops_Top_1p (W1 ++ (X ++ (Z ++ (Y ++ W2)))) (a : Int) (b : Int) (n : Int) k = some (W1 ++ (Y ++ (Z ++ (X ++ W2)))) := by
  unfold slices_swapRangeCmpFunc_api_Value_f_rowops_Top_1p
  rw [fuel_nat]
  exact swap_l0 hb (n + 1) 0 W1 X Z Y W2 (by omega) (by omega) (by omega) (by omega) (by omega)
theorem rot_l0 {a1 a3 : Int} {k : Int} {m : Nat} : ∀ (fuel i j : Nat) (W1 X Y W2 : LL), W1.length + X.length = m → X.length = i → Y.length = j → 1 ≤ i → 1 ≤ j → i + j < fuel → m + j < 2305843009213693952 →
    slices_rotateCmpFunc_api_Value_f_rowops_Top_1p.l0 a1 (m : Int) a3 k fuel (W1 ++ (X ++ (Y ++ W2))) (i : Int) (j : Int) = some (W1 ++ (Y ++ (X ++ W2)))
  | 0, i, j, W1, X, Y, W2, _, _, _, _, _, h, _ => by omega
  | fuel + 1, i, j, W1, X, Y, W2, h1, h2, h3, h4, h5, h6, h7 => by
    rw [slices_rotateCmpFunc_api_Value_f_rowops_Top_1p.l0]
    have ea : (m : Int) - (i : Int) = ((W1.length : Nat) : Int) := by omega
    by_cases hne : i = j
    · rw [if_neg (by simp [hne]), ea, w64 (x := (W1.length : Int)) (by omega) (by omega)]
      have := swap_eq (a := W1.length) (b := m) (n := i) (k := k) (by omega) (W1 := W1) (X := X) (Z := []) (Y := Y) (W2 := W2) rfl h2 (by omega) (by simp; omega)
      simp only [List.nil_append] at this
      rw [this]; rfl
    · rw [if_pos (by simp; omega)]
      by_cases hgt : i > j
      · rw [if_pos (by simp; omega), ea, w64 (x := (W1.length : Int)) (by omega) (by omega)]
        have hx : X = X.take j ++ X.drop j := (List.take_append_drop _ _).symm
        have lt1 : (X.take j).length = j := by rw [List.length_take]; omega
        have lt2 : (X.drop j).length = i - j := by rw [List.length_drop]; omega
        generalize X.take j = X1 at *
        generalize X.drop j = X2 at *
        subst hx
        have := swap_eq (a := W1.length) (b := m) (n := j) (k := k) (by omega) (W1 := W1) (X := X1) (Z := X2) (Y := Y) (W2 := W2) rfl lt1 h3 (by omega)
        rw [show W1 ++ (X1 ++ X2 ++ (Y ++ W2)) = W1 ++ (X1 ++ (X2 ++ (Y ++ W2))) by simp, this, Option.bind_some]
        unfold slices_rotateCmpFunc_api_Value_f_rowops_Top_1p.j1
        have ei : (i : Int) - (j : Int) = ((i - j : Nat) : Int) := by omega
        rw [ei, w64 (x := ((i - j : Nat) : Int)) (by omega) (by omega), show W1 ++ (Y ++ (X2 ++ (X1 ++ W2))) = (W1 ++ Y) ++ (X2 ++ (X1 ++ W2)) by simp]
        rw [rot_l0 fuel (i - j) j (W1 ++ Y) X2 X1 W2 (by simp only [List.length_append] at *; omega) lt2 lt1 (by omega) h5 (by omega) h7]
        simp
      · rw [if_neg (by simp; omega), ea, w64 (x := (W1.length : Int)) (by omega) (by omega)]
        have hy : Y = Y.take (j - i) ++ Y.drop (j - i) := (List.take_append_drop _ _).symm
        have lt1 : (Y.take (j - i)).length = j - i := by rw [List.length_take]; omega
        have lt2 : (Y.drop (j - i)).length = i := by rw [List.length_drop]; omega
        generalize Y.take (j - i) = Y1 at *
        generalize Y.drop (j - i) = Y2 at *
        subst hy
        have eb : (m : Int) + (j : Int) = ((m + j : Nat) : Int) := by omega
        have eb2 : ((m + j : Nat) : Int) - (i : Int) = ((m + j - i : Nat) : Int) := by omega
        rw [eb, w64 (x := ((m + j : Nat) : Int)) (by omega) (by omega), eb2, w64 (x := ((m + j - i : Nat) : Int)) (by omega) (by omega)]
        have := swap_eq (a := W1.length) (b := m + j - i) (n := i) (k := k) (by omega) (W1 := W1) (X := X) (Z := Y1) (Y := Y2) (W2 := W2) rfl h2 lt2 (by omega)
        rw [show W1 ++ (X ++ (Y1 ++ Y2 ++ W2)) = W1 ++ (X ++ (Y1 ++ (Y2 ++ W2))) by simp, this, Option.bind_some]
        unfold slices_rotateCmpFunc_api_Value_f_rowops_Top_1p.j1
        have ei : (j : Int) - (i : Int) = ((j - i : Nat) : Int) := by omega
        rw [ei, w64 (x := ((j - i : Nat) : Int)) (by omega) (by omega)]
        rw [rot_l0 fuel i (j - i) W1 Y2 Y1 (X ++ W2) (by omega) lt2 lt1 h4 (by omega) (by omega) (by omega)]
        simp
theorem rot_eq {a m b : Nat} {k : Int} {W1 X Y W2 : LL} (h1 : W1.length = a) (h2 : a + X.length = m) (h3 : m + Y.length = b) (h4 : 1 ≤ X.length) (h5 : 1 ≤ Y.length) (hb : b < 2305843009213693952) :
    slices_rotateCmpFunc_api_Value_f_rowops_Top_1p (W1 ++ (X ++ (Y ++ W2))) (a : Int) (m : Int) (b : Int) k = some (W1 ++ (Y ++ (X ++ W2))) := by
  unfold slices_rotateCmpFunc_api_Value_f_rowops_Top_1p
  have e1 : (m : Int) - (a : Int) = ((X.length : Nat) : Int) := by omega
  have e2 : (b : Int) - (m : Int) = ((Y.length : Nat) : Int) := by omega
  rw [e1, e2, w64 (x := (X.length : Int)) (by omega) (by omega), w64 (x := (Y.length : Int)) (by omega) (by omega)]
  exact rot_l0 _ X.length Y.length W1 X Y W2 (by omega) rfl rfl h4 h5 (by omega) (by omega)
/-! searching -/
theorem exsplit {g : Nat → Prop} : ∀ (n s0 : Nat), (∀ c c', s0 ≤ c → c ≤ c' → c' < s0 + n → g c' → g c) → ∃ st, s0 ≤ st ∧ st ≤ s0 + n ∧ ∀ c, s0 ≤ c → c < s0 + n → (g c ↔ c < st)
  | 0, s0, _ => ⟨s0, Nat.le_refl _, Nat.le_refl _, fun c h1 h2 => by omega⟩
  | n + 1, s0, h => by
    by_cases hg : g (s0 + n)
    · exact ⟨s0 + n + 1, by omega, by omega, fun c h1 h2 => ⟨fun _ => by omega, fun _ => h c (s0 + n) h1 (by omega) (by omega) hg⟩⟩
    · obtain ⟨st, k1, k2, k3⟩ := exsplit n s0 (fun c c' h1 h2 h3 => h c c' h1 h2 (by omega))
      refine ⟨st, k1, by omega, fun c h1 h2 => ?_⟩
      by_cases hc : c = s0 + n
      · subst hc
        exact ⟨fun h => absurd h hg, fun h => by omega⟩
      · exact k3 c h1 (by omega)
theorem mid_eq (i j : Nat) (h : i + j < 4611686018427387904) : IntKind.i64.wrap ((IntKind.u64.wrap (IntKind.i64.wrap ((i : Int) + (j : Int)))).fdiv (2 ^ (min (1 : Int).toNat 64))) = (((i + j) / 2 : Nat) : Int) := by
  rw [w64 (x := (i : Int) + (j : Int)) (by omega) (by omega)]
  have e1 : IntKind.u64.wrap ((i : Int) + (j : Int)) = (i : Int) + (j : Int) := by
    simp only [IntKind.wrap, IntKind.bits, IntKind.signed, Bool.false_and, Bool.false_eq_true, if_false]
    omega
  have e2 : (2 : Int) ^ (min (1 : Int).toNat 64) = 2 := by decide
  rw [e1, e2, Int.fdiv_eq_ediv_of_nonneg _ (by decide), w64 (by omega) (by omega)]
  omega
theorem asc_ge {A : LL} (h : Asc (cmpT K) A) {i j : Nat} {x y : List api_Value} (hij : i ≤ j) (hx : A[i]? = some x) (hy : A[j]? = some y) : cmpT K x y ≤ 0 := by
  obtain ⟨hi, ex⟩ := List.getElem?_eq_some_iff.1 hx
  obtain ⟨hj, ey⟩ := List.getElem?_eq_some_iff.1 hy
  rcases Nat.lt_or_ge i j with hlt | hge
  · have := List.pairwise_iff_getElem.1 h i j hi hj hlt
    rw [ex, ey] at this; exact this
  · have : i = j := by omega
    subst this
    rw [hx] at hy; cases hy
    have := (cmpT_cmp K).refl x; omega
end
end Go.Proofs.Ytjimddbbpjpgdaa.M
