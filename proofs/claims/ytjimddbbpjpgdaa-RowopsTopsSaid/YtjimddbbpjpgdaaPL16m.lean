/- The library's stable sort: two neighbouring rows that stand in order are merged. -/
import Derived.Test.YtjimddbbpjpgdaaPure
import Derived.Test.YtjimddbbpjpgdaaPL16u
namespace Go.Proofs.Ytjimddbbpjpgdaa.M
open Go Go.Eng Go.Proofs Go.RowKit
set_option maxRecDepth 100000
set_option linter.unusedVariables false
set_option linter.unusedSimpArgs false

section
variable {K : Nat}
theorem fwd_l2 {a : Int} {i : Nat} (hi : i < 4611686018427387904) : ∀ (fuel k : Nat) (W1 : LL) (x : List api_Value) (Y W2 : LL), W1.length = k → k + Y.length + 1 = i → Y.length < fuel →
    slices_symMergeCmpFunc_api_Value_f_rowops_Top_1p.l2 a (i : Int) fuel (W1 ++ (x :: (Y ++ W2))) (k : Int) = some (W1 ++ (Y ++ (x :: W2)))
  | 0, k, W1, x, Y, W2, _, _, h => by omega
  | fuel + 1, k, W1, x, Y, W2, h1, h2, h3 => by
    rw [slices_symMergeCmpFunc_api_Value_f_rowops_Top_1p.l2]
    have ei : (i : Int) - 1 = ((i - 1 : Nat) : Int) := by omega
    rw [ei, w64 (x := ((i - 1 : Nat) : Int)) (by omega) (by omega)]
    cases Y with
    | nil =>
      rw [if_neg (by simp only [List.length_nil] at h2; simp; omega)]
      rfl
    | cons y Y =>
      simp only [List.length_cons] at h2 h3
      have d2 : W1 ++ (x :: (y :: Y ++ W2)) = (W1 ++ [x]) ++ y :: (Y ++ W2) := by simp
      have l2 : (W1 ++ [x]).length = k + 1 := by simp only [List.length_append, List.length_singleton]; omega
      have g1 : ix (W1 ++ (x :: (y :: Y ++ W2))) ((k + 1 : Nat) : Int) = some y := by rw [d2]; exact ix_mid _ _ _ l2
      have g2 : ix (W1 ++ (x :: (y :: Y ++ W2))) (k : Int) = some x := ix_mid _ _ _ h1
      have u1 : upd (W1 ++ (x :: (y :: Y ++ W2))) (k : Int) y = (W1 ++ [y]) ++ y :: (Y ++ W2) := by rw [upd_mid _ _ _ _ h1]; simp
      have l3 : (W1 ++ [y]).length = k + 1 := by simp only [List.length_append, List.length_singleton]; omega
      have g3 : ix ((W1 ++ [y]) ++ y :: (Y ++ W2)) ((k + 1 : Nat) : Int) = some y := ix_mid _ _ _ l3
      have u2 : upd ((W1 ++ [y]) ++ y :: (Y ++ W2)) ((k + 1 : Nat) : Int) x = (W1 ++ [y]) ++ (x :: (Y ++ W2)) := upd_mid _ _ _ _ l3
      rw [if_pos (by simp; omega), w64_nat k (by omega), g1, Option.bind_some, g2, Option.bind_some, Option.bind_some, u1, g3, Option.bind_some, u2]
      rw [fwd_l2 hi fuel (k + 1) (W1 ++ [y]) x Y W2 l3 (by omega) (by omega)]
      simp
theorem bwd_l5 {a2 : Int} {i : Nat} : ∀ (fuel k : Nat) (W1 Y : LL) (y : List api_Value) (W2 : LL), W1.length = i → i + Y.length = k → k < 4611686018427387904 → Y.length < fuel →
    slices_symMergeCmpFunc_api_Value_f_rowops_Top_1p.l5 a2 (i : Int) fuel (W1 ++ (Y ++ (y :: W2))) (k : Int) = some (W1 ++ (y :: (Y ++ W2)))
  | 0, k, W1, Y, y, W2, _, _, _, h => by omega
  | fuel + 1, k, W1, Y, y, W2, h1, h2, hk, h3 => by
    rw [slices_symMergeCmpFunc_api_Value_f_rowops_Top_1p.l5]
    rcases List.eq_nil_or_concat Y with rfl | ⟨T, t, rfl⟩
    · rw [if_neg (by simp only [List.length_nil] at h2; simp; omega)]
      rfl
    · rw [List.concat_eq_append] at *
      simp only [List.length_append, List.length_singleton] at h2 h3
      have ek : (k : Int) - 1 = ((k - 1 : Nat) : Int) := by omega
      have d1 : W1 ++ (T ++ [t] ++ (y :: W2)) = (W1 ++ T) ++ t :: (y :: W2) := by simp
      have d2 : W1 ++ (T ++ [t] ++ (y :: W2)) = (W1 ++ T ++ [t]) ++ y :: W2 := by simp
      have l1 : (W1 ++ T).length = k - 1 := by simp only [List.length_append]; omega
      have l2 : (W1 ++ T ++ [t]).length = k := by simp only [List.length_append, List.length_singleton]; omega
      have g1 : ix (W1 ++ (T ++ [t] ++ (y :: W2))) ((k - 1 : Nat) : Int) = some t := by rw [d1]; exact ix_mid _ _ _ l1
      have g2 : ix (W1 ++ (T ++ [t] ++ (y :: W2))) (k : Int) = some y := by rw [d2]; exact ix_mid _ _ _ l2
      have u1 : upd (W1 ++ (T ++ [t] ++ (y :: W2))) (k : Int) t = (W1 ++ T) ++ t :: (t :: W2) := by rw [d2, upd_mid _ _ _ _ l2]; simp
      have g3 : ix ((W1 ++ T) ++ t :: (t :: W2)) ((k - 1 : Nat) : Int) = some t := ix_mid _ _ _ l1
      have u2 : upd ((W1 ++ T) ++ t :: (t :: W2)) ((k - 1 : Nat) : Int) y = W1 ++ (T ++ (y :: (t :: W2))) := by rw [upd_mid _ _ _ _ l1]; simp
      rw [if_pos (by simp; omega), ek, w64 (x := ((k - 1 : Nat) : Int)) (by omega) (by omega), g1, Option.bind_some, g2, Option.bind_some, Option.bind_some, u1, g3, Option.bind_some, u2]
      rw [bwd_l5 fuel (k - 1) W1 T y (t :: W2) h1 (by omega) (by omega) (by omega)]
      simp
/-! the three searches -/
theorem srch_l0 {d : LL} {a m b st : Nat} {x : List api_Value} (hb : b < 1152921504606846976) (hx : d[a]? = some x) (hK : K < x.length) (hg : ∀ c, m ≤ c → c < b → ∃ y, d[c]? = some y ∧ K < y.length ∧ (cmpK K y x < 0 ↔ c < st)) : ∀ (fuel i j : Nat), m ≤ i → i ≤ st → st ≤ j → j ≤ b → j - i < fuel →
    slices_symMergeCmpFunc_api_Value_f_rowops_Top_1p.l0 d (a : Int) (m : Int) (b : Int) (K : Int) fuel (i : Int) (j : Int) = slices_symMergeCmpFunc_api_Value_f_rowops_Top_1p.l2 (a : Int) (st : Int) (((IntKind.i64.wrap ((st : Int) - 1)) - (a : Int)).toNat + 1) d (a : Int)
  | 0, i, j, _, _, _, _, h => by omega
  | fuel + 1, i, j, h0, h1, h2, h3, h4 => by
    rw [slices_symMergeCmpFunc_api_Value_f_rowops_Top_1p.l0]
    by_cases hij : i < j
    · rw [if_pos (by simp; omega), mid_eq i j (by omega)]
      obtain ⟨y, hy, hyK, hiff⟩ := hg ((i + j) / 2) (by omega) (by omega)
      rw [ix_of hy, Option.bind_some, ix_of hx, Option.bind_some, cp_eq hyK hK, Option.bind_some]
      by_cases hc : cmpK K y x < 0
      · have := hiff.1 hc
        rw [if_pos (decide_eq_true hc), slices_symMergeCmpFunc_api_Value_f_rowops_Top_1p.j1, w64_nat _ (by omega)]
        exact srch_l0 hb hx hK hg fuel _ j (by omega) (by omega) h2 h3 (by omega)
      · have := mt hiff.2 hc
        rw [if_neg (by simpa using hc), slices_symMergeCmpFunc_api_Value_f_rowops_Top_1p.j1]
        exact srch_l0 hb hx hK hg fuel i _ h0 h1 (by omega) (by omega) (by omega)
    · rw [if_neg (by simp; omega)]
      have : i = st := by omega
      rw [this]
theorem srch_l3 {d : LL} {a m st : Nat} {x : List api_Value} (hb : m < 1152921504606846976) (hx : d[m]? = some x) (hK : K < x.length) (hg : ∀ c, a ≤ c → c < m → ∃ y, d[c]? = some y ∧ K < y.length ∧ (¬ cmpK K x y < 0 ↔ c < st)) : ∀ (fuel i j : Nat), a ≤ i → i ≤ st → st ≤ j → j ≤ m → j - i < fuel →
    slices_symMergeCmpFunc_api_Value_f_rowops_Top_1p.l3 d (a : Int) (m : Int) (K : Int) fuel (i : Int) (j : Int) = slices_symMergeCmpFunc_api_Value_f_rowops_Top_1p.l5 (m : Int) (st : Int) (((m : Int) - (st : Int)).toNat + 1) d (m : Int)
  | 0, i, j, _, _, _, _, h => by omega
  | fuel + 1, i, j, h0, h1, h2, h3, h4 => by
    rw [slices_symMergeCmpFunc_api_Value_f_rowops_Top_1p.l3]
    by_cases hij : i < j
    · rw [if_pos (by simp; omega), mid_eq i j (by omega)]
      obtain ⟨y, hy, hyK, hiff⟩ := hg ((i + j) / 2) (by omega) (by omega)
      rw [ix_of hx, Option.bind_some, ix_of hy, Option.bind_some, cp_eq hK hyK, Option.bind_some]
      by_cases hc : cmpK K x y < 0
      · have := mt hiff.2 (fun h => h hc)
        rw [if_neg (by simpa using hc), slices_symMergeCmpFunc_api_Value_f_rowops_Top_1p.j4]
        exact srch_l3 hb hx hK hg fuel i _ h0 h1 (by omega) (by omega) (by omega)
      · have := hiff.1 hc
        rw [if_pos (by simpa using hc), slices_symMergeCmpFunc_api_Value_f_rowops_Top_1p.j4, w64_nat _ (by omega)]
        exact srch_l3 hb hx hK hg fuel _ j (by omega) (by omega) h2 h3 (by omega)
    · rw [if_neg (by simp; omega)]
      have : i = st := by omega
      rw [this]
def smTail (kr : LL → Int → Int → Int → Int → Option LL) (d : LL) (a m b K st : Nat) : Option LL :=
  slices_symMergeCmpFunc_api_Value_f_rowops_Top_1p.j9 d (a : Int) (m : Int) (b : Int) (K : Int) kr (st : Int) (decide (st < m ∧ m < (a + b) / 2 + m - st))
theorem srch_l7 {kr : LL → Int → Int → Int → Int → Option LL} {d : LL} {a m b st s0 r0 : Nat} {X Y : Int} (hb : b < 1152921504606846976) (hm : m ≤ b) (ha : a ≤ b) (hr : r0 ≤ m) (hr2 : r0 ≤ (a + b) / 2 + m) (hg : ∀ c, s0 ≤ c → c < r0 → ∃ x y, d[c]? = some x ∧ d[(a + b) / 2 + m - 1 - c]? = some y ∧ K < x.length ∧ K < y.length ∧ (¬ cmpK K y x < 0 ↔ c < st)) (hc : ∀ c, s0 ≤ c → c < r0 → c < (a + b) / 2 + m) : ∀ (fuel i j : Nat), s0 ≤ i → i ≤ st → st ≤ j → j ≤ r0 → j - i < fuel →
    slices_symMergeCmpFunc_api_Value_f_rowops_Top_1p.l7 d (a : Int) (m : Int) (b : Int) (K : Int) kr X Y fuel (i : Int) (j : Int) = smTail kr d a m b K st
  | 0, i, j, _, _, _, _, h => by omega
  | fuel + 1, i, j, h0, h1, h2, h3, h4 => by
    rw [slices_symMergeCmpFunc_api_Value_f_rowops_Top_1p.l7, mid_eq a b (by omega)]
    have e1 : (((a + b) / 2 : Nat) : Int) + (m : Int) = (((a + b) / 2 + m : Nat) : Int) := by omega
    rw [e1, w64 (x := (((a + b) / 2 + m : Nat) : Int)) (by omega) (by omega)]
    by_cases hij : i < j
    · rw [if_pos (by simp; omega), mid_eq i j (by omega)]
      obtain ⟨x, y, hx, hy, hxK, hyK, hiff⟩ := hg ((i + j) / 2) (by omega) (by omega)
      have hlt := hc ((i + j) / 2) (by omega) (by omega)
      have e2 : (((a + b) / 2 + m : Nat) : Int) - 1 = (((a + b) / 2 + m - 1 : Nat) : Int) := by omega
      have e3 : (((a + b) / 2 + m - 1 : Nat) : Int) - (((i + j) / 2 : Nat) : Int) = (((a + b) / 2 + m - 1 - (i + j) / 2 : Nat) : Int) := by omega
      rw [e2, w64 (x := (((a + b) / 2 + m - 1 : Nat) : Int)) (by omega) (by omega), e3, w64 (x := (((a + b) / 2 + m - 1 - (i + j) / 2 : Nat) : Int)) (by omega) (by omega)]
      rw [ix_of hy, Option.bind_some, ix_of hx, Option.bind_some, cp_eq hyK hxK, Option.bind_some]
      by_cases hc2 : cmpK K y x < 0
      · have := mt hiff.2 (fun h => h hc2)
        rw [if_neg (by simpa using hc2), slices_symMergeCmpFunc_api_Value_f_rowops_Top_1p.j8]
        exact srch_l7 hb hm ha hr hr2 hg hc fuel i _ h0 h1 (by omega) (by omega) (by omega)
      · have := hiff.1 hc2
        rw [if_pos (by simpa using hc2), slices_symMergeCmpFunc_api_Value_f_rowops_Top_1p.j8, w64_nat _ (by omega)]
        exact srch_l7 hb hm ha hr hr2 hg hc fuel _ j (by omega) (by omega) h2 h3 (by omega)
    · rw [if_neg (by simp; omega)]
      have : i = st := by omega
      rw [this]
      have e4 : (((a + b) / 2 + m : Nat) : Int) - (st : Int) = (((a + b) / 2 + m - st : Nat) : Int) := by omega
      rw [e4, w64 (x := (((a + b) / 2 + m - st : Nat) : Int)) (by omega) (by omega)]
      unfold smTail
      by_cases hs : st < m
      · rw [if_pos (by simp; omega)]
        congr 1
        apply decide_eq_decide.2
        constructor
        · intro h; exact ⟨hs, by omega⟩
        · intro h; omega
      · rw [if_neg (by simp; omega), decide_eq_false (by omega)]
end
end Go.Proofs.Ytjimddbbpjpgdaa.M
