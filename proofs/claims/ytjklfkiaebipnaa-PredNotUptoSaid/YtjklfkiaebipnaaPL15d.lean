/- Conditions as trees: their nodes, and which rows they hold for. -/
import Derived.Test.YtjklfkiaebipnaaPure
import Derived.Test.YtjklfkiaebipnaaPLHe
namespace Go.Proofs.Ytjklfkiaebipnaa.M
open Go Go.Eng Go.Proofs Go.RowKit
set_option maxRecDepth 100000
set_option linter.unusedVariables false
set_option linter.unusedSimpArgs false

inductive Cn
  | cmp (s : ByteArray) (k : Int) (v : api_Value)
  | has (s : ByteArray) (v : ByteArray)
  | not (x : Cn)
  | and (x y : Cn)
  | or (x y : Cn)
def V0 : api_Value := ⟨0, 0, (⟨#[]⟩ : ByteArray), (⟨0, 0, 0, 0, 0, 0, 0, 0⟩ : Arr8)⟩
def vS (s : ByteArray) : api_Value := ⟨2, 0, s, (⟨0, 0, 0, 0, 0, 0, 0, 0⟩ : Arr8)⟩
def nCmp (s : ByteArray) (k : Int) (v : api_Value) : api_Node := ⟨14, s, k, 0, 0, v, [], [], []⟩
def nHas (s : ByteArray) (v : ByteArray) : api_Node := ⟨15, s, 0, 0, 0, vS v, [], [], []⟩
def nNot (i : Int) : api_Node := ⟨13, (⟨#[]⟩ : ByteArray), 0, 0, 0, V0, [i], [], []⟩
def nAnd (i j : Int) : api_Node := ⟨11, (⟨#[]⟩ : ByteArray), 0, 0, 0, V0, [i, j], [], []⟩
def nOr (i j : Int) : api_Node := ⟨12, (⟨#[]⟩ : ByteArray), 0, 0, 0, V0, [i, j], [], []⟩
def Cn.sz : Cn → Nat
  | .cmp _ _ _ => 1
  | .has _ _ => 1
  | .not x => x.sz + 1
  | .and x y => x.sz + y.sz + 1
  | .or x y => x.sz + y.sz + 1
def Cn.fl : Cn → Nat → List api_Node
  | .cmp s k v, b => [nCmp s k v]
  | .has s v, b => [nHas s v]
  | .not x, b => x.fl b ++ [nNot ((b + x.sz : Nat) - 1)]
  | .and x y, b => x.fl b ++ (y.fl (b + x.sz) ++ [nAnd ((b + x.sz : Nat) - 1) ((b + x.sz + y.sz : Nat) - 1)])
  | .or x y, b => x.fl b ++ (y.fl (b + x.sz) ++ [nOr ((b + x.sz : Nat) - 1) ((b + x.sz + y.sz : Nat) - 1)])
theorem fl_len : ∀ (c : Cn) (b : Nat), (c.fl b).length = c.sz
  | .cmp _ _ _, b => rfl
  | .has _ _, b => rfl
  | .not x, b => by simp [Cn.fl, Cn.sz, fl_len x]
  | .and x y, b => by simp [Cn.fl, Cn.sz, fl_len x, fl_len y]; omega
  | .or x y, b => by simp [Cn.fl, Cn.sz, fl_len x, fl_len y]; omega
theorem sz_pos : ∀ c : Cn, 1 ≤ c.sz
  | .cmp _ _ _ => Nat.le_refl _
  | .has _ _ => Nat.le_refl _
  | .not x => by simp [Cn.sz]
  | .and x y => by simp [Cn.sz]
  | .or x y => by simp [Cn.sz]
def Cn.ev (cols : List api_Col) (row : List api_Value) : Cn → Bool
  | .cmp s k v => (match cellS cols row s with | some u => holdsS k u v | none => false)
  | .has s v => (match cellS cols row s with | some u => decide (u.Kind = 2) && Lib.contains u.S.data.toList v.data.toList | none => false)
  | .not x => !x.ev cols row
  | .and x y => x.ev cols row && y.ev cols row
  | .or x y => x.ev cols row || y.ev cols row
section
variable {cols : List api_Col} {row : List api_Value} {ns : List api_Node} {m : Nat}
theorem ev_keep {j : Nat} : ∀ k, j < k → (evS cols row ns m k).getD j false = (evS cols row ns m (j + 1)).getD j false
  | 0, h => by omega
  | k + 1, h => by
    by_cases hk : j = k
    · subst hk; rfl
    · rw [← ev_keep k (by omega), evS]
      split
      · rw [List.getD_eq_getElem?_getD, List.getD_eq_getElem?_getD, List.getElem?_set_ne (by omega)]
      · rfl
theorem ev_own {j : Nat} {n : api_Node} (hj : j < m) (hn : ns[j]? = some n) : (evS cols row ns m (j + 1)).getD j false = nodeS cols row (evS cols row ns m j) j n := by
  rw [ev_step hn, List.getD_eq_getElem?_getD, List.getElem?_set_self (by rw [ev_len]; exact hj)]; rfl
theorem seg_left {A B : List api_Node} {b n : Nat} (h : ∀ j, j < (A ++ B).length → ns[b + j]? = (A ++ B)[j]?) : ∀ j, j < A.length → ns[b + j]? = A[j]? := fun j hj => by
  rw [h j (by rw [List.length_append]; omega), List.getElem?_append_left hj]
theorem seg_right {A B : List api_Node} {b n : Nat} (h : ∀ j, j < (A ++ B).length → ns[b + j]? = (A ++ B)[j]?) (hn : A.length = n) : ∀ j, j < B.length → ns[b + n + j]? = B[j]? := fun j hj => by
  have := h (n + j) (by rw [List.length_append]; omega)
  rw [← Nat.add_assoc] at this
  rw [this, List.getElem?_append_right (by omega), hn]
  congr 1; omega
theorem below_one {i : Int} {k : Nat} (h0 : 0 ≤ i) (h1 : i < (k : Int)) : belowS 1 [i] k = true := by simp [belowS, h0, h1]
theorem below_two {i j : Int} {k : Nat} (h0 : 0 ≤ i) (h1 : i < (k : Int)) (h2 : 0 ≤ j) (h3 : j < (k : Int)) : belowS 2 [i, j] k = true := by simp [belowS, h0, h1, h2, h3]
/-- What a tree's last node tells. -/
theorem ev_cn : ∀ (c : Cn) (b : Nat), (∀ j, j < (c.fl b).length → ns[b + j]? = (c.fl b)[j]?) → b + c.sz ≤ m → ∀ k, b + c.sz ≤ k → (evS cols row ns m k).getD (b + c.sz - 1) false = c.ev cols row
  | .cmp s k v, b, h, hm, q, hq => by
    simp only [Cn.sz] at hm hq ⊢
    have h0 := h 0 (by simp [Cn.fl])
    rw [Nat.add_zero] at h0
    rw [show b + 1 - 1 = b by omega, ev_keep q (by omega), ev_own (by omega) h0]
    rfl
  | .has s v, b, h, hm, q, hq => by
    simp only [Cn.sz] at hm hq ⊢
    have h0 := h 0 (by simp [Cn.fl])
    rw [Nat.add_zero] at h0
    rw [show b + 1 - 1 = b by omega, ev_keep q (by omega), ev_own (by omega) h0]
    rfl
  | .not x, b, h, hm, q, hq => by
    simp only [Cn.sz] at hm hq ⊢
    have hx := sz_pos x
    simp only [Cn.fl] at h
    have h1 := ev_cn x b (seg_left (n := 0) h) (by omega) (b + x.sz) (Nat.le_refl _)
    have h2 := seg_right (n := x.sz) h (fl_len x b) 0 (by simp)
    rw [Nat.add_zero] at h2
    rw [show b + (x.sz + 1) - 1 = b + x.sz by omega, ev_keep q (by omega), ev_own (by omega) h2]
    have e : (((b + x.sz : Nat) : Int) - 1).toNat = b + x.sz - 1 := by omega
    show (belowS 1 [((b + x.sz : Nat) : Int) - 1] (b + x.sz) && !getS (evS cols row ns m (b + x.sz)) [((b + x.sz : Nat) : Int) - 1] 0) = _
    rw [below_one (by omega) (by omega)]
    unfold getS
    show (true && !(evS cols row ns m (b + x.sz)).getD (((b + x.sz : Nat) : Int) - 1).toNat false) = _
    rw [e, h1, Bool.true_and]; rfl
  | .and x y, b, h, hm, q, hq => by
    simp only [Cn.sz] at hm hq ⊢
    have hx := sz_pos x
    have hy := sz_pos y
    simp only [Cn.fl] at h
    have h1 := ev_cn x b (seg_left (n := 0) h) (by omega) (b + x.sz + y.sz) (by omega)
    have hr := seg_right (n := x.sz) h (fl_len x b)
    have h2 := ev_cn y (b + x.sz) (seg_left (n := 0) hr) (by omega) (b + x.sz + y.sz) (Nat.le_refl _)
    have h3 := seg_right (n := y.sz) hr (fl_len y _) 0 (by simp)
    rw [Nat.add_zero] at h3
    rw [show b + (x.sz + y.sz + 1) - 1 = b + x.sz + y.sz by omega, ev_keep q (by omega), ev_own (by omega) h3]
    have e : (((b + x.sz : Nat) : Int) - 1).toNat = b + x.sz - 1 := by omega
    have e2 : (((b + x.sz + y.sz : Nat) : Int) - 1).toNat = b + x.sz + y.sz - 1 := by omega
    show (belowS 2 [((b + x.sz : Nat) : Int) - 1, ((b + x.sz + y.sz : Nat) : Int) - 1] (b + x.sz + y.sz) && (getS (evS cols row ns m (b + x.sz + y.sz)) [((b + x.sz : Nat) : Int) - 1, ((b + x.sz + y.sz : Nat) : Int) - 1] 0 && getS (evS cols row ns m (b + x.sz + y.sz)) [((b + x.sz : Nat) : Int) - 1, ((b + x.sz + y.sz : Nat) : Int) - 1] 1)) = _
    rw [below_two (by omega) (by omega) (by omega) (by omega)]
    unfold getS
    show (true && ((evS cols row ns m (b + x.sz + y.sz)).getD (((b + x.sz : Nat) : Int) - 1).toNat false && (evS cols row ns m (b + x.sz + y.sz)).getD (((b + x.sz + y.sz : Nat) : Int) - 1).toNat false)) = _
    rw [e, e2, h1, h2, Bool.true_and]; rfl
  | .or x y, b, h, hm, q, hq => by
    simp only [Cn.sz] at hm hq ⊢
    have hx := sz_pos x
    have hy := sz_pos y
    simp only [Cn.fl] at h
    have h1 := ev_cn x b (seg_left (n := 0) h) (by omega) (b + x.sz + y.sz) (by omega)
    have hr := seg_right (n := x.sz) h (fl_len x b)
    have h2 := ev_cn y (b + x.sz) (seg_left (n := 0) hr) (by omega) (b + x.sz + y.sz) (Nat.le_refl _)
    have h3 := seg_right (n := y.sz) hr (fl_len y _) 0 (by simp)
    rw [Nat.add_zero] at h3
    rw [show b + (x.sz + y.sz + 1) - 1 = b + x.sz + y.sz by omega, ev_keep q (by omega), ev_own (by omega) h3]
    have e : (((b + x.sz : Nat) : Int) - 1).toNat = b + x.sz - 1 := by omega
    have e2 : (((b + x.sz + y.sz : Nat) : Int) - 1).toNat = b + x.sz + y.sz - 1 := by omega
    show (belowS 2 [((b + x.sz : Nat) : Int) - 1, ((b + x.sz + y.sz : Nat) : Int) - 1] (b + x.sz + y.sz) && (getS (evS cols row ns m (b + x.sz + y.sz)) [((b + x.sz : Nat) : Int) - 1, ((b + x.sz + y.sz : Nat) : Int) - 1] 0 || getS (evS cols row ns m (b + x.sz + y.sz)) [((b + x.sz : Nat) : Int) - 1, ((b + x.sz + y.sz : Nat) : Int) - 1] 1)) = _
    rw [below_two (by omega) (by omega) (by omega) (by omega)]
    unfold getS
    show (true && ((evS cols row ns m (b + x.sz + y.sz)).getD (((b + x.sz : Nat) : Int) - 1).toNat false || (evS cols row ns m (b + x.sz + y.sz)).getD (((b + x.sz + y.sz : Nat) : Int) - 1).toNat false)) = _
    rw [e, e2, h1, h2, Bool.true_and]; rfl
end
/-- Of a query that is a tree's nodes, and perhaps more behind them, the tree's last one. -/
theorem holds_cn {c : Cn} {ns : List api_Node} {cols : List api_Col} {row : List api_Value} : holdsQ ⟨c.fl 0 ++ ns⟩ ((c.sz : Int) - 1) cols row = c.ev cols row := by
  have hp := sz_pos c
  unfold holdsQ
  rw [if_neg (by simp only [List.length_append, fl_len]; omega)]
  have e : ((c.sz : Int) - 1).toNat = c.sz - 1 := by omega
  rw [e, show c.sz - 1 + 1 = c.sz by omega]
  have := ev_cn (cols := cols) (row := row) (ns := c.fl 0 ++ ns) (m := c.sz) c 0 (fun j hj => by rw [Nat.zero_add, List.getElem?_append_left hj]) (by omega) c.sz (by omega)
  rw [Nat.zero_add] at this
  exact this
end Go.Proofs.Ytjklfkiaebipnaa.M
