/- The library's stable sort: merging, by recursion. -/
import Derived.Test.YtjimddbbpjpgdaaPure
import Derived.Test.YtjimddbbpjpgdaaPL16m
namespace Go.Proofs.Ytjimddbbpjpgdaa.M
open Go Go.Eng Go.Proofs Go.RowKit
set_option maxRecDepth 100000
set_option linter.unusedVariables false
set_option linter.unusedSimpArgs false

section
variable {K : Nat}
def KrOk (K F : Nat) (kr : LL → Int → Int → Int → Int → Option LL) : Prop := ∀ (P A B Q : LL) (a m b : Nat), P.length = a → a + A.length = m → m + B.length = b → 1 ≤ A.length → 1 ≤ B.length → b < 1152921504606846976 → has K (A ++ B) → Asc (cmpT K) A → Asc (cmpT K) B → bef A B → A.length + B.length < F →
  kr (P ++ (A ++ (B ++ Q))) (a : Int) (m : Int) (b : Int) (K : Int) = some (P ++ (sortC (cmpT K) (A ++ B) ++ Q))
theorem lt_or_ge' (x y : Int) : x < y ∨ y ≤ x := by omega
theorem sorted_is {A : LL} (h : Asc (cmpT K) A) : sortC (cmpT K) A = A := (asc_uniq (cmpT_cmp K) (cmpT_zero K) h (sortC_asc (cmpT_cmp K) _) (sortC_perm _ _).symm).symm
theorem tail_eq {kr : LL → Int → Int → Int → Int → Option LL} {F : Nat} (hkr : KrOk K F kr) {P A1 A2 B1 B2 Q : LL} {a m b st : Nat} (hb : b < 1152921504606846976) (h0 : P.length = a) (h1 : a + A1.length = st) (h2 : st + A2.length = m) (h3 : m + B1.length + B2.length = b) (h4 : st + B1.length = (a + b) / 2) (hF : A1.length + B1.length < F) (hF2 : A2.length + B2.length < F)
    (hh : has K ((A1 ++ A2) ++ (B1 ++ B2))) (hA : Asc (cmpT K) (A1 ++ A2)) (hB : Asc (cmpT K) (B1 ++ B2)) (hbf : bef (A1 ++ A2) (B1 ++ B2)) :
    smTail kr (P ++ (A1 ++ A2 ++ (B1 ++ B2 ++ Q))) a m b K st = some (P ++ (sortC (cmpT K) (A1 ++ B1) ++ (sortC (cmpT K) (A2 ++ B2) ++ Q))) := by
  unfold Asc at hA hB
  obtain ⟨a1, a2, a3⟩ := List.pairwise_append.1 hA
  obtain ⟨b1, b2, b3⟩ := List.pairwise_append.1 hB
  have e1 : IntKind.i64.wrap ((((a + b) / 2 : Nat) : Int) + (m : Int)) = (((a + b) / 2 + m : Nat) : Int) := by rw [w64 (by omega) (by omega)]; omega
  have e2 : IntKind.i64.wrap ((((a + b) / 2 + m : Nat) : Int) - (st : Int)) = ((m + B1.length : Nat) : Int) := by rw [w64 (by omega) (by omega)]; omega
  have j12 : slices_symMergeCmpFunc_api_Value_f_rowops_Top_1p.j12 (a : Int) (m : Int) (b : Int) (K : Int) kr (st : Int) (P ++ (sortC (cmpT K) (A1 ++ B1) ++ (A2 ++ (B2 ++ Q)))) = some (P ++ (sortC (cmpT K) (A1 ++ B1) ++ (sortC (cmpT K) (A2 ++ B2) ++ Q))) := by
    unfold slices_symMergeCmpFunc_api_Value_f_rowops_Top_1p.j12 slices_symMergeCmpFunc_api_Value_f_rowops_Top_1p.j13
    rw [mid_eq a b (by omega), e1, e2]
    by_cases hA2 : 1 ≤ A2.length
    · by_cases hB2 : 1 ≤ B2.length
      · rw [if_pos (by simp; omega), if_pos (by simp; omega)]
        have := hkr (P ++ sortC (cmpT K) (A1 ++ B1)) A2 B2 Q ((a + b) / 2) (m + B1.length) b (by simp only [List.length_append, sortC_len]; omega) (by omega) (by omega) hA2 hB2 hb (fun r hr => hh r (by simp at hr ⊢; rcases hr with h | h <;> simp [h])) a2 b2 (fun x hx y hy => hbf x (by simp [hx]) y (by simp [hy])) hF2
        simp only [List.append_assoc] at this ⊢
        rw [this]; rfl
      · have : B2 = [] := List.eq_nil_of_length_eq_zero (by omega)
        subst this
        rw [if_pos (by simp; omega), if_neg (by simp at h3 ⊢; omega)]
        rw [List.append_nil, sorted_is a2]; rfl
    · have : A2 = [] := List.eq_nil_of_length_eq_zero (by omega)
      subst this
      rw [if_neg (by simp at h2 ⊢; omega), if_neg (by simp)]
      have e : sortC (cmpT K) ([] ++ B2) = B2 := sorted_is b2
      rw [e]; rfl
  have j10 : slices_symMergeCmpFunc_api_Value_f_rowops_Top_1p.j10 (a : Int) (m : Int) (b : Int) (K : Int) kr (st : Int) (P ++ (A1 ++ (B1 ++ (A2 ++ (B2 ++ Q))))) = some (P ++ (sortC (cmpT K) (A1 ++ B1) ++ (sortC (cmpT K) (A2 ++ B2) ++ Q))) := by
    unfold slices_symMergeCmpFunc_api_Value_f_rowops_Top_1p.j10 slices_symMergeCmpFunc_api_Value_f_rowops_Top_1p.j11
    rw [mid_eq a b (by omega)]
    by_cases hA1 : 1 ≤ A1.length
    · by_cases hB1 : 1 ≤ B1.length
      · rw [if_pos (by simp; omega), if_pos (by simp; omega)]
        rw [hkr P A1 B1 (A2 ++ (B2 ++ Q)) a st ((a + b) / 2) h0 h1 h4 hA1 hB1 (by omega) (fun r hr => hh r (by simp at hr ⊢; rcases hr with h | h <;> simp [h])) a1 b1 (fun x hx y hy => hbf x (by simp [hx]) y (by simp [hy])) hF]
        exact j12
      · have : B1 = [] := List.eq_nil_of_length_eq_zero (by omega)
        subst this
        rw [if_pos (by simp; omega), if_neg (by simp at h4 ⊢; omega)]
        rw [List.append_nil, sorted_is a1] at j12
        rw [List.append_nil, sorted_is a1]
        simpa using j12
    · have : A1 = [] := List.eq_nil_of_length_eq_zero (by omega)
      subst this
      rw [if_neg (by simp at h1 ⊢; omega), if_neg (by simp)]
      have e : sortC (cmpT K) ([] ++ B1) = B1 := sorted_is b1
      rw [e] at j12 ⊢
      simpa using j12
  unfold smTail slices_symMergeCmpFunc_api_Value_f_rowops_Top_1p.j9
  rw [mid_eq a b (by omega), e1, e2]
  by_cases hr : st < m ∧ m < (a + b) / 2 + m - st
  · rw [if_pos (by simpa using hr)]
    have hA2 : 1 ≤ A2.length := by omega
    have hB1 : 1 ≤ B1.length := by omega
    have := rot_eq (a := st) (m := m) (b := m + B1.length) (k := (K : Int)) (W1 := P ++ A1) (X := A2) (Y := B1) (W2 := B2 ++ Q) (by simp only [List.length_append]; omega) h2 rfl hA2 hB1 (by omega)
    simp only [List.append_assoc] at this j10 ⊢
    rw [this, Option.bind_some]
    exact j10
  · rw [if_neg (by simpa using hr)]
    by_cases hA2 : A2.length = 0
    · have : A2 = [] := List.eq_nil_of_length_eq_zero hA2
      subst this
      simpa using j10
    · have : B1 = [] := List.eq_nil_of_length_eq_zero (by omega)
      subst this
      simpa using j10
theorem bef_T {A B : LL} (h : bef A B) {x y : List api_Value} (hx : x ∈ A) (hy : y ∈ B) : cmpK K y x < 0 ↔ cmpT K y x < 0 := cmpT_key (h x hx y hy)
theorem in_A {P A R : LL} {a c : Nat} (h0 : P.length = a) (h1 : a ≤ c) (h2 : c < a + A.length) : ∃ x, (P ++ (A ++ R))[c]? = some x ∧ A[c - a]? = some x ∧ x ∈ A := by
  have hl : c - a < A.length := by omega
  refine ⟨A[c - a], ?_, List.getElem?_eq_getElem hl, List.getElem_mem hl⟩
  rw [List.getElem?_append_right (by omega), h0, List.getElem?_append_left (by omega), List.getElem?_eq_getElem hl]
theorem asc_le {A : LL} (h : Asc (cmpT K) A) {i j : Nat} {x y : List api_Value} (hij : i ≤ j) (hx : A[i]? = some x) (hy : A[j]? = some y) : cmpT K x y ≤ 0 := asc_ge h hij hx hy
theorem sm_r : ∀ (F : Nat), KrOk K F (slices_symMergeCmpFunc_api_Value_f_rowops_Top_1p.r F)
  | 0 => fun P A B Q a m b _ _ _ _ _ _ _ _ _ _ h => by omega
  | F + 1 => fun P A B Q a m b h0 h1 h2 hA hB hb hh ascA ascB hbf hF => by
    rw [slices_symMergeCmpFunc_api_Value_f_rowops_Top_1p.r]
    unfold slices_symMergeCmpFunc_api_Value_f_rowops_Top_1p.b
    have eA : IntKind.i64.wrap ((m : Int) - (a : Int)) = ((A.length : Nat) : Int) := by rw [w64 (by omega) (by omega)]; omega
    have eB : IntKind.i64.wrap ((b : Int) - (m : Int)) = ((B.length : Nat) : Int) := by rw [w64 (by omega) (by omega)]; omega
    rw [eA, eB, mid_eq a b (by omega)]
    by_cases hA1 : A.length = 1
    · rw [if_pos (by simp [hA1])]
      obtain ⟨x, rfl⟩ := List.length_eq_one_iff.1 hA1
      have hxK := hh x (by simp)
      have hd : (P ++ ([x] ++ (B ++ Q)))[a]? = some x := get_mid P x (B ++ Q) h0
      have ed : P ++ ([x] ++ (B ++ Q)) = (P ++ [x]) ++ (B ++ Q) := by simp
      have hl1 : (P ++ [x]).length = m := by simp only [List.length_append, List.length_singleton] at *; omega
      let g : Nat → Prop := fun c => ∃ y, B[c - m]? = some y ∧ cmpT K y x < 0
      obtain ⟨st, k1, k2, k3⟩ := exsplit (g := g) B.length m (fun c c' p1 p2 p3 ⟨y', q1, q2⟩ => by
        have hl : c - m < B.length := by omega
        refine ⟨B[c - m], List.getElem?_eq_getElem hl, ?_⟩
        have := asc_le ascB (i := c - m) (j := c' - m) (by omega) (List.getElem?_eq_getElem hl) q1
        have r := (cmpT_cmp K).trans (B[c - m]) y' x this (by omega)
        have r2 : cmpT K x y' ≤ 0 → cmpT K x y' ≤ 0 := id
        rcases lt_or_ge' (cmpT K (B[c - m]) x) 0 with h | h
        · exact h
        · exfalso
          have f1 := flipT (K := K) (B[c - m]) x
          have f2 := (cmpT_cmp K).trans x (B[c - m]) y' (by omega) this
          have f3 := flipT (K := K) x y'
          omega)
      rw [ed]
      have hsrch := srch_l0 (K := K) (d := (P ++ [x]) ++ (B ++ Q)) (a := a) (m := m) (b := b) (st := st) (x := x) hb (by rw [← ed]; exact hd) hxK (fun c c1 c2 => by
        obtain ⟨y, y1, y2, y3⟩ := in_A (P := P ++ [x]) (A := B) (R := Q) (a := m) (c := c) hl1 c1 (by omega)
        refine ⟨y, y1, hh y (by simp [y3]), ?_⟩
        rw [bef_T hbf (by simp) y3, ← k3 c c1 (by omega)]
        constructor
        · intro h; exact ⟨y, y2, h⟩
        · rintro ⟨y', q1, q2⟩
          rw [y2] at q1; cases q1; exact q2)
      have hf : ((b : Int) - (m : Int)).toNat + 1 = B.length + 1 := by omega
      rw [hf, hsrch (B.length + 1) m b (Nat.le_refl _) k1 (by omega) (Nat.le_refl _) (by omega)]
      have hBs : B = B.take (st - m) ++ B.drop (st - m) := (List.take_append_drop _ _).symm
      have lt1 : (B.take (st - m)).length = st - m := by rw [List.length_take]; omega
      have hb1 : ∀ y ∈ B.take (st - m), cmpT K y x < 0 := fun y hy => by
        obtain ⟨i, hi, e⟩ := List.mem_iff_getElem.1 hy
        have hi2 : i < st - m := by omega
        have := (k3 (m + i) (by omega) (by omega)).2 (by omega)
        obtain ⟨y', q1, q2⟩ := this
        rw [show m + i - m = i by omega] at q1
        rw [List.getElem_take] at e
        obtain ⟨hi3, q3⟩ := List.getElem?_eq_some_iff.1 q1
        rw [← q3, e] at q2; exact q2
      have hb2 : ∀ y ∈ B.drop (st - m), ¬ cmpT K y x < 0 := fun y hy h => by
        obtain ⟨i, hi, e⟩ := List.mem_iff_getElem.1 hy
        rw [List.length_drop] at hi
        rw [List.getElem_drop] at e
        have hl : st - m + i < B.length := by omega
        have := (k3 (st + i) (by omega) (by omega)).1 ⟨y, by rw [show st + i - m = st - m + i by omega, List.getElem?_eq_getElem hl, e], h⟩
        omega
      generalize B.take (st - m) = B1 at *
      generalize B.drop (st - m) = B2 at *
      subst hBs
      have ei : IntKind.i64.wrap ((st : Int) - 1) = ((st - 1 : Nat) : Int) := by rw [w64 (by omega) (by omega)]; omega
      rw [ei, show ((((st - 1 : Nat) : Int)) - (a : Int)).toNat + 1 = B1.length + 1 by simp at *; omega]
      have := fwd_l2 (a := (a : Int)) (i := st) (by omega) (B1.length + 1) a P x B1 (B2 ++ Q) h0 (by simp at *; omega) (by omega)
      rw [show P ++ [x] ++ (B1 ++ B2 ++ Q) = P ++ (x :: (B1 ++ (B2 ++ Q))) by simp, this]
      have hs : B1 ++ x :: B2 = sortC (cmpT K) ([x] ++ (B1 ++ B2)) := asc_uniq (cmpT_cmp K) (cmpT_zero K) (asc_mid ascB (fun s hs => by have := hb1 s hs; omega) (fun s hs => by
        have := hb2 s hs
        have f1 := flipT (K := K) s x
        omega)) (sortC_asc (cmpT_cmp K) _) (List.perm_middle.trans (sortC_perm (cmpT K) _).symm)
      rw [← hs]; simp
    · rw [if_neg (by simp; omega)]
      by_cases hB1 : B.length = 1
      · rw [if_pos (by simp [hB1])]
        obtain ⟨x, rfl⟩ := List.length_eq_one_iff.1 hB1
        have hxK := hh x (by simp)
        have ed : P ++ (A ++ ([x] ++ Q)) = (P ++ A) ++ x :: Q := by simp
        have hl1 : (P ++ A).length = m := by simp only [List.length_append] at *; omega
        have hd : (P ++ (A ++ ([x] ++ Q)))[m]? = some x := by rw [ed]; exact get_mid _ x Q hl1
        let g : Nat → Prop := fun c => ∃ y, A[c - a]? = some y ∧ ¬ cmpT K x y < 0
        obtain ⟨st, k1, k2, k3⟩ := exsplit (g := g) A.length a (fun c c' p1 p2 p3 ⟨y', q1, q2⟩ => by
          have hl : c - a < A.length := by omega
          refine ⟨A[c - a], List.getElem?_eq_getElem hl, fun h => ?_⟩
          have := asc_le ascA (i := c - a) (j := c' - a) (by omega) (List.getElem?_eq_getElem hl) q1
          have r := (cmpT_cmp K).trans x (A[c - a]) y' (by omega) this
          have f1 := flipT (K := K) x y'
          have f2 := (cmpT_cmp K).trans y' x (A[c - a]) (by omega) (by omega)
          have f3 := flipT (K := K) (A[c - a]) y'
          have f4 := flipT (K := K) x (A[c - a])
          have f5 := (cmpT_cmp K).trans (A[c - a]) y' x this (by omega)
          omega)
        have hsrch := srch_l3 (K := K) (d := P ++ (A ++ ([x] ++ Q))) (a := a) (m := m) (st := st) (x := x) (by omega) hd hxK (fun c c1 c2 => by
          obtain ⟨y, y1, y2, y3⟩ := in_A (P := P) (A := A) (R := [x] ++ Q) (a := a) (c := c) h0 c1 (by omega)
          refine ⟨y, y1, hh y (by simp [y3]), ?_⟩
          rw [bef_T hbf y3 (by simp), ← k3 c c1 (by omega)]
          constructor
          · intro h; exact ⟨y, y2, h⟩
          · rintro ⟨y', q1, q2⟩
            rw [y2] at q1; cases q1; exact q2)
        have hf : ((m : Int) - (a : Int)).toNat + 1 = A.length + 1 := by omega
        rw [hf, hsrch (A.length + 1) a m (Nat.le_refl _) k1 (by omega) (Nat.le_refl _) (by omega)]
        have hBs : A = A.take (st - a) ++ A.drop (st - a) := (List.take_append_drop _ _).symm
        have lt1 : (A.take (st - a)).length = st - a := by rw [List.length_take]; omega
        have hb1 : ∀ y ∈ A.take (st - a), ¬ cmpT K x y < 0 := fun y hy => by
          obtain ⟨i, hi, e⟩ := List.mem_iff_getElem.1 hy
          have hi2 : i < st - a := by omega
          have := (k3 (a + i) (by omega) (by omega)).2 (by omega)
          obtain ⟨y', q1, q2⟩ := this
          rw [show a + i - a = i by omega] at q1
          rw [List.getElem_take] at e
          obtain ⟨hi3, q3⟩ := List.getElem?_eq_some_iff.1 q1
          rw [← q3, e] at q2; exact q2
        have hb2 : ∀ y ∈ A.drop (st - a), cmpT K x y < 0 := fun y hy => by
          obtain ⟨i, hi, e⟩ := List.mem_iff_getElem.1 hy
          rw [List.length_drop] at hi
          rw [List.getElem_drop] at e
          have hl : st - a + i < A.length := by omega
          rcases lt_or_ge' (cmpT K x y) 0 with h | h
          · exact h
          · have := (k3 (st + i) (by omega) (by omega)).1 ⟨y, by rw [show st + i - a = st - a + i by omega, List.getElem?_eq_getElem hl, e], by omega⟩
            omega
        generalize A.take (st - a) = A1 at *
        generalize A.drop (st - a) = A2 at *
        subst hBs
        rw [show (((m : Nat) : Int) - (st : Int)).toNat + 1 = A2.length + 1 by simp at *; omega]
        have := bwd_l5 (a2 := (m : Int)) (i := st) (A2.length + 1) m (P ++ A1) A2 x Q (by simp only [List.length_append] at *; omega) (by simp only [List.length_append] at *; omega) (by omega) (by omega)
        rw [show P ++ (A1 ++ A2 ++ ([x] ++ Q)) = P ++ A1 ++ (A2 ++ (x :: Q)) by simp, this]
        have hs : A1 ++ x :: A2 = sortC (cmpT K) ((A1 ++ A2) ++ [x]) := asc_uniq (cmpT_cmp K) (cmpT_zero K) (asc_mid ascA (fun s hs => by
          have := hb1 s hs
          have f1 := flipT (K := K) x s
          omega) (fun s hs => by have := hb2 s hs; omega)) (sortC_asc (cmpT_cmp K) _) (((show (A1 ++ x :: A2).Perm ([x] ++ (A1 ++ A2)) from List.perm_middle).trans (List.perm_append_comm (l₁ := [x]) (l₂ := A1 ++ A2))).trans (sortC_perm (cmpT K) _).symm)
        rw [← hs]; simp
      · rw [if_neg (by simp; omega)]
        unfold slices_symMergeCmpFunc_api_Value_f_rowops_Top_1p.j6
        -- the bounds of the search
        have key : ∀ (s0 r0 : Nat), s0 ≤ r0 → a ≤ s0 → r0 ≤ m → r0 ≤ (a + b) / 2 → (a + b) / 2 + m ≤ s0 + b → (s0 = a ∨ s0 + b = (a + b) / 2 + m) → (r0 = m ∨ r0 = (a + b) / 2) →
            slices_symMergeCmpFunc_api_Value_f_rowops_Top_1p.l7 (P ++ (A ++ (B ++ Q))) (a : Int) (m : Int) (b : Int) (K : Int) (slices_symMergeCmpFunc_api_Value_f_rowops_Top_1p.r F) (s0 : Int) (r0 : Int) (((r0 : Int) - (s0 : Int)).toNat + 1) (s0 : Int) (r0 : Int) = some (P ++ (sortC (cmpT K) (A ++ B) ++ Q)) := fun s0 r0 q0 q1 q2 q3 q4 q5 q6 => by
          let g : Nat → Prop := fun c => ∃ x y, A[c - a]? = some x ∧ B[(a + b) / 2 + m - 1 - c - m]? = some y ∧ ¬ cmpT K y x < 0
          obtain ⟨st, k1, k2, k3⟩ := exsplit (g := g) (r0 - s0) s0 (fun c c' p1 p2 p3 ⟨x', y', r1, r2, r3⟩ => by
            have hl : c - a < A.length := by omega
            have hl2 : (a + b) / 2 + m - 1 - c - m < B.length := by omega
            refine ⟨A[c - a], B[(a + b) / 2 + m - 1 - c - m], List.getElem?_eq_getElem hl, List.getElem?_eq_getElem hl2, ?_⟩
            have t1 := asc_le ascA (i := c - a) (j := c' - a) (by omega) (List.getElem?_eq_getElem hl) r1
            have t2 := asc_le ascB (i := (a + b) / 2 + m - 1 - c' - m) (j := (a + b) / 2 + m - 1 - c - m) (by omega) r2 (List.getElem?_eq_getElem hl2)
            have f1 := flipT (K := K) y' x'
            have t3 := (cmpT_cmp K).trans _ _ _ t1 (show cmpT K x' y' ≤ 0 by omega)
            have t4 := (cmpT_cmp K).trans _ _ _ t3 t2
            have f2 := flipT (K := K) (A[c - a]) (B[(a + b) / 2 + m - 1 - c - m])
            omega)
          have hd2 : P ++ (A ++ (B ++ Q)) = (P ++ A) ++ (B ++ Q) := by simp
          have hl1 : (P ++ A).length = m := by simp only [List.length_append]; omega
          rw [srch_l7 (K := K) (d := P ++ (A ++ (B ++ Q))) (a := a) (m := m) (b := b) (st := st) (s0 := s0) (r0 := r0) hb (by omega) (by omega) q2 (by omega) (fun c c1 c2 => by
            obtain ⟨x, x1, x2, x3⟩ := in_A (P := P) (A := A) (R := B ++ Q) (a := a) (c := c) h0 (by omega) (by omega)
            obtain ⟨y, y1, y2, y3⟩ := in_A (P := P ++ A) (A := B) (R := Q) (a := m) (c := (a + b) / 2 + m - 1 - c) hl1 (by omega) (by omega)
            refine ⟨x, y, x1, by rw [hd2]; exact y1, hh x (by simp [x3]), hh y (by simp [y3]), ?_⟩
            rw [bef_T hbf x3 y3, ← k3 c c1 (by omega)]
            constructor
            · intro h; exact ⟨x, y, x2, y2, h⟩
            · rintro ⟨x', y', r1, r2, r3⟩
              rw [x2] at r1; rw [y2] at r2; cases r1; cases r2; exact r3) (fun c c1 c2 => by omega) _ s0 r0 (Nat.le_refl _) k1 (by omega) (Nat.le_refl _) (by omega)]
          have hAs : A = A.take (st - a) ++ A.drop (st - a) := (List.take_append_drop _ _).symm
          have hBs : B = B.take ((a + b) / 2 - st) ++ B.drop ((a + b) / 2 - st) := (List.take_append_drop _ _).symm
          have lA : (A.take (st - a)).length = st - a := by rw [List.length_take]; omega
          have lB : (B.take ((a + b) / 2 - st)).length = (a + b) / 2 - st := by rw [List.length_take]; omega
          have hx1 : ∀ x ∈ A.take (st - a), ∀ y ∈ B.drop ((a + b) / 2 - st), cmpT K x y ≤ 0 := fun x hx y hy => by
            obtain ⟨i, hi, ei⟩ := List.mem_iff_getElem.1 hx
            rw [List.getElem_take] at ei
            obtain ⟨j, hj, ej⟩ := List.mem_iff_getElem.1 hy
            rw [List.getElem_drop] at ej
            rw [List.length_drop] at hj
            have hl : i < A.length := by omega
            have hl2 : (a + b) / 2 - st + j < B.length := by omega
            have hst : s0 < st := by rcases q5 with h | h <;> omega
            obtain ⟨x', y', r1, r2, r3⟩ := (k3 (st - 1) (by omega) (by omega)).2 (by omega)
            have t1 := asc_le ascA (i := i) (j := st - 1 - a) (by omega) (List.getElem?_eq_getElem hl) r1
            have t2 := asc_le ascB (i := (a + b) / 2 + m - 1 - (st - 1) - m) (j := (a + b) / 2 - st + j) (by omega) r2 (List.getElem?_eq_getElem hl2)
            rw [ei] at t1; rw [ej] at t2
            have f1 := flipT (K := K) y' x'
            exact (cmpT_cmp K).trans _ _ _ ((cmpT_cmp K).trans _ _ _ t1 (by omega)) t2
          have hx2 : ∀ x ∈ B.take ((a + b) / 2 - st), ∀ y ∈ A.drop (st - a), cmpT K x y ≤ 0 := fun x hx y hy => by
            obtain ⟨i, hi, ei⟩ := List.mem_iff_getElem.1 hx
            rw [List.getElem_take] at ei
            obtain ⟨j, hj, ej⟩ := List.mem_iff_getElem.1 hy
            rw [List.getElem_drop] at ej
            rw [List.length_drop] at hj
            have hl : i < B.length := by omega
            have hl2 : st - a + j < A.length := by omega
            have hst : st < r0 := by rcases q6 with h | h <;> omega
            have hl3 : st - a < A.length := by omega
            have hl4 : (a + b) / 2 + m - 1 - st - m < B.length := by omega
            have hng : cmpT K (B[(a + b) / 2 + m - 1 - st - m]) (A[st - a]) < 0 := by
              rcases lt_or_ge' (cmpT K (B[(a + b) / 2 + m - 1 - st - m]) (A[st - a])) 0 with h | h
              · exact h
              · have := (k3 st k1 (by omega)).1 ⟨_, _, List.getElem?_eq_getElem hl3, List.getElem?_eq_getElem hl4, by omega⟩
                omega
            have t1 := asc_le ascB (i := i) (j := (a + b) / 2 + m - 1 - st - m) (by omega) (List.getElem?_eq_getElem hl) (List.getElem?_eq_getElem hl4)
            have t2 := asc_le ascA (i := st - a) (j := st - a + j) (by omega) (List.getElem?_eq_getElem hl3) (List.getElem?_eq_getElem hl2)
            rw [ei] at t1; rw [ej] at t2
            exact (cmpT_cmp K).trans _ _ _ ((cmpT_cmp K).trans _ _ _ t1 (by omega)) t2
          have hlA : A.length = (st - a) + (A.drop (st - a)).length := by rw [List.length_drop]; omega
          have hlB : B.length = ((a + b) / 2 - st) + (B.drop ((a + b) / 2 - st)).length := by rw [List.length_drop]; omega
          have hst2 : st ≤ (a + b) / 2 := by omega
          generalize A.take (st - a) = A1 at *
          generalize A.drop (st - a) = A2 at *
          generalize B.take ((a + b) / 2 - st) = B1 at *
          generalize B.drop ((a + b) / 2 - st) = B2 at *
          subst hAs
          subst hBs
          rw [tail_eq (K := K) (F := F) (sm_r F) hb h0 (by omega) (by omega) (by omega) (by omega) (by omega) (by omega) hh ascA ascB hbf]
          have hs : sortC (cmpT K) (A1 ++ B1) ++ sortC (cmpT K) (A2 ++ B2) = sortC (cmpT K) ((A1 ++ A2) ++ (B1 ++ B2)) := by
            unfold Asc at ascA ascB
            obtain ⟨a1, a2, a3⟩ := List.pairwise_append.1 ascA
            obtain ⟨b1, b2, b3⟩ := List.pairwise_append.1 ascB
            refine asc_uniq (cmpT_cmp K) (cmpT_zero K) ?_ (sortC_asc (cmpT_cmp K) _) ?_
            · unfold Asc
              refine List.pairwise_append.2 ⟨sortC_asc (cmpT_cmp K) _, sortC_asc (cmpT_cmp K) _, fun x hx y hy => ?_⟩
              rcases List.mem_append.1 (mem_sortC.1 hx) with hx | hx <;> rcases List.mem_append.1 (mem_sortC.1 hy) with hy | hy
              · exact a3 x hx y hy
              · exact hx1 x hx y hy
              · exact hx2 x hx y hy
              · exact b3 x hx y hy
            · refine ((sortC_perm _ _).append (sortC_perm _ _)).trans (List.Perm.trans ?_ (sortC_perm (cmpT K) _).symm)
              rw [List.append_assoc, List.append_assoc]
              refine List.Perm.append_left A1 ?_
              rw [← List.append_assoc, ← List.append_assoc]
              exact List.Perm.append_right B2 List.perm_append_comm
          rw [← hs]; simp
        by_cases hm : m > (a + b) / 2
        · rw [if_pos (by simp; omega)]
          have e1 : IntKind.i64.wrap ((((a + b) / 2 : Nat) : Int) + (m : Int)) = (((a + b) / 2 + m : Nat) : Int) := by rw [w64 (by omega) (by omega)]; omega
          have e2 : IntKind.i64.wrap ((((a + b) / 2 + m : Nat) : Int) - (b : Int)) = (((a + b) / 2 + m - b : Nat) : Int) := by rw [w64 (by omega) (by omega)]; omega
          rw [e1, e2]
          exact key ((a + b) / 2 + m - b) ((a + b) / 2) (by omega) (by omega) (by omega) (by omega) (by omega) (by omega) (by omega)
        · rw [if_neg (by simp; omega)]
          exact key a m (by omega) (by omega) (by omega) (by omega) (by omega) (by omega) (by omega)
end
end Go.Proofs.Ytjimddbbpjpgdaa.M
