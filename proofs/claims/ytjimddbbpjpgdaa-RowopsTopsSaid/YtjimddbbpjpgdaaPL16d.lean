/- The library's stable sort: the whole. -/
import Derived.Test.YtjimddbbpjpgdaaPure
import Derived.Test.YtjimddbbpjpgdaaPL16n
namespace Go.Proofs.Ytjimddbbpjpgdaa.M
open Go Go.Eng Go.Proofs Go.RowKit
set_option maxRecDepth 100000
set_option linter.unusedVariables false
set_option linter.unusedSimpArgs false

section
variable {K : Nat}
/-- Y is X, sorted chunk by chunk. -/
inductive Chs (K b : Nat) : LL → LL → Prop
  | nil : Chs K b [] []
  | last (X : LL) (h : X.length ≤ b) (h0 : 0 < X.length) : Chs K b X (sortC (cmpT K) X)
  | cons (A X Y : LL) (h : A.length = b) (hX : Chs K b X Y) : Chs K b (A ++ X) (sortC (cmpT K) A ++ Y)
theorem chs_len {b : Nat} {X Y : LL} (h : Chs K b X Y) : Y.length = X.length := by
  induction h with
  | nil => rfl
  | last X h h0 => exact sortC_len _ _
  | cons A X Y h hX ih => simp only [List.length_append, sortC_len, ih]
theorem chs_one {b : Nat} {X Y : LL} (h : Chs K b X Y) (hl : X.length ≤ b) (hb : 1 ≤ b) : Y = sortC (cmpT K) X := by
  cases h with
  | nil => exact (List.perm_nil.1 (sortC_perm _ _)).symm
  | last X h h0 => rfl
  | cons A X Y h hX =>
    have : X = [] := List.eq_nil_of_length_eq_zero (by simp only [List.length_append] at hl; omega)
    subst this
    have := chs_len hX
    have : Y = [] := List.eq_nil_of_length_eq_zero (by simpa using this)
    subst this
    simp
theorem sm_eq {P A B Q : LL} {a m b : Nat} (h0 : P.length = a) (h1 : a + A.length = m) (h2 : m + B.length = b) (hA : 1 ≤ A.length) (hB : 1 ≤ B.length) (hb : b < 1152921504606846976) (hh : has K (A ++ B)) (hasc : Asc cmpR (A ++ B)) :
    slices_symMergeCmpFunc_api_Value_f_rowops_Top_1p (P ++ (sortC (cmpT K) A ++ (sortC (cmpT K) B ++ Q))) (a : Int) (m : Int) (b : Int) (K : Int) = some (P ++ (sortC (cmpT K) (A ++ B) ++ Q)) := by
  unfold slices_symMergeCmpFunc_api_Value_f_rowops_Top_1p
  have e : sortC (cmpT K) (sortC (cmpT K) A ++ sortC (cmpT K) B) = sortC (cmpT K) (A ++ B) := asc_uniq (cmpT_cmp K) (cmpT_zero K) (sortC_asc (cmpT_cmp K) _) (sortC_asc (cmpT_cmp K) _) ((sortC_perm _ _).trans (((sortC_perm _ _).append (sortC_perm _ _)).trans (sortC_perm (cmpT K) _).symm))
  unfold Asc at hasc
  have hc := (List.pairwise_append.1 hasc).2.2
  rw [sm_r _ P (sortC (cmpT K) A) (sortC (cmpT K) B) Q a m b h0 (by rw [sortC_len]; exact h1) (by rw [sortC_len]; exact h2) (by rw [sortC_len]; exact hA) (by rw [sortC_len]; exact hB) hb (fun r hr => hh r (by simp only [List.mem_append, mem_sortC] at hr ⊢; exact hr)) (sortC_asc (cmpT_cmp K) _) (sortC_asc (cmpT_cmp K) _) (fun x hx y hy => hc x (mem_sortC.1 hx) y (mem_sortC.1 hy)) (by simp only [List.length_append, sortC_len]; omega), e]
theorem st_l2 {kl1 : LL → Int → Option LL} {n c : Nat} (hc : 1 ≤ c) (hn : n < 281474976710656) (hcn : c < n) : ∀ (fuel : Nat) (P X Y : LL) (a : Nat), P.length = a → a + X.length = n → X.length + 2 ≤ fuel + 2 * c ∧ 1 ≤ fuel → has K X → Asc cmpR X → Chs K c X Y →
    ∃ Y', Chs K (2 * c) X Y' ∧ slices_stableCmpFunc_api_Value_f_rowops_Top_1p.l2 kl1 (n : Int) (K : Int) (c : Int) fuel (P ++ Y) (a : Int) ((a + 2 * c : Nat) : Int) = kl1 (P ++ Y') ((2 * c : Nat) : Int)
  | 0, P, X, Y, a, _, _, h, _, _, _ => by omega
  | fuel + 1, P, X, Y, a, h0, h1, hf, hh, hasc, hch => by
    rw [slices_stableCmpFunc_api_Value_f_rowops_Top_1p.l2]
    have e1 : IntKind.i64.wrap ((a : Int) + (c : Int)) = ((a + c : Nat) : Int) := by rw [w64 (by omega) (by omega)]; omega
    have e2 : IntKind.i64.wrap (2 * (c : Int)) = ((2 * c : Nat) : Int) := by rw [w64 (by omega) (by omega)]; omega
    have e4 : IntKind.i64.wrap ((c : Int) * 2) = ((2 * c : Nat) : Int) := by rw [w64 (by omega) (by omega)]; omega
    have e3 : IntKind.i64.wrap (((a + 2 * c : Nat) : Int) + ((2 * c : Nat) : Int)) = ((a + 2 * c + 2 * c : Nat) : Int) := by rw [w64 (by omega) (by omega)]; omega
    by_cases hl : X.length ≤ c
    · have hY := chs_one hch hl hc
      subst hY
      refine ⟨sortC (cmpT K) X, ?_, ?_⟩
      · rcases Nat.eq_zero_or_pos X.length with hz | hz
        · have : X = [] := List.eq_nil_of_length_eq_zero hz
          subst this
          rw [List.perm_nil.1 (sortC_perm (cmpT K) ([] : LL))]
          exact .nil
        · exact .last X (by omega) hz
      · rw [if_neg (by simp; omega), e1, if_neg (by simp; omega), slices_stableCmpFunc_api_Value_f_rowops_Top_1p.j3, e4]
    · cases hch with
      | nil => simp at hl
      | last X h h0 => omega
      | cons A X Y hA hX =>
        simp only [List.length_append] at h1 hf hl
        by_cases h2c : 2 * c ≤ A.length + X.length
        · rw [if_pos (by simp; omega), e1, e2, e3]
          -- a whole second chunk
          have hsplit : ∃ B X2 Y2, X = B ++ X2 ∧ Y = sortC (cmpT K) B ++ Y2 ∧ B.length = c ∧ Chs K c X2 Y2 := by
            cases hX with
            | nil => simp only [List.length_nil] at h2c hl; omega
            | last X h h0 => exact ⟨X, [], [], by simp, by simp, by omega, .nil⟩
            | cons B X2 Y2 hB hX2 => exact ⟨B, X2, Y2, rfl, rfl, hB, hX2⟩
          obtain ⟨B, X2, Y2, rfl, rfl, hB, hX2⟩ := hsplit
          simp only [List.length_append] at h1 hf h2c
          have asc2 : Asc cmpR (A ++ B) ∧ Asc cmpR X2 := by
            unfold Asc at *
            rw [← List.append_assoc] at hasc
            exact ⟨(List.pairwise_append.1 hasc).1, (List.pairwise_append.1 hasc).2.1⟩
          rw [sm_eq (K := K) (P := P) (A := A) (B := B) (Q := Y2) (a := a) (m := a + c) (b := a + 2 * c) h0 (by omega) (by omega) (by omega) (by omega) (by omega) (fun r hr => hh r (by simp at hr ⊢; rcases hr with h | h <;> simp [h])) asc2.1, Option.bind_some]
          obtain ⟨Y', c1, c2⟩ := st_l2 (kl1 := kl1) hc hn hcn fuel (P ++ sortC (cmpT K) (A ++ B)) X2 Y2 (a + 2 * c) (by simp only [List.length_append, sortC_len]; omega) (by omega) ⟨by omega, by omega⟩ (fun r hr => hh r (by simp [hr])) asc2.2 hX2
          refine ⟨sortC (cmpT K) (A ++ B) ++ Y', ?_, ?_⟩
          · rw [← List.append_assoc]
            exact .cons (A ++ B) X2 Y' (by simp only [List.length_append]; omega) c1
          · rw [← List.append_assoc, c2, List.append_assoc]
        · rw [if_neg (by simp; omega), e1, if_pos (by simp; omega)]
          have hY := chs_one hX (by omega) hc
          subst hY
          have := sm_eq (K := K) (P := P) (A := A) (B := X) (Q := []) (a := a) (m := a + c) (b := n) h0 (by omega) (by omega) (by omega) (by omega) (by omega) hh hasc
          rw [List.append_nil, List.append_nil] at this
          rw [this, Option.bind_some, slices_stableCmpFunc_api_Value_f_rowops_Top_1p.j3, e4]
          exact ⟨_, .last (A ++ X) (by simp only [List.length_append]; omega) (by simp only [List.length_append]; omega), rfl⟩
theorem st_l1 {n : Nat} (hn : n < 281474976710656) : ∀ (fuel c : Nat) (X Y : LL), 1 ≤ c → X.length = n → n - c < fuel → has K X → Asc cmpR X → Chs K c X Y → c < 562949953421312 →
    slices_stableCmpFunc_api_Value_f_rowops_Top_1p.l1 (n : Int) (K : Int) fuel Y (c : Int) = some (sortC (cmpT K) X)
  | 0, c, X, Y, _, _, h, _, _, _, _ => by omega
  | fuel + 1, c, X, Y, hc, hl, hf, hh, hasc, hch, hcb => by
    rw [slices_stableCmpFunc_api_Value_f_rowops_Top_1p.l1]
    by_cases hlt : c < n
    · have e2 : IntKind.i64.wrap (2 * (c : Int)) = ((2 * c : Nat) : Int) := by rw [w64 (by omega) (by omega)]; omega
      rw [if_pos (by simp; omega), e2]
      obtain ⟨Y', c1, c2⟩ := st_l2 (K := K) (kl1 := slices_stableCmpFunc_api_Value_f_rowops_Top_1p.l1 (n : Int) (K : Int) fuel) hc hn hlt (((n : Int) - ((2 * c : Nat) : Int)).toNat + 2) [] X Y 0 rfl (by omega) ⟨by omega, by omega⟩ hh hasc hch
      rw [List.nil_append, Nat.zero_add] at c2
      rw [show (0 : Int) = ((0 : Nat) : Int) from rfl, c2]
      exact st_l1 hn fuel (2 * c) X Y' (by omega) hl (by omega) hh hasc c1 (by omega)
    · rw [if_neg (by simp; omega), chs_one hch (by omega) hc]
theorem st_l0 {n : Nat} (hn : n < 281474976710656) : ∀ (fuel : Nat) (P X : LL) (a : Nat), P.length = a → a + X.length = n → X.length + 2 ≤ fuel + 20 ∧ 1 ≤ fuel → has K X → Asc cmpR X →
    ∃ Y, Chs K 20 X Y ∧ slices_stableCmpFunc_api_Value_f_rowops_Top_1p.l0 (n : Int) (K : Int) fuel (P ++ X) (a : Int) ((a + 20 : Nat) : Int) = slices_stableCmpFunc_api_Value_f_rowops_Top_1p.l1 (n : Int) (K : Int) (((n : Int) - 20).toNat + 1) (P ++ Y) 20
  | 0, P, X, a, _, _, h, _, _ => by omega
  | fuel + 1, P, X, a, h0, h1, hf, hh, hasc => by
    rw [slices_stableCmpFunc_api_Value_f_rowops_Top_1p.l0]
    by_cases hl : 20 ≤ X.length
    · rw [if_pos (by simp; omega)]
      have hX : X = X.take 20 ++ X.drop 20 := (List.take_append_drop _ _).symm
      have lt1 : (X.take 20).length = 20 := by rw [List.length_take]; omega
      have lt2 : (X.drop 20).length = X.length - 20 := List.length_drop
      generalize X.take 20 = A at *
      generalize X.drop 20 = B at *
      subst hX
      unfold Asc at hasc
      have hp := List.pairwise_append.1 hasc
      rw [ins_eq (K := K) (P := P) (A := A) (R := B) (a := a) (b := a + 20) h0 (by omega) (by omega) (fun r hr => hh r (by simp [hr])) hp.1, Option.bind_some]
      have e3 : IntKind.i64.wrap (((a + 20 : Nat) : Int) + 20) = ((a + 20 + 20 : Nat) : Int) := by rw [w64 (by omega) (by omega)]; omega
      rw [e3]
      simp only [List.length_append] at h1 hf lt2
      obtain ⟨Y, c1, c2⟩ := st_l0 hn fuel (P ++ sortC (cmpT K) A) B (a + 20) (by simp only [List.length_append, sortC_len]; omega) (by omega) ⟨by omega, by omega⟩ (fun r hr => hh r (by simp [hr])) hp.2.1
      refine ⟨sortC (cmpT K) A ++ Y, .cons A B Y lt1 c1, ?_⟩
      rw [← List.append_assoc, c2, List.append_assoc]
    · rw [if_neg (by simp; omega)]
      have := ins_eq (K := K) (P := P) (A := X) (R := []) (a := a) (b := n) h0 h1 (by omega) hh hasc
      rw [List.append_nil, List.append_nil] at this
      rw [this, Option.bind_some]
      refine ⟨sortC (cmpT K) X, ?_, rfl⟩
      rcases Nat.eq_zero_or_pos X.length with hz | hz
      · have : X = [] := List.eq_nil_of_length_eq_zero hz
        subst this
        rw [List.perm_nil.1 (sortC_perm (cmpT K) ([] : LL))]
        exact .nil
      · exact .last X (by omega) hz
/-- Rows in canonical order come to stand by their keys, the greater ones first. -/
theorem stable_eq {X : LL} (hn : X.length < 281474976710656) (hh : has K X) (hasc : Asc cmpR X) : slices_SortStableFunc_api_Value_api_Value_f_rowops_Top_1p X (K : Int) = some (sortC (cmpT K) X) := by
  unfold slices_SortStableFunc_api_Value_api_Value_f_rowops_Top_1p slices_stableCmpFunc_api_Value_f_rowops_Top_1p
  obtain ⟨Y, c1, c2⟩ := st_l0 (K := K) hn (((X.length : Int) - 20).toNat + 2) [] X 0 rfl (by omega) ⟨by omega, by omega⟩ hh hasc
  rw [List.nil_append, Nat.zero_add] at c2
  have c3 := st_l1 (K := K) hn (((X.length : Int) - 20).toNat + 1) 20 X Y (by omega) rfl (by omega) hh hasc c1 (by omega)
  have c4 : slices_stableCmpFunc_api_Value_f_rowops_Top_1p.l0 (X.length : Int) (K : Int) (((X.length : Int) - 20).toNat + 2) X 0 20 = some (sortC (cmpT K) X) := c2.trans c3
  rw [c4]; rfl
end
end Go.Proofs.Ytjimddbbpjpgdaa.M
