/- The library's stable sort: rows in canonical order come to stand by a column, the greater ones first, those that have the same as they stood. -/
import Derived.Test.YtjimddbbpjpgdaaPure
import Derived.Test.YtjimddbbpjpgdaaPLTs
import Derived.Test.YtjimddbbpjpgdaaPLVc
namespace Go.Proofs.Ytjimddbbpjpgdaa.M
open Go Go.Eng Go.Proofs Go.RowKit
set_option maxRecDepth 100000
set_option linter.unusedVariables false
set_option linter.unusedSimpArgs false

abbrev LL := List (List api_Value)
def keyV (K : Nat) (r : List api_Value) : api_Value := r.getD K ⟨0, 0, ⟨#[]⟩, H0⟩
def cmpK (K : Nat) (x y : List api_Value) : Int := cmpV (keyV K y) (keyV K x)
def cmpT (K : Nat) : List api_Value → List api_Value → Int := thenC (cmpK K) cmpR
theorem cmpK_cmp (K : Nat) : IsCmp (cmpK K) := ⟨fun x y => cmpV_cmp.flip _ _, fun x y z h1 h2 => cmpV_cmp.trans _ _ _ h2 h1⟩
theorem cmpT_cmp (K : Nat) : IsCmp (cmpT K) := thenC_cmp (cmpK_cmp K) cmpR_cmp
theorem cmpT_zero (K : Nat) (x y : List api_Value) (h : cmpT K x y = 0) : x = y := cmpR_zero _ _ (thenC_zero h).2
/-- Where x stands ahead of y in canonical order, y's key is the greater one just where y comes first. -/
theorem cmpT_key {K : Nat} {x y : List api_Value} (h : cmpR x y ≤ 0) : cmpK K y x < 0 ↔ cmpT K y x < 0 := by
  unfold cmpT thenC
  have hf := cmpR_cmp.flip x y
  by_cases h0 : cmpK K y x = 0
  · rw [if_pos h0, h0]
    constructor
    · intro h; omega
    · intro h1; omega
  · rw [if_neg h0]
def has (K : Nat) (xs : LL) : Prop := ∀ r ∈ xs, K < r.length
theorem cp_eq {K : Nat} {x y : List api_Value} (hx : K < x.length) (hy : K < y.length) : rowops_Top_1_cp x y (K : Int) = some (cmpK K x y) := by
  unfold rowops_Top_1_cp cmpK keyV
  rw [ix_of (List.getElem?_eq_getElem hy), Option.bind_some, ix_of (List.getElem?_eq_getElem hx), Option.bind_some, cmpV_eq, Option.bind_some]
  simp [hx, hy]
/-! two elements change places -/
theorem get_mid {α : Type} (L : List α) (x : α) (R : List α) {n : Nat} (h : L.length = n) : (L ++ x :: R)[n]? = some x := by
  rw [List.getElem?_append_right (by omega), h, Nat.sub_self]; rfl
theorem set_mid {α : Type} (L : List α) (x y : α) (R : List α) {n : Nat} (h : L.length = n) : (L ++ x :: R).set n y = L ++ y :: R := by
  rw [List.set_append_right _ _ (by omega), h, Nat.sub_self]; rfl
theorem ix_mid {α : Type} (L : List α) (x : α) (R : List α) {n : Nat} (h : L.length = n) : ix (L ++ x :: R) (n : Int) = some x := ix_of (get_mid L x R h)
theorem upd_mid {α : Type} (L : List α) (x y : α) (R : List α) {n : Nat} (h : L.length = n) : upd (L ++ x :: R) (n : Int) y = L ++ y :: R := set_mid L x y R h
/-! insertion -/
section
variable {K : Nat}
theorem asc_mid {S1 S2 : LL} {x : List api_Value} (h : Asc (cmpT K) (S1 ++ S2)) (h1 : ∀ s ∈ S1, cmpT K s x ≤ 0) (h2 : ∀ s ∈ S2, cmpT K x s ≤ 0) : Asc (cmpT K) (S1 ++ x :: S2) := by
  unfold Asc at *
  obtain ⟨a1, a2, a3⟩ := List.pairwise_append.1 h
  refine List.pairwise_append.2 ⟨a1, List.pairwise_cons.2 ⟨h2, a2⟩, fun s hs y hy => ?_⟩
  rcases List.mem_cons.1 hy with rfl | hy
  · exact h1 s hs
  · exact a3 s hs y hy
theorem flipT (x y : List api_Value) : cmpT K y x = - cmpT K x y := (cmpT_cmp K).flip x y
theorem ins_l1 {kl0 : LL → Int → Option LL} {a i : Nat} {a2 : Int} {P R : LL} {x : List api_Value} (hx : K < x.length) (ha : P.length = a) (hi : i < 4611686018427387904) : ∀ (fuel : Nat) (S1 S2 : LL), has K S1 → Asc (cmpT K) (S1 ++ S2) → (∀ s ∈ S1, cmpR s x ≤ 0) → (∀ s ∈ S2, cmpT K x s ≤ 0) → S1.length < fuel → a + S1.length ≤ i →
    (∀ L : LL, L.Perm (x :: (S1 ++ S2)) → Asc (cmpT K) L → kl0 (P ++ (L ++ R)) ((i + 1 : Nat) : Int) = slices_insertionSortCmpFunc_api_Value_f_rowops_Top_1p.l1 kl0 (a : Int) a2 (K : Int) (i : Int) fuel (P ++ (S1 ++ (x :: S2)) ++ R) ((a + S1.length : Nat) : Int))
  | 0, S1, S2, _, _, _, _, h, _ => by omega
  | fuel + 1, S1, S2, hh, hasc, hR, h2, hf, hj => by
    intro L hL hLa
    rw [slices_insertionSortCmpFunc_api_Value_f_rowops_Top_1p.l1]
    have fin : (∀ s ∈ S1, cmpT K s x ≤ 0) → kl0 (P ++ (L ++ R)) ((i + 1 : Nat) : Int) = slices_insertionSortCmpFunc_api_Value_f_rowops_Top_1p.j2 kl0 (slices_insertionSortCmpFunc_api_Value_f_rowops_Top_1p.l1 kl0 (a : Int) a2 (K : Int) (i : Int) fuel) (a : Int) a2 (i : Int) (P ++ (S1 ++ (x :: S2)) ++ R) ((a + S1.length : Nat) : Int) false := fun h1 => by
      have e : L = S1 ++ x :: S2 := asc_uniq (cmpT_cmp K) (cmpT_zero K) hLa (asc_mid hasc h1 h2) (hL.trans List.perm_middle.symm)
      unfold slices_insertionSortCmpFunc_api_Value_f_rowops_Top_1p.j2
      rw [if_neg (by decide), w64_nat i (by omega), e]
      simp
    rcases List.eq_nil_or_concat S1 with rfl | ⟨T, s, rfl⟩
    · rw [if_neg (by simp)]
      exact fin (fun s hs => by cases hs)
    · rw [List.concat_eq_append] at *
      have hlen : (T ++ [s]).length = T.length + 1 := by simp
      have hs : s ∈ T ++ [s] := by simp
      have hsK := hh s hs
      have hsR := hR s hs
      rw [hlen] at hf hj ⊢
      have ej : ((a + (T.length + 1) : Nat) : Int) - 1 = ((a + T.length : Nat) : Int) := by omega
      have d1 : P ++ (T ++ [s] ++ (x :: S2)) ++ R = (P ++ T ++ [s]) ++ x :: (S2 ++ R) := by simp
      have d2 : P ++ (T ++ [s] ++ (x :: S2)) ++ R = (P ++ T) ++ s :: (x :: (S2 ++ R)) := by simp
      have l1 : (P ++ T ++ [s]).length = a + (T.length + 1) := by simp only [List.length_append, List.length_singleton, ha]; omega
      have l2 : (P ++ T).length = a + T.length := by simp [ha]
      have g1 : ix (P ++ (T ++ [s] ++ (x :: S2)) ++ R) ((a + (T.length + 1) : Nat) : Int) = some x := by rw [d1]; exact ix_mid _ _ _ l1
      have g2 : ix (P ++ (T ++ [s] ++ (x :: S2)) ++ R) ((a + T.length : Nat) : Int) = some s := by rw [d2]; exact ix_mid _ _ _ l2
      rw [if_pos (by simp; omega), g1, Option.bind_some, w64 (x := ((a + (T.length + 1) : Nat) : Int) - 1) (by omega) (by omega), ej, g2, Option.bind_some, cp_eq hx hsK, Option.bind_some]
      by_cases hlt : cmpK K x s < 0
      · have hT := (cmpT_key hsR).1 hlt
        have hd : decide (cmpK K x s < 0) = true := decide_eq_true hlt
        rw [hd]
        unfold slices_insertionSortCmpFunc_api_Value_f_rowops_Top_1p.j2
        rw [if_pos rfl, w64 (x := ((a + (T.length + 1) : Nat) : Int) - 1) (by omega) (by omega), ej, g2, Option.bind_some, g1, Option.bind_some, Option.bind_some]
        have u1 : upd (P ++ (T ++ [s] ++ (x :: S2)) ++ R) ((a + (T.length + 1) : Nat) : Int) s = (P ++ T) ++ s :: (s :: (S2 ++ R)) := by rw [d1, upd_mid _ _ _ _ l1]; simp
        have g3 : ix ((P ++ T) ++ s :: (s :: (S2 ++ R))) ((a + T.length : Nat) : Int) = some s := ix_mid _ _ _ l2
        have u2 : upd ((P ++ T) ++ s :: (s :: (S2 ++ R))) ((a + T.length : Nat) : Int) x = P ++ (T ++ (x :: (s :: S2))) ++ R := by rw [upd_mid _ _ _ _ l2]; simp
        rw [u1, g3, Option.bind_some, u2]
        refine ins_l1 hx ha hi fuel T (s :: S2) (fun r hr => hh r (by simp [hr])) (by simpa using hasc) (fun r hr => hR r (by simp [hr])) (fun r hr => ?_) (by omega) (by omega) L (by simpa using hL) hLa
        rcases List.mem_cons.1 hr with rfl | hr
        · omega
        · exact h2 r hr
      · have hd : decide (cmpK K x s < 0) = false := decide_eq_false hlt
        rw [hd]
        have := fin (fun r hr => by
          have hsx : cmpT K s x ≤ 0 := by
            have h3 : ¬ cmpT K x s < 0 := fun h => hlt ((cmpT_key hsR).2 h)
            have := flipT (K := K) x s
            omega
          rcases List.mem_append.1 hr with hr | hr
          · have hrs : cmpT K r s ≤ 0 := by
              unfold Asc at hasc
              have := (List.pairwise_append.1 (List.pairwise_append.1 hasc).1).2.2 r hr s (by simp)
              exact this
            exact (cmpT_cmp K).trans r s x hrs hsx
          · simp at hr; subst hr; exact hsx)
        rw [hlen] at this
        exact this
def bef (A B : LL) : Prop := ∀ x ∈ A, ∀ y ∈ B, cmpR x y ≤ 0
theorem sort_snoc (A : LL) (x : List api_Value) {L : LL} (h : L.Perm (x :: sortC (cmpT K) A)) (ha : Asc (cmpT K) L) : L = sortC (cmpT K) (A ++ [x]) :=
  asc_uniq (cmpT_cmp K) (cmpT_zero K) ha (sortC_asc (cmpT_cmp K) _) (h.trans ((((sortC_perm (cmpT K) A).cons x).trans (List.perm_append_comm (l₁ := [x]) (l₂ := A))).trans (sortC_perm (cmpT K) _).symm))
theorem ins_l0 {P R : LL} {a b : Nat} (ha : P.length = a) (hb : b < 4611686018427387904) : ∀ (fuel : Nat) (A B : LL), has K (A ++ B) → Asc cmpR (A ++ B) → a + A.length + B.length = b → B.length < fuel →
    slices_insertionSortCmpFunc_api_Value_f_rowops_Top_1p.l0 (a : Int) (b : Int) (K : Int) fuel (P ++ (sortC (cmpT K) A ++ (B ++ R))) ((a + A.length : Nat) : Int) = some (P ++ (sortC (cmpT K) (A ++ B) ++ R))
  | 0, A, B, _, _, _, h => by omega
  | fuel + 1, A, B, hh, hasc, hl, hf => by
    rw [slices_insertionSortCmpFunc_api_Value_f_rowops_Top_1p.l0]
    cases B with
    | nil =>
      rw [if_neg (by simp only [List.length_nil] at hl; simp; omega)]
      simp
    | cons x B =>
      have hlc : (x :: B).length = B.length + 1 := rfl
      rw [hlc] at hl hf
      rw [if_pos (by simp; omega)]
      have hxK : K < x.length := hh x (by simp)
      unfold Asc at hasc
      obtain ⟨c1, c2, c3⟩ := List.pairwise_append.1 hasc
      have hf2 : ((((a + A.length : Nat) : Int)) - (a : Int)).toNat + 1 = A.length + 1 := by omega
      rw [hf2]
      have hSl : (sortC (cmpT K) A).length = A.length := sortC_len _ _
      have key := ins_l1 (K := K) (kl0 := slices_insertionSortCmpFunc_api_Value_f_rowops_Top_1p.l0 (a : Int) (b : Int) (K : Int) fuel) (a2 := (b : Int)) (P := P) (R := B ++ R) (x := x) (i := a + A.length) hxK ha (by omega) (A.length + 1) (sortC (cmpT K) A) [] (fun r hr => hh r (by simp [mem_sortC.1 hr])) (by simpa using sortC_asc (cmpT_cmp K) A) (fun s hs => c3 s (mem_sortC.1 hs) x (by simp)) (fun s hs => by cases hs) (by omega) (by omega)
        (sortC (cmpT K) (A ++ [x])) (by
          refine (sortC_perm _ _).trans ?_
          rw [List.append_nil]
          exact (List.perm_append_comm (l₁ := A) (l₂ := [x])).trans ((sortC_perm (cmpT K) A).symm.cons x)) (sortC_asc (cmpT_cmp K) _)
      rw [hSl] at key
      have e1 : P ++ (sortC (cmpT K) A ++ (x :: B ++ R)) = P ++ (sortC (cmpT K) A ++ [x]) ++ (B ++ R) := by simp
      have e2 : (A ++ [x]).length = A.length + 1 := by simp
      rw [e1, ← key, show a + A.length + 1 = a + (A ++ [x]).length by rw [e2]; omega]
      have := ins_l0 (R := R) ha hb fuel (A ++ [x]) B (by simpa using hh) (by unfold Asc; simpa using hasc) (by rw [e2]; omega) (by omega)
      rw [this]
      simp
theorem ins_eq {P A R : LL} {a b : Nat} (ha : P.length = a) (hl : a + A.length = b) (hb : b < 4611686018427387904) (hh : has K A) (hasc : Asc cmpR A) : slices_insertionSortCmpFunc_api_Value_f_rowops_Top_1p (P ++ (A ++ R)) (a : Int) (b : Int) (K : Int) = some (P ++ (sortC (cmpT K) A ++ R)) := by
  unfold slices_insertionSortCmpFunc_api_Value_f_rowops_Top_1p
  rw [w64_nat a (by omega)]
  cases A with
  | nil =>
    have : ((b : Int) - ((a + 1 : Nat) : Int)).toNat + 1 = 0 + 1 := by simp at hl; omega
    rw [this, slices_insertionSortCmpFunc_api_Value_f_rowops_Top_1p.l0, if_neg (by simp at hl; simp; omega)]
    have : sortC (cmpT K) ([] : LL) = [] := List.perm_nil.1 (sortC_perm _ _)
    rw [this]
  | cons x A =>
    have hlc : (x :: A).length = A.length + 1 := rfl
    rw [hlc] at hl
    have := ins_l0 (K := K) (R := R) ha hb (((b : Int) - ((a + 1 : Nat) : Int)).toNat + 1) [x] A (by simpa using hh) (by simpa using hasc) (by simp; omega) (by omega)
    have e1 : sortC (cmpT K) [x] = [x] := List.perm_singleton.1 (sortC_perm _ _)
    rw [e1] at this
    simpa using this
end
end Go.Proofs.Ytjimddbbpjpgdaa.M
