/- Numbers as texts tell themselves apart. -/
import Derived.Test.YtffleadhhhpnlaaDoorPure
import Derived.Test.YtffleadhhhpnlaaDoorEngQ
namespace Go.Proofs.YtffleadhhhpnlaaDoor.M
open Go Go.Eng Go.Proofs Go.RowKit
set_option maxRecDepth 100000
set_option linter.unusedVariables false
set_option linter.unusedSimpArgs false

def dval (l : List UInt8) : Nat := l.foldl (fun a b => a * 10 + (b.toNat - 48)) 0
theorem dig_nat {d : Nat} (h : d < 10) : (UInt8.ofNat (48 + d)).toNat = 48 + d := by rw [UInt8.toNat_ofNat']; omega
theorem dval_dec (u : Nat) : dval (Lib.decDigits u) = u := by
  induction u using Nat.strongRecOn with
  | _ u ih =>
    rw [Lib.decDigits]
    by_cases h : u < 10
    · rw [dif_pos h]; simp only [dval, List.foldl_cons, List.foldl_nil, dig_nat h]; omega
    · rw [dif_neg h]
      have := ih (u / 10) (by omega)
      unfold dval at *
      rw [List.foldl_append, this]
      simp only [List.foldl_cons, List.foldl_nil, dig_nat (show u % 10 < 10 by omega)]
      omega
theorem dec_inj {u w : Nat} (h : Lib.decDigits u = Lib.decDigits w) : u = w := by rw [← dval_dec u, h, dval_dec]
theorem dec_mem (u : Nat) : ∀ b ∈ Lib.decDigits u, 48 ≤ b.toNat ∧ b.toNat ≤ 57 := by
  induction u using Nat.strongRecOn with
  | _ u ih =>
    intro b hb
    rw [Lib.decDigits] at hb
    by_cases h : u < 10
    · rw [dif_pos h] at hb
      simp only [List.mem_singleton] at hb
      subst hb
      rw [dig_nat h]; omega
    · rw [dif_neg h] at hb
      rcases List.mem_append.1 hb with hb | hb
      · exact ih (u / 10) (by omega) b hb
      · simp only [List.mem_singleton] at hb
        subst hb
        rw [dig_nat (by omega)]; omega
theorem dec_ne (u : Nat) : Lib.decDigits u ≠ [] := by
  rw [Lib.decDigits]
  split <;> simp
theorem itoa_mem (n : Int) : ∀ b ∈ Lib.itoa n, b.toNat = 45 ∨ (48 ≤ b.toNat ∧ b.toNat ≤ 57) := by
  intro b hb
  unfold Lib.itoa at hb
  split at hb
  · rcases List.mem_cons.1 hb with rfl | hb
    · exact Or.inl rfl
    · exact Or.inr (dec_mem _ b hb)
  · exact Or.inr (dec_mem _ b hb)
theorem itoa_ne (n : Int) : Lib.itoa n ≠ [] := by
  unfold Lib.itoa
  split
  · simp
  · exact dec_ne _
theorem itoa_inj {n m : Int} (h : Lib.itoa n = Lib.itoa m) : n = m := by
  unfold Lib.itoa at h
  have hd : ∀ (u w : Nat), (45 : UInt8) :: Lib.decDigits u ≠ Lib.decDigits w := fun u w e => by
    have := dec_mem w 45 (by rw [← e]; exact List.mem_cons_self ..)
    have e45 : (45 : UInt8).toNat = 45 := rfl
    omega
  split at h
  · split at h
    · have := dec_inj (List.cons.inj h).2; omega
    · exact absurd h (hd _ _)
  · split at h
    · exact absurd h.symm (hd _ _)
    · have := dec_inj h; omega
/-- Words that end at the first byte of another kind. -/
theorem word_inj {p : UInt8 → Bool} : ∀ {a a' : List UInt8} {s s' : UInt8} {r r' : List UInt8}, (∀ b ∈ a, p b = true) → (∀ b ∈ a', p b = true) → p s = false → p s' = false → a ++ s :: r = a' ++ s' :: r' → a = a' ∧ s = s' ∧ r = r'
  | [], [], s, s', r, r', _, _, _, _, h => by
    simp only [List.nil_append, List.cons.injEq] at h
    exact ⟨rfl, h.1, h.2⟩
  | [], b :: a', s, s', r, r', _, h2, h3, _, h => by
    simp only [List.nil_append, List.cons_append, List.cons.injEq] at h
    have := h2 b (List.mem_cons_self ..)
    rw [← h.1, h3] at this; cases this
  | b :: a, [], s, s', r, r', h1, _, _, h4, h => by
    simp only [List.nil_append, List.cons_append, List.cons.injEq] at h
    have := h1 b (List.mem_cons_self ..)
    rw [h.1, h4] at this; cases this
  | b :: a, c :: a', s, s', r, r', h1, h2, h3, h4, h => by
    simp only [List.cons_append, List.cons.injEq] at h
    obtain ⟨e1, e2, e3⟩ := word_inj (fun x hx => h1 x (List.mem_cons_of_mem _ hx)) (fun x hx => h2 x (List.mem_cons_of_mem _ hx)) h3 h4 h.2
    exact ⟨by rw [h.1, e1], e2, e3⟩
end Go.Proofs.YtffleadhhhpnlaaDoor.M
