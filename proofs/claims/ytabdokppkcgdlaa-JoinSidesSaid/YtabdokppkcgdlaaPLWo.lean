/- Wire: what the program answers where a value is put. -/
import Derived.Test.YtabdokppkcgdlaaPure
import Derived.Test.YtabdokppkcgdlaaPLVv
import Derived.Test.YtabdokppkcgdlaaPLWs
namespace Go.Proofs.Ytabdokppkcgdlaa.M
open Go Go.Eng Go.Proofs Go.RowKit
set_option maxRecDepth 100000
set_option linter.unusedVariables false
set_option linter.unusedSimpArgs false

theorem pw2 : ∀ {i : Nat}, i < 8 → (2 : Int) ^ (min (8 * i) 64) = pw i
  | 0, _ => rfl
  | 1, _ => rfl
  | 2, _ => rfl
  | 3, _ => rfl
  | 4, _ => rfl
  | 5, _ => rfl
  | 6, _ => rfl
  | 7, _ => rfl
theorem u8w (x : Int) : IntKind.u8.wrap x = x % 256 := by
  simp only [IntKind.wrap, IntKind.bits, IntKind.signed, Bool.false_and, Bool.false_eq_true, if_false]
  rfl
theorem byte_eq (n : Int) (k : Nat) (h : k < 8) : IntKind.u8.wrap (n.fdiv (2 ^ (min (8 * (k : Int)).toNat 64))) = byteAt n k := by
  rw [show (8 * (k : Int)).toNat = 8 * k by omega, pw2 h, u8w, Int.fdiv_eq_ediv_of_nonneg _ (by have := pw_pos k; omega)]
  rfl

/-! numbers, by wire_big -/
theorem wire_big_l0 (n a2 : Int) : ∀ (k fuel : Nat) (acc : List Int), k ≤ 8 → k < fuel → acc.length + k ≤ 140737488355328 → wire_big.l0 n a2 fuel acc ((k : Int) - 1) = some (acc ++ bigS n k)
  | 0, fuel + 1, acc, _, _, _ => by rw [wire_big.l0, if_neg (by simp)]; simp [bigS]
  | k + 1, fuel + 1, acc, h, hf, hl => by
    have e : ((k + 1 : Nat) : Int) - 1 = (k : Int) := by omega
    have e2 : IntKind.i64.wrap (8 * (k : Int)) = 8 * (k : Int) := w64 (by omega) (by omega)
    have e3 : IntKind.i64.wrap ((k : Int) - 1) = (k : Int) - 1 := w64 (by omega) (by omega)
    rw [e, wire_big.l0, if_pos (by simp), e2, if_pos (by simp; omega), byte_eq n k (by omega), apd_of (by simp; omega), Option.bind_some, e3, wire_big_l0 n a2 k fuel _ (by omega) (by omega) (by simp; omega)]
    simp [bigS]
theorem wire_big_eq (b : List Int) (n : Int) {k : Nat} (hk : k ≤ 8) (hl : b.length + k ≤ 140737488355328) : wire_big b n (k : Int) = some (b ++ bigS n k) := by
  unfold wire_big
  rw [w64 (by omega) (by omega)]
  exact wire_big_l0 n _ k _ b hk (by omega) hl
theorem histB_list (h : Arr8) : histB h = h.list.flatMap (bigS · 8) := by simp [histB, Arr8.list]
theorem sz1 (n : Nat) (h : n < 256) : IntKind.u8.wrap (n : Int) = (n : Int) := by rw [u8w]; omega
/-! values: put -/
theorem wput_l0 (v : api_Value) : ∀ (d i fuel : Nat) (acc : List Int), i + d = 8 → d < fuel → acc.length + 8 * d ≤ 140737488355328 → wire_put.l0 v fuel acc (i : Int) = some (acc ++ (v.H.list.drop i).flatMap (bigS · 8))
  | 0, i, fuel + 1, acc, h, _, hl => by
    rw [wire_put.l0, if_neg (by simp; omega), List.drop_of_length_le (by simp [Arr8.list]; omega)]; simp
  | d + 1, i, fuel + 1, acc, h, hf, hl => by
    have hlen : v.H.list.length = 8 := rfl
    obtain ⟨x, hx, ex⟩ := getE (l := v.H.list) (i := i) (by omega)
    have e8 : wire_big acc x 8 = some (acc ++ bigS x 8) := wire_big_eq acc x (k := 8) (Nat.le_refl _) (by omega)
    rw [wire_put.l0, if_pos (by simp; omega), Arr8.ix, ix_of hx, Option.bind_some, e8, Option.bind_some, w64_nat i (by omega), wput_l0 v d (i + 1) fuel _ (by omega) (by omega) (by simp [bigS_len]; omega), ex]
    simp

theorem wput_eq {b : List Int} {v : api_Value} (h : validS v = true) (hl : b.length + 65 ≤ 140737488355328) : wire_put b v = some (b ++ valS v) := by
  unfold wire_put valS
  have hv := h
  unfold validS at hv
  have e8 : wire_big b v.N 8 = some (b ++ bigS v.N 8) := wire_big_eq b v.N (k := 8) (Nat.le_refl _) (by omega)
  by_cases h1 : v.Kind = 1
  · rw [if_pos (by simpa using h1), if_pos h1, e8]; rfl
  · rw [if_neg (by simpa using h1), if_neg h1]
    rw [if_neg h1] at hv
    by_cases h2 : v.Kind = 2
    · rw [if_pos h2] at hv
      simp only [decide_eq_true_eq] at hv
      have := sbytes_len v.S
      rw [if_pos (by simpa using h2), if_pos h2, sz1 _ (by omega), apd_of (by simp; omega), Option.bind_some, apd_of (by simp; omega), Option.bind_some]
      simp
    · rw [if_neg (by simpa using h2), if_neg h2]
      rw [if_neg h2] at hv
      by_cases h3 : v.Kind = 3
      · rw [if_pos h3] at hv
        simp only [decide_eq_true_eq] at hv
        rw [if_pos (by simpa using h3), if_pos h3, apd_of (by simp; omega), Option.bind_some, u8w]
        have : v.N % 256 = v.N := by omega
        rw [this]
      · rw [if_neg (by simpa using h3), if_neg h3, histB_list]
        exact wput_l0 v 8 0 _ b rfl (by decide) (by omega)
def putS (b : List Int) (v : api_Value) : List Int × Int := if validS v = true then (b ++ valS v, 0) else ([], 10)
theorem wPut_eq {b : List Int} {v : api_Value} (hl : b.length + 65 ≤ 140737488355328) : wire_Put b v = some (putS b v) := by
  unfold wire_Put putS slices_Clone_byte_byte
  rw [valid_eq, Option.bind_some]
  by_cases h : validS v = true
  · rw [if_neg (by simp [h]), if_pos h, apd_of (by simp; omega), Option.bind_some, Option.bind_some, List.nil_append, wput_eq h hl]; rfl
  · rw [if_pos (by simpa using h), if_neg h]

end Go.Proofs.Ytabdokppkcgdlaa.M
