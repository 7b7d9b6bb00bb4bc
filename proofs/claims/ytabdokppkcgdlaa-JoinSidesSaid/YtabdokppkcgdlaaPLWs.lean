/- Wire: the bytes of values and of tables. -/
import Derived.Test.YtabdokppkcgdlaaPure
import Derived.Test.YtabdokppkcgdlaaPLVs
import Derived.Test.YtabdokppkcgdlaaPLWn
namespace Go.Proofs.Ytabdokppkcgdlaa.M
open Go Go.Eng Go.Proofs Go.RowKit
set_option maxRecDepth 100000
set_option linter.unusedVariables false
set_option linter.unusedSimpArgs false

def In64 (x : Int) : Prop := -9223372036854775808 ≤ x ∧ x ≤ 9223372036854775807
def wfV (v : api_Value) : Prop := In64 v.N ∧ ∀ x ∈ v.H.list, In64 x
def E0 : ByteArray := ⟨#[]⟩
def histB (h : Arr8) : List Int := bigS h.a0 8 ++ (bigS h.a1 8 ++ (bigS h.a2 8 ++ (bigS h.a3 8 ++ (bigS h.a4 8 ++ (bigS h.a5 8 ++ (bigS h.a6 8 ++ bigS h.a7 8))))))
def valS (v : api_Value) : List Int := if v.Kind = 1 then bigS v.N 8 else if v.Kind = 2 then (v.S.size : Int) :: sbytes v.S else if v.Kind = 3 then [v.N] else histB v.H
def histS (b : List Int) : Arr8 := ⟨smallS (b.take 8), smallS ((b.drop 8).take 8), smallS ((b.drop 16).take 8), smallS ((b.drop 24).take 8), smallS ((b.drop 32).take 8), smallS ((b.drop 40).take 8), smallS ((b.drop 48).take 8), smallS ((b.drop 56).take 8)⟩
def takeS (k : Int) (b : List Int) : Option (api_Value × List Int) :=
  if k = 1 then (if 8 ≤ b.length then some (⟨1, smallS (b.take 8), E0, H0⟩, b.drop 8) else none)
  else if k = 2 then (match b with
    | [] => none
    | c :: r => if c ≤ r.length ∧ c ≤ 64 then some (⟨2, 0, bstr (r.take c.toNat), H0⟩, r.drop c.toNat) else none)
  else if k = 3 then (match b with
    | [] => none
    | c :: r => if c = 0 ∨ c = 1 then some (⟨3, c, E0, H0⟩, r) else none)
  else if k = 4 then (if 64 ≤ b.length then some (⟨4, 0, E0, histS b⟩, b.drop 64) else none)
  else none
theorem validS_kind {v : api_Value} (h : validS v = true) : v.Kind = 1 ∨ v.Kind = 2 ∨ v.Kind = 3 ∨ v.Kind = 4 := by
  unfold validS at h
  split at h
  · exact Or.inl (by assumption)
  · split at h
    · exact Or.inr (Or.inl (by assumption))
    · split at h
      · exact Or.inr (Or.inr (Or.inl (by assumption)))
      · split at h
        · exact Or.inr (Or.inr (Or.inr (by assumption)))
        · cases h
theorem sbytes_E0 : sbytes E0 = [] := rfl
theorem byts_histB (h : Arr8) : Byts (histB h) := by
  unfold histB
  simp only [Byts.append, byts_bigS, and_self]
theorem histB_len (h : Arr8) : (histB h).length = 64 := by simp [histB, bigS_len]
theorem byts_valS {v : api_Value} (h : validS v = true) : Byts (valS v) := by
  unfold valS
  unfold validS at h
  split
  · exact byts_bigS _ _
  · rename_i h1
    rw [if_neg h1] at h
    split
    · rename_i h2
      rw [if_pos h2] at h
      simp only [decide_eq_true_eq] at h
      exact Byts.cons.2 ⟨by omega, byts_sbytes _⟩
    · rename_i h2
      rw [if_neg h2] at h
      split
      · rename_i h3
        rw [if_pos h3] at h
        simp only [decide_eq_true_eq] at h
        refine Byts.cons.2 ⟨by omega, fun x hx => by cases hx⟩
      · exact byts_histB _
theorem valS_len {v : api_Value} (h : validS v = true) : (valS v).length ≤ 65 := by
  unfold valS
  unfold validS at h
  split
  · rw [bigS_len]; omega
  · rename_i h1
    rw [if_neg h1] at h
    split
    · rename_i h2
      rw [if_pos h2] at h
      simp only [decide_eq_true_eq] at h
      rw [List.length_cons, sbytes_len]; omega
    · split
      · simp
      · rw [histB_len]; omega
theorem take8 (x : Int) (l : List Int) : (bigS x 8 ++ l).take 8 = bigS x 8 := by rw [List.take_append_of_le_length (by rw [bigS_len]; omega), List.take_of_length_le (by rw [bigS_len]; omega)]
theorem drop8 (x : Int) (l : List Int) (k : Nat) : (bigS x 8 ++ l).drop (8 + k) = l.drop k := by rw [List.drop_append, List.drop_of_length_le (by rw [bigS_len]; omega), bigS_len]; simp
theorem histS_histB {h : Arr8} (hh : ∀ x ∈ h.list, In64 x) (r : List Int) : histS (histB h ++ r) = h := by
  obtain ⟨a0, a1, a2, a3, a4, a5, a6, a7⟩ := h
  simp only [Arr8.list, List.mem_cons, List.not_mem_nil, or_false, forall_eq_or_imp, forall_eq] at hh
  obtain ⟨h0, h1, h2, h3, h4, h5, h6, h7⟩ := hh
  unfold histS histB
  simp only [List.append_assoc]
  rw [show (16 : Nat) = 8 + 8 from rfl, show (24 : Nat) = 8 + (8 + 8) from rfl, show (32 : Nat) = 8 + (8 + (8 + 8)) from rfl, show (40 : Nat) = 8 + (8 + (8 + (8 + 8))) from rfl, show (48 : Nat) = 8 + (8 + (8 + (8 + (8 + 8)))) from rfl, show (56 : Nat) = 8 + (8 + (8 + (8 + (8 + (8 + 8))))) from rfl]
  simp only [drop8, take8, small_big8 h0.1 h0.2, small_big8 h7.1 h7.2]
  have e : ∀ (x : Int) (l : List Int), (bigS x 8 ++ l).drop 8 = l := fun x l => by simpa using drop8 x l 0
  simp only [e, take8, small_big8 h1.1 h1.2, small_big8 h2.1 h2.2, small_big8 h3.1 h3.2, small_big8 h4.1 h4.2, small_big8 h5.1 h5.2, small_big8 h6.1 h6.2, small_big8 h7.1 h7.2]
theorem take_put {v : api_Value} (h : validS v = true) (hw : wfV v) (r : List Int) : takeS v.Kind (valS v ++ r) = some (v, r) := by
  obtain ⟨k, n, s, hh⟩ := v
  unfold validS at h
  unfold takeS valS
  simp only at h ⊢
  by_cases h1 : k = 1
  · subst h1
    simp only [if_pos, decide_eq_true_eq] at h ⊢
    obtain ⟨rfl, rfl⟩ := h
    rw [if_pos (by simp [bigS_len]), take8, small_big8 hw.1.1 hw.1.2]
    have : (bigS n 8 ++ r).drop 8 = r := by simpa using drop8 n r 0
    rw [this]; rfl
  · by_cases h2 : k = 2
    · subst h2
      simp only [if_neg h1, if_pos, decide_eq_true_eq] at h ⊢
      obtain ⟨rfl, rfl, h3⟩ := h
      have hl := sbytes_len s
      simp only [List.cons_append, List.length_append, hl]
      rw [if_pos (by omega), Int.toNat_natCast, List.take_append_of_le_length (by omega), List.take_of_length_le (by omega), bstr_sbytes, List.drop_append_of_le_length (by omega), List.drop_of_length_le (by omega)]
      rfl
    · by_cases h3 : k = 3
      · subst h3
        simp only [if_neg h1, if_neg h2, if_pos, decide_eq_true_eq] at h ⊢
        obtain ⟨h4, rfl, rfl⟩ := h
        simp only [List.cons_append, List.nil_append]
        rw [if_pos h4]; rfl
      · by_cases h4 : k = 4
        · subst h4
          simp only [if_neg h1, if_neg h2, if_neg h3, if_pos, decide_eq_true_eq] at h ⊢
          obtain ⟨rfl, rfl⟩ := h
          rw [if_pos (by simp [histB_len]), histS_histB hw.2, List.drop_append_of_le_length (by rw [histB_len]; omega), List.drop_of_length_le (by rw [histB_len]; omega)]
          rfl
        · simp only [if_neg h1, if_neg h2, if_neg h3, if_neg h4] at h
          cases h
theorem seg {b : List Int} (hb : Byts b) (o : Nat) (h : o + 8 ≤ b.length) : bigS (smallS ((b.drop o).take 8)) 8 = (b.drop o).take 8 := big_small8 ((hb.drop o).take 8) (by simp; omega)
theorem histB_histS {b : List Int} (hb : Byts b) (h : 64 ≤ b.length) : histB (histS b) ++ b.drop 64 = b := by
  unfold histB histS
  have s0 := seg hb 0 (by omega)
  rw [List.drop_zero] at s0
  simp only [s0, seg hb 8 (by omega), seg hb 16 (by omega), seg hb 24 (by omega), seg hb 32 (by omega), seg hb 40 (by omega), seg hb 48 (by omega), seg hb 56 (by omega), List.append_assoc]
  have st : ∀ o : Nat, (b.drop o).take 8 ++ b.drop (o + 8) = b.drop o := fun o => by rw [← List.drop_drop]; exact List.take_append_drop 8 _
  rw [show (64 : Nat) = 56 + 8 from rfl, st 56, show (56 : Nat) = 48 + 8 from rfl, st 48, show (48 : Nat) = 40 + 8 from rfl, st 40, show (40 : Nat) = 32 + 8 from rfl, st 32, show (32 : Nat) = 24 + 8 from rfl, st 24, show (24 : Nat) = 16 + 8 from rfl, st 16, show (16 : Nat) = 8 + 8 from rfl, st 8]
  exact List.take_append_drop 8 b
theorem put_take {b : List Int} (hb : Byts b) {k : Int} {v : api_Value} {r : List Int} (h : takeS k b = some (v, r)) : v.Kind = k ∧ validS v = true ∧ wfV v ∧ b = valS v ++ r := by
  have h0 : ∀ x ∈ H0.list, In64 x := by
    intro x hx
    simp only [H0, Arr8.list, List.mem_cons, List.not_mem_nil, or_false, or_self] at hx
    subst hx; unfold In64; omega
  unfold takeS at h
  split at h
  · rename_i h1
    split at h
    · rename_i h8
      cases h
      refine ⟨h1.symm, by simp [validS, E0], ⟨small_i64 (hb.take 8), h0⟩, ?_⟩
      simp only [valS, if_pos]
      rw [big_small8 (hb.take 8) (by simp; omega), List.take_append_drop]
    · cases h
  · split at h
    · rename_i h2
      split at h
      · cases h
      · rename_i c r' 
        obtain ⟨hc, hr⟩ := Byts.cons.1 hb
        split at h
        · rename_i h3
          cases h
          have hl : (r'.take c.toNat).length = c.toNat := by simp; omega
          refine ⟨h2.symm, by simp [validS, bstr_size]; omega, ⟨by unfold In64; simp, h0⟩, ?_⟩
          simp only [valS, bstr_size, sbytes_bstr (hr.take _), hl, List.cons_append]
          rw [if_neg (by decide), if_true, List.cons_append, List.take_append_drop]
          congr 1; omega
        · cases h
    · split at h
      · rename_i h3
        split at h
        · cases h
        · rename_i c r'
          split at h
          · rename_i h4
            cases h
            refine ⟨h3.symm, by simp [validS, E0, h4], ⟨by unfold In64; simp only; omega, h0⟩, by simp [valS]⟩
          · cases h
      · split at h
        · rename_i h4
          split at h
          · rename_i h8
            cases h
            refine ⟨h4.symm, by simp [validS, E0], ⟨by unfold In64; simp, fun x hx => ?_⟩, ?_⟩
            · simp only [histS, Arr8.list, List.mem_cons, List.not_mem_nil, or_false] at hx
              rcases hx with rfl | rfl | rfl | rfl | rfl | rfl | rfl | rfl
              · exact small_i64 (hb.take 8)
              all_goals exact small_i64 ((hb.drop _).take 8)
            · simp only [valS]
              rw [if_neg (by decide), if_neg (by decide), if_neg (by decide), histB_histS hb h8]
          · cases h
        · cases h
end Go.Proofs.Ytabdokppkcgdlaa.M
