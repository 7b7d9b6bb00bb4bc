/- Values: their texts tell them apart. -/
import Derived.Test.YtmohocmmelaeaaaDoorPure
import Derived.Test.YtmohocmmelaeaaaDoorPL01t
namespace Go.Proofs.YtmohocmmelaeaaaDoor.M
open Go Go.Eng Go.Proofs Go.RowKit
set_option maxRecDepth 100000
set_option linter.unusedVariables false
set_option linter.unusedSimpArgs false

def dval (l : List UInt8) : Nat := l.foldl (fun a b => a * 10 + (b.toNat - 48)) 0
theorem dig_nat {d : Nat} (h : d < 10) : (UInt8.ofNat (48 + d)).toNat = 48 + d := by rw [UInt8.toNat_ofNat']; omega
theorem dval_dec (u : Nat) : dval (Lib.decDigits u) = u := by
  induction u using Nat.strongRecOn with
  | _ u ih =>
    rw [Lib.decDigits]
    by_cases h : u < 10
    · rw [dif_pos h]; simp only [dval, List.foldl_cons, List.foldl_nil, dig_nat h]; omega
    · rw [dif_neg h]
      have := ih (u / 10) (by omega)
      unfold dval at *
      rw [List.foldl_append, this]
      simp only [List.foldl_cons, List.foldl_nil, dig_nat (show u % 10 < 10 by omega)]
      omega
theorem dec_inj {u w : Nat} (h : Lib.decDigits u = Lib.decDigits w) : u = w := by rw [← dval_dec u, h, dval_dec]
theorem dec_mem (u : Nat) : ∀ b ∈ Lib.decDigits u, 48 ≤ b.toNat ∧ b.toNat ≤ 57 := by
  induction u using Nat.strongRecOn with
  | _ u ih =>
    intro b hb
    rw [Lib.decDigits] at hb
    by_cases h : u < 10
    · rw [dif_pos h] at hb
      simp only [List.mem_singleton] at hb
      subst hb
      rw [dig_nat h]; omega
    · rw [dif_neg h] at hb
      rcases List.mem_append.1 hb with hb | hb
      · exact ih (u / 10) (by omega) b hb
      · simp only [List.mem_singleton] at hb
        subst hb
        rw [dig_nat (by omega)]; omega
theorem dec_ne (u : Nat) : Lib.decDigits u ≠ [] := by
  rw [Lib.decDigits]
  split <;> simp
theorem itoa_mem (n : Int) : ∀ b ∈ Lib.itoa n, b.toNat = 45 ∨ (48 ≤ b.toNat ∧ b.toNat ≤ 57) := by
  intro b hb
  unfold Lib.itoa at hb
  split at hb
  · rcases List.mem_cons.1 hb with rfl | hb
    · exact Or.inl rfl
    · exact Or.inr (dec_mem _ b hb)
  · exact Or.inr (dec_mem _ b hb)
theorem itoa_ne (n : Int) : Lib.itoa n ≠ [] := by
  unfold Lib.itoa
  split
  · simp
  · exact dec_ne _
theorem itoa_inj {n m : Int} (h : Lib.itoa n = Lib.itoa m) : n = m := by
  unfold Lib.itoa at h
  have hd : ∀ (u w : Nat), (45 : UInt8) :: Lib.decDigits u ≠ Lib.decDigits w := fun u w e => by
    have := dec_mem w 45 (by rw [← e]; exact List.mem_cons_self ..)
    have e45 : (45 : UInt8).toNat = 45 := rfl
    omega
  split at h
  · split at h
    · have := dec_inj (List.cons.inj h).2; omega
    · exact absurd h (hd _ _)
  · split at h
    · exact absurd h.symm (hd _ _)
    · have := dec_inj h; omega
/-- Words that end at the first byte of another kind. -/
theorem word_inj {p : UInt8 → Bool} : ∀ {a a' : List UInt8} {s s' : UInt8} {r r' : List UInt8}, (∀ b ∈ a, p b = true) → (∀ b ∈ a', p b = true) → p s = false → p s' = false → a ++ s :: r = a' ++ s' :: r' → a = a' ∧ s = s' ∧ r = r'
  | [], [], s, s', r, r', _, _, _, _, h => by
    simp only [List.nil_append, List.cons.injEq] at h
    exact ⟨rfl, h.1, h.2⟩
  | [], b :: a', s, s', r, r', _, h2, h3, _, h => by
    simp only [List.nil_append, List.cons_append, List.cons.injEq] at h
    have := h2 b (List.mem_cons_self ..)
    rw [← h.1, h3] at this; cases this
  | b :: a, [], s, s', r, r', h1, _, _, h4, h => by
    simp only [List.nil_append, List.cons_append, List.cons.injEq] at h
    have := h1 b (List.mem_cons_self ..)
    rw [h.1, h4] at this; cases this
  | b :: a, c :: a', s, s', r, r', h1, h2, h3, h4, h => by
    simp only [List.cons_append, List.cons.injEq] at h
    obtain ⟨e1, e2, e3⟩ := word_inj (fun x hx => h1 x (List.mem_cons_of_mem _ hx)) (fun x hx => h2 x (List.mem_cons_of_mem _ hx)) h3 h4 h.2
    exact ⟨by rw [h.1, e1], e2, e3⟩
def inNum (b : UInt8) : Bool := decide (b.toNat = 45 ∨ (48 ≤ b.toNat ∧ b.toNat ≤ 57))
theorem itoa_in (n : Int) : ∀ b ∈ Lib.itoa n, inNum b = true := fun b hb => by simpa [inNum] using itoa_mem n b hb
theorem nums_inj : ∀ {l l' : List Int} {x x' : Int}, l.length = l'.length → Lib.itoa x ++ (tl l ++ [93]) = Lib.itoa x' ++ (tl l' ++ [93]) → x = x' ∧ l = l'
  | [], [], x, x', _, h => by
    obtain ⟨h1, _, _⟩ := word_inj (p := inNum) (s := 93) (s' := 93) (r := []) (r' := []) (itoa_in x) (itoa_in x') rfl rfl (by simpa [tl] using h)
    exact ⟨itoa_inj h1, rfl⟩
  | y :: l, y' :: l', x, x', hl, h => by
    have e : ∀ (z : Int) (q : List Int), tl (z :: q) ++ [93] = 32 :: (Lib.itoa z ++ (tl q ++ [93])) := fun z q => by simp [tl]
    rw [e, e] at h
    obtain ⟨h1, _, h3⟩ := word_inj (p := inNum) (itoa_in x) (itoa_in x') rfl rfl h
    obtain ⟨h4, h5⟩ := nums_inj (by simpa using hl) h3
    exact ⟨itoa_inj h1, by rw [h4, h5]⟩
  | [], _ :: _, _, _, hl, _ => by simp at hl
  | _ :: _, [], _, _, hl, _ => by simp at hl
theorem histT_inj {a b : Arr8} (h : histT a = histT b) : a = b := by
  unfold histT at h
  obtain ⟨h1, h2⟩ := nums_inj (by simp) (List.cons.inj h).2
  obtain ⟨a0, a1, a2, a3, a4, a5, a6, a7⟩ := a
  obtain ⟨b0, b1, b2, b3, b4, b5, b6, b7⟩ := b
  simp only [List.cons.injEq, and_true] at h1 h2
  obtain ⟨rfl, rfl, rfl, rfl, rfl, rfl, rfl⟩ := h2
  subst h1
  rfl
theorem esc92 : esc 92 = [92, 92] := rfl
theorem esc34 : esc 34 = [92, 34] := rfl
theorem esc_o {b : UInt8} (h1 : b ≠ 92) (h2 : b ≠ 34) : esc b = [b] := by unfold esc; rw [if_neg h1, if_neg h2]
theorem esc_cases (b : UInt8) : (b = 92 ∧ esc b = [92, 92]) ∨ (b = 34 ∧ esc b = [92, 34]) ∨ (b ≠ 92 ∧ b ≠ 34 ∧ esc b = [b]) := by
  by_cases h1 : b = 92
  · exact Or.inl ⟨h1, by rw [h1]; rfl⟩
  · by_cases h2 : b = 34
    · exact Or.inr (Or.inl ⟨h2, by rw [h2]; rfl⟩)
    · exact Or.inr (Or.inr ⟨h1, h2, esc_o h1 h2⟩)
theorem esc_ne (b : UInt8) : esc b ≠ [] := by rcases esc_cases b with ⟨_, e⟩ | ⟨_, e⟩ | ⟨_, _, e⟩ <;> rw [e] <;> simp
theorem esc_inj : ∀ {s t : List UInt8}, s.flatMap esc = t.flatMap esc → s = t
  | [], [], _ => rfl
  | [], c :: t, h => by
    rw [List.flatMap_nil, List.flatMap_cons] at h
    exact absurd (List.append_eq_nil_iff.1 h.symm).1 (esc_ne c)
  | b :: s, [], h => by
    rw [List.flatMap_nil, List.flatMap_cons] at h
    exact absurd (List.append_eq_nil_iff.1 h).1 (esc_ne b)
  | b :: s, c :: t, h => by
    rw [List.flatMap_cons, List.flatMap_cons] at h
    have key : b = c ∧ s.flatMap esc = t.flatMap esc := by
      rcases esc_cases b with ⟨b1, e⟩ | ⟨b1, e⟩ | ⟨b1, b2, e⟩ <;> rcases esc_cases c with ⟨c1, f⟩ | ⟨c1, f⟩ | ⟨c1, c2, f⟩ <;> rw [e, f] at h <;> simp only [List.cons_append, List.nil_append, List.cons.injEq] at h
      · exact ⟨by rw [b1, c1], h.2.2⟩
      · exact absurd h.2.1 (by decide)
      · exact absurd h.1.symm c1
      · exact absurd h.2.1 (by decide)
      · exact ⟨by rw [b1, c1], h.2.2⟩
      · exact absurd h.1.symm c1
      · exact absurd h.1 b1
      · exact absurd h.1 b1
      · exact h
    rw [key.1, esc_inj key.2]
def cls (b : UInt8) : Int := if inNum b = true then 1 else if b = 34 then 2 else if b = 91 then 4 else 3
theorem textS_head {v : api_Value} (h : validS v = true) : ∃ x r, textS v = x :: r ∧ cls x = v.Kind := by
  unfold textS
  rw [if_pos h]
  by_cases h1 : v.Kind = 1
  · rw [if_pos h1]
    cases hi : Lib.itoa v.N with
    | nil => exact absurd hi (itoa_ne _)
    | cons x r =>
      refine ⟨x, r, rfl, ?_⟩
      have := itoa_in v.N x (by rw [hi]; exact List.mem_cons_self ..)
      unfold cls
      rw [if_pos this, h1]
  · rw [if_neg h1]
    by_cases h3 : v.Kind = 3
    · rw [if_pos h3, h3]
      by_cases hn : v.N = 1
      · rw [if_pos hn]; exact ⟨116, _, rfl, by decide⟩
      · rw [if_neg hn]; exact ⟨102, _, rfl, by decide⟩
    · rw [if_neg h3]
      by_cases h4 : v.Kind = 4
      · rw [if_pos h4, h4]; exact ⟨91, _, rfl, by decide⟩
      · rw [if_neg h4, (valid2 h h1 h3 h4).1]; exact ⟨34, _, rfl, by decide⟩
theorem textS_inj {a b : api_Value} (ha : validS a = true) (hb : validS b = true) (h : textS a = textS b) : a = b := by
  obtain ⟨x, r, e1, k1⟩ := textS_head ha
  obtain ⟨y, q, e2, k2⟩ := textS_head hb
  have hk : a.Kind = b.Kind := by
    rw [e1, e2] at h
    rw [← k1, ← k2, (List.cons.inj h).1]
  clear e1 e2 k1 k2
  unfold textS at h
  rw [if_pos ha, if_pos hb, ← hk] at h
  obtain ⟨ka, na, sa, ha'⟩ := a
  obtain ⟨kb, nb, sb, hb'⟩ := b
  simp only at hk h
  subst hk
  unfold validS at ha hb
  simp only at ha hb
  by_cases h1 : ka = 1
  · rw [if_pos h1, if_pos h1] at h
    rw [if_pos h1] at ha hb
    simp only [decide_eq_true_eq] at ha hb
    rw [itoa_inj h, ha.1, ha.2, hb.1, hb.2]
  · rw [if_neg h1, if_neg h1] at h
    rw [if_neg h1] at ha hb
    by_cases h3 : ka = 3
    · rw [if_pos h3, if_pos h3] at h
      rw [if_neg (by omega), if_pos h3] at ha hb
      simp only [decide_eq_true_eq] at ha hb
      have hn : na = nb := by
        by_cases c1 : na = 1 <;> by_cases c2 : nb = 1
        · rw [c1, c2]
        · rw [if_pos c1, if_neg c2] at h; exact absurd h (by decide)
        · rw [if_neg c1, if_pos c2] at h; exact absurd h (by decide)
        · omega
      rw [hn, ha.2.1, ha.2.2, hb.2.1, hb.2.2]
    · rw [if_neg h3, if_neg h3] at h
      by_cases h4 : ka = 4
      · rw [if_pos h4, if_pos h4] at h
        rw [if_neg (by omega), if_neg h3, if_pos h4] at ha hb
        simp only [decide_eq_true_eq] at ha hb
        rw [histT_inj h, ha.1, ha.2, hb.1, hb.2]
      · rw [if_neg h4, if_neg h4] at h
        by_cases h2 : ka = 2
        · rw [if_pos h2] at ha hb
          simp only [decide_eq_true_eq] at ha hb
          unfold strT at h
          have := esc_inj (List.append_cancel_right (List.cons.inj h).2)
          have hs : sa = sb := by
            obtain ⟨⟨x⟩⟩ := sa
            obtain ⟨⟨y⟩⟩ := sb
            simp only at this
            rw [this]
          rw [hs, ha.1, ha.2.1, hb.1, hb.2.1]
        · rw [if_neg h2, if_neg h3, if_neg h4] at ha; cases ha
theorem mkB_inj {a b : List UInt8} (h : mkB a = mkB b) : a = b := by
  have := congrArg (fun s : ByteArray => s.data.toList) h
  simpa [mkB] using this
theorem ValueTells_pure (a : api_Value) (oa : ok_api_Value a) (b : api_Value) (ob : ok_api_Value b) : law01_ValueTells a b = some true := by
  obtain ⟨aN, aH⟩ := ok64 oa
  obtain ⟨bN, bH⟩ := ok64 ob
  unfold law01_ValueTells law01_ValueTells.j0
  rw [shown_ok, Option.bind_some, valid_eq, Option.bind_some]
  by_cases ha : validS a = true
  · rw [if_neg (by simp [ha]), valid_eq, Option.bind_some]
    by_cases hb : validS b = true
    · rw [if_neg (by simp [hb]), if_pos rfl, text_eq aN aH, Option.bind_some, text_eq bN bH, Option.bind_some, beq_bytes]
      have e : decide (mkB (textS a) = mkB (textS b)) = decide (a = b) := by
        by_cases h : a = b
        · subst h; simp
        · have : mkB (textS a) ≠ mkB (textS b) := fun e => h (textS_inj ha hb (mkB_inj e))
          simp [h, this]
      rw [e, if_pos (by simp), Option.bind_some, beq_bytes]
      obtain ⟨x, r, ex, _⟩ := textS_head ha
      have : mkB (textS a) ≠ (⟨#[]⟩ : ByteArray) := fun e => by
        have := mkB_inj (b := []) e
        rw [ex] at this; cases this
      simp [this]
    · rw [if_pos (by simpa using hb)]
  · rw [if_pos (by simpa using ha), if_pos rfl]
end Go.Proofs.YtmohocmmelaeaaaDoor.M
