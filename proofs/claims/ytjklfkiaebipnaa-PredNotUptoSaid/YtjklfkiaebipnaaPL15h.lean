/- The reference's lexer, as a plain function on bytes, and that the code answers so. -/
import Derived.Test.YtjklfkiaebipnaaPure
import Derived.Test.YtjklfkiaebipnaaPL15g
namespace Go.Proofs.Ytjklfkiaebipnaa.M
open Go Go.Eng Go.Proofs Go.RowKit
set_option maxRecDepth 100000
set_option linter.unusedVariables false
set_option linter.unusedSimpArgs false

def lettS (c : Int) : Bool := decide (97 ≤ c ∧ c ≤ 122)
def digS (c : Int) : Bool := decide (48 ≤ c ∧ c ≤ 57)
def innS (c : Int) : Bool := lettS c || (digS c || c == 95)
theorem letter_eq (c : Int) : ref11_letter c = some (lettS c) := by
  unfold ref11_letter lettS
  by_cases h : c ≥ 97
  · rw [if_pos (by simpa using h)]; simp [show (97 : Int) ≤ c from h]
  · rw [if_neg (by simpa using h)]; simp [show ¬ (97 : Int) ≤ c from h]
theorem digit_eq (c : Int) : ref11_digit c = some (digS c) := by
  unfold ref11_digit digS
  by_cases h : c ≥ 48
  · rw [if_pos (by simpa using h)]; simp [show (48 : Int) ≤ c from h]
  · rw [if_neg (by simpa using h)]; simp [show ¬ (48 : Int) ≤ c from h]
theorem inner_eq (c : Int) : ref11_inner c = some (innS c) := by
  unfold ref11_inner innS
  rw [letter_eq, Option.bind_some, digit_eq, Option.bind_some]
  cases lettS c
  · cases digS c <;> rfl
  · rfl
def Byts (l : List Int) : Prop := ∀ x ∈ l, 0 ≤ x ∧ x < 256
theorem byts_sbytes (s : ByteArray) : Byts (sbytes s) := fun x hx => sbytes_range hx
theorem bstr_sbytes (s : ByteArray) : bstr (sbytes s) = s := by
  obtain ⟨⟨l⟩⟩ := s
  unfold bstr sbytes
  simp only [List.map_map]
  congr 2
  conv => rhs; rw [← List.map_id l]
  apply List.map_congr_left
  intro x hx
  show UInt8.ofNat ((x.toNat : Int)).toNat = x
  simp
theorem sbytes_bstr {l : List Int} (h : Byts l) : sbytes (bstr l) = l := by
  unfold bstr sbytes
  simp only [List.map_map]
  conv => rhs; rw [← List.map_id l]
  apply List.map_congr_left
  intro x hx
  obtain ⟨h0, h1⟩ := h x hx
  show ((UInt8.ofNat x.toNat).toNat : Int) = x
  rw [UInt8.toNat_ofNat']
  omega
theorem bstr_size (l : List Int) : (bstr l).size = l.length := by simp [bstr, ByteArray.size]
theorem Byts.sub {a b : List Int} (h : Byts b) (hs : ∀ x ∈ a, x ∈ b) : Byts a := fun x hx => h x (hs x hx)
theorem cuts_l {s : ByteArray} {l h : Nat} (h1 : l ≤ h) (h2 : h ≤ s.size) : cuts s (l : Int) (h : Int) = some (bstr (((sbytes s).drop l).take (h - l))) := by
  obtain ⟨t, e, ht⟩ := cuts_of h1 h2
  rw [e]
  congr 1
  rw [← bstr_sbytes t]
  congr 1
  unfold sbytes
  rw [ht, List.map_take, List.map_drop]
theorem tw_eq {α : Type} {p : α → Bool} : ∀ {l : List α} {i : Nat}, (∀ x ∈ l.take i, p x = true) → (∀ c, l[i]? = some c → p c = false) → l.takeWhile p = l.take i
  | [], i, _, _ => by simp
  | c :: l, 0, _, h => by
    have := h c rfl
    simp [this]
  | c :: l, i + 1, h1, h2 => by
    have hc := h1 c (by simp)
    rw [List.takeWhile_cons, if_pos hc, List.take_succ_cons, tw_eq (i := i) (fun x hx => h1 x (by simp [hx])) (fun x hx => h2 x (by simpa using hx))]
theorem tw_app {p : Int → Bool} {c : Int} (hc : p c = false) (l z : List Int) : (l ++ c :: z).takeWhile p = l.takeWhile p := by
  induction l with
  | nil => simp [hc]
  | cons a l ih =>
    rw [List.cons_append, List.takeWhile_cons, List.takeWhile_cons, ih]
theorem tw_len {p : Int → Bool} (l : List Int) : (l.takeWhile p).length ≤ l.length := (List.takeWhile_sublist p).length_le
theorem tw_take {p : Int → Bool} (l : List Int) : l.takeWhile p = l.take (l.takeWhile p).length := List.prefix_iff_eq_take.1 (List.takeWhile_prefix p)
def T0 : api_Token := ⟨0, (⟨#[]⟩ : ByteArray), 0, 0⟩
def mtS : ByteArray := ⟨#[]⟩
/-! words -/
def wordS (l : List Int) : api_Token × Int := if (l.takeWhile innS).length ≤ 24 then (⟨1, bstr (l.takeWhile innS), 0, 0⟩, ((l.takeWhile innS).length : Int)) else (T0, 0)
section
variable {s : ByteArray}
theorem word_l0 (hn : s.size ≤ 4096) : ∀ (fuel i : Nat), i ≤ s.size → s.size < i + fuel → (∀ x ∈ (sbytes s).take i, innS x = true) → ref11_one.l0 s fuel (i : Int) = some (wordS (sbytes s))
  | 0, i, _, h, _ => by omega
  | fuel + 1, i, h1, h2, h3 => by
    have hlen := sbytes_len s
    have fin : (∀ c, (sbytes s)[i]? = some c → innS c = false) → ref11_one.j1 (ref11_one.l0 s fuel) s (i : Int) false = some (wordS (sbytes s)) := fun h => by
      have e := tw_eq h3 h
      have hl : ((sbytes s).take i).length = i := by rw [List.length_take]; omega
      unfold ref11_one.j1 wordS
      rw [if_neg (by decide), e, hl]
      by_cases h24 : i ≤ 24
      · rw [if_pos (by simp; omega), if_pos h24]
        have := cuts_l (s := s) (l := 0) (h := i) (by omega) h1
        rw [show ((0 : Nat) : Int) = 0 from rfl] at this
        rw [this]; rfl
      · rw [if_neg (by simp; omega), if_neg h24]; rfl
    rw [ref11_one.l0]
    by_cases hi : i < s.size
    · obtain ⟨c, hc, _⟩ := getE (l := sbytes s) (i := i) (by omega)
      rw [if_pos (by simp; omega), ixs_of hc, Option.bind_some, inner_eq, Option.bind_some]
      cases hin : innS c with
      | false => exact fin (fun c' hc' => by rw [hc] at hc'; cases hc'; exact hin)
      | true =>
        unfold ref11_one.j1
        rw [if_pos rfl, w64_nat i (by omega)]
        refine word_l0 hn fuel (i + 1) (by omega) (by omega) fun x hx => ?_
        rw [List.take_add_one, hc] at hx
        rcases List.mem_append.1 hx with hx | hx
        · exact h3 x hx
        · simp at hx; subst hx; exact hin
    · rw [if_neg (by simp; omega)]
      exact fin (fun c hc => by have := (List.getElem?_eq_some_iff.1 hc).1; omega)
/-! texts -/
def textS : List Int → Nat → List Int → Option (List Int × Nat)
  | b, n, [] => none
  | b, n, [c] => if c = 34 then some (b, n + 1) else none
  | b, n, c :: e :: r => if c = 34 then some (b, n + 1) else if c = 92 then (if e = 34 ∨ e = 92 then textS (b ++ [e]) (n + 2) r else none) else textS (b ++ [c]) (n + 1) (e :: r)
def textR (x : Option (List Int × Nat)) : ByteArray × Int × Bool := match x with
  | some p => (bstr p.1, (p.2 : Int), decide ((p.1.length : Int) ≤ 64))
  | none => (mtS, 0, false)
theorem text_l0 (hn : s.size ≤ 4096) : ∀ (fuel i : Nat) (b : List Int), i ≤ s.size → s.size < i + fuel → b.length ≤ i → ref11_text.l0 s fuel b (i : Int) = some (textR (textS b i ((sbytes s).drop i)))
  | 0, i, b, _, h, _ => by omega
  | fuel + 1, i, b, h1, h2, h3 => by
    have hlen := sbytes_len s
    rw [ref11_text.l0]
    by_cases hi : i < s.size
    · obtain ⟨c, hc, ec⟩ := getE (l := sbytes s) (i := i) (by omega)
      rw [if_pos (by simp; omega), ixs_of hc, Option.bind_some, ec, w64_nat i (by omega)]
      by_cases c34 : c = 34
      · rw [if_pos (by simpa using c34)]
        cases (sbytes s).drop (i + 1) with
        | nil => simp only [textS, c34, if_true]; rfl
        | cons e r => simp only [textS, c34, if_true]; rfl
      · rw [if_neg (by simpa using c34)]
        by_cases c92 : c = 92
        · rw [if_pos (by simpa using c92)]
          by_cases hj : i + 1 < s.size
          · obtain ⟨e, he, ee⟩ := getE (l := sbytes s) (i := i + 1) (by omega)
            rw [if_neg (by simp; omega), ixs_of he, Option.bind_some, Option.bind_some, ee]
            simp only [textS, if_neg c34, if_pos c92]
            unfold ref11_text.j2
            have e2 : (sbytes s).drop (i + 1 + 1) = (sbytes s).drop (i + 2) := rfl
            have go : (e = 34 ∨ e = 92) → ((ixs s (IntKind.i64.wrap ((i : Int) + 1))).bind fun y_158 => (ref11_text.j1 (ref11_text.l0 s fuel) s b (IntKind.i64.wrap ((i : Int) + 1)) y_158)) = some (textR (textS (b ++ [e]) (i + 2) ((sbytes s).drop (i + 1 + 1)))) := fun _ => by
              rw [w64_nat i (by omega), ixs_of he, Option.bind_some]
              unfold ref11_text.j1
              rw [apd_of (by simp only [List.length_singleton]; omega), Option.bind_some, w64_nat (i + 1) (by omega)]
              exact text_l0 hn fuel (i + 1 + 1) (b ++ [e]) (by omega) (by omega) (by simp only [List.length_append, List.length_singleton]; omega)
            by_cases e34 : e = 34
            · rw [if_neg (by simpa using e34), if_neg (by decide), if_pos (Or.inl e34)]
              exact go (Or.inl e34)
            · rw [if_pos (by simpa using e34)]
              by_cases e92 : e = 92
              · rw [if_neg (by simpa using e92), if_pos (Or.inr e92)]
                exact go (Or.inr e92)
              · rw [if_pos (by simpa using e92), if_neg (by rintro (h | h); exact e34 h; exact e92 h)]; rfl
          · rw [if_pos (by simp; omega), List.drop_eq_nil_of_le (by omega)]
            simp only [textS, if_neg c34]; rfl
        · rw [if_neg (by simpa using c92)]
          unfold ref11_text.j1
          rw [apd_of (by simp only [List.length_singleton]; omega), Option.bind_some, w64_nat i (by omega), text_l0 hn fuel (i + 1) (b ++ [c]) (by omega) (by omega) (by simp only [List.length_append, List.length_singleton]; omega)]
          cases (sbytes s).drop (i + 1) with
          | nil => simp only [textS, if_neg c34]
          | cons e r => simp only [textS, if_neg c34, if_neg c92]
    · rw [if_neg (by simp; omega), List.drop_eq_nil_of_le (by omega)]; rfl
theorem textS_len : ∀ (l : List Int) (b : List Int) (n : Nat) {p : List Int × Nat}, textS b n l = some p → n < p.2 ∧ p.2 ≤ n + l.length
  | [], b, n, p, h => by cases h
  | [c], b, n, p, h => by
    simp only [textS] at h
    split at h
    · cases h; simp
    · cases h
  | c :: e :: r, b, n, p, h => by
    simp only [textS] at h
    split at h
    · cases h; simp
    · split at h
      · split at h
        · have := textS_len r _ _ h
          simp only [List.length_cons]; omega
        · cases h
      · have := textS_len (e :: r) _ _ h
        simp only [List.length_cons] at this ⊢; omega
theorem textS_app (z : List Int) : ∀ (l : List Int) (b : List Int) (n : Nat) {p : List Int × Nat}, textS b n l = some p → textS b n (l ++ z) = some p
  | [], b, n, p, h => by cases h
  | [c], b, n, p, h => by
    simp only [textS] at h
    split at h
    · rename_i hc
      cases z with
      | nil => simp only [List.append_nil, textS, if_pos hc]; exact h
      | cons y z => simp only [List.cons_append, List.nil_append, textS, if_pos hc]; exact h
    · cases h
  | c :: e :: r, b, n, p, h => by
    simp only [List.cons_append, textS] at h ⊢
    split at h
    · rename_i hc
      rw [if_pos hc]; exact h
    · rename_i hc
      rw [if_neg hc]
      split at h
      · rename_i hc2
        rw [if_pos hc2]
        split at h
        · rename_i hc3
          rw [if_pos hc3]
          exact textS_app z r _ _ h
        · cases h
      · rename_i hc2
        rw [if_neg hc2]
        exact textS_app z (e :: r) _ _ h
def textT (l : List Int) : api_Token × Int := if (textR (textS [] 1 (l.drop 1))).2.2 = true then (⟨3, (textR (textS [] 1 (l.drop 1))).1, 0, 0⟩, (textR (textS [] 1 (l.drop 1))).2.1) else (T0, 0)
theorem text_eq (hn : s.size ≤ 4096) (h : 1 ≤ s.size) : ref11_text s = some (textR (textS [] 1 ((sbytes s).drop 1))) := by
  unfold ref11_text
  exact text_l0 hn (((s.size : Int) - 1).toNat + 1) 1 [] (by omega) (by omega) (by simp)
/-! numbers -/
theorem number_l1 {y : Int} {x : ByteArray} (hn : x.size ≤ 4096) : ∀ (fuel i : Nat) (n : Int), i ≤ x.size → x.size < i + fuel → ∃ p, ref11_number.l1 y x fuel n (i : Int) = some p
  | 0, i, n, _, h => by omega
  | fuel + 1, i, n, h1, h2 => by
    have hlen := sbytes_len x
    rw [ref11_number.l1]
    by_cases hi : i < x.size
    · obtain ⟨c, hc, _⟩ := getE (l := sbytes x) (i := i) (by omega)
      rw [if_pos (by simp; omega), ixs_of hc, Option.bind_some, w64_nat i (by omega)]
      split
      · exact ⟨_, rfl⟩
      · exact number_l1 hn fuel (i + 1) _ (by omega) (by omega)
    · rw [if_neg (by simp; omega)]
      split <;> exact ⟨_, rfl⟩
theorem number_some (hn : s.size ≤ 4096) (h : 1 ≤ s.size) : ∃ p, ref11_number s = some p := by
  have hlen := sbytes_len s
  unfold ref11_number ref11_number.j0
  obtain ⟨c, hc, _⟩ := getE (l := sbytes s) (i := 0) (by omega)
  rw [show (0 : Int) = ((0 : Nat) : Int) from rfl, ixs_of hc, Option.bind_some]
  split
  · have := cuts_l (s := s) (l := 1) (h := s.size) h (Nat.le_refl _)
    rw [show ((1 : Nat) : Int) = 1 from rfl] at this
    rw [this, Option.bind_some]
    have hb : (bstr (((sbytes s).drop 1).take (s.size - 1))).size ≤ 4096 := by rw [bstr_size, List.length_take]; omega
    exact number_l1 hb _ 0 _ (Nat.zero_le _) (by omega)
  · exact number_l1 hn _ 0 _ (Nat.zero_le _) (by omega)
def numN (l : List Int) : Nat := 1 + ((l.drop 1).takeWhile digS).length
def numD (l : List Int) : List Int := if (l.take (numN l)).getD 0 0 = 45 then (l.take (numN l)).drop 1 else l.take (numN l)
def numBad (l : List Int) : Bool := (decide ((numD l).getD 0 0 = 48) && (decide (1 < (numD l).length) || decide (l.getD 0 0 = 45))) || (decide (19 < (numD l).length) || (match l[numN l]? with | some c => innS c | none => false))
def numS (l : List Int) : api_Token × Int := if numBad l = true then (T0, 0) else match ref11_number (bstr (l.take (numN l))) with
  | some p => if p.2 = true then (⟨2, mtS, p.1, 0⟩, (numN l : Int)) else (T0, 0)
  | none => (T0, 0)
theorem num_j7 {l : List Int} {i : Nat} (hl : l = sbytes s) (hn : s.size ≤ 4096) (h0 : 1 ≤ i) (hi : i ≤ s.size) (b : Bool) : ref11_one.j7 s (i : Int) b = some (if b = true then (T0, 0) else match ref11_number (bstr (l.take i)) with
    | some p => if p.2 = true then (⟨2, mtS, p.1, 0⟩, (i : Int)) else (T0, 0)
    | none => (T0, 0)) := by
  have hlen := sbytes_len s
  unfold ref11_one.j7
  cases b with
  | true => rfl
  | false =>
    rw [if_neg (by decide), if_neg (by decide)]
    have := cuts_l (s := s) (l := 0) (h := i) (by omega) hi
    rw [show ((0 : Nat) : Int) = 0 from rfl, List.drop_zero, Nat.sub_zero, ← hl] at this
    rw [this, Option.bind_some]
    have hsz : (bstr (l.take i)).size = i := by rw [bstr_size, List.length_take, hl]; omega
    obtain ⟨p, hp⟩ := number_some (s := bstr (l.take i)) (by omega) (by omega)
    rw [hp, Option.bind_some]
    dsimp only
    split <;> rfl
theorem num_l3 (hn : s.size ≤ 4096) {c0 : Int} (hc0 : (sbytes s)[0]? = some c0) (hfirst : c0 ≠ 45 ∨ ∃ c1, (sbytes s)[1]? = some c1 ∧ digS c1 = true) : ∀ (fuel i : Nat), 1 ≤ i → i ≤ s.size → s.size < i + fuel → (∀ x ∈ ((sbytes s).drop 1).take (i - 1), digS x = true) → ref11_one.l3 s fuel (i : Int) = some (numS (sbytes s))
  | 0, i, _, _, h, _ => by omega
  | fuel + 1, i, h0, h1, h2, h3 => by
    have hlen := sbytes_len s
    have fin : (∀ c, (sbytes s)[i]? = some c → digS c = false) → ref11_one.j4 (ref11_one.l3 s fuel) s (i : Int) false = some (numS (sbytes s)) := fun h => by
      have e := tw_eq (l := (sbytes s).drop 1) (i := i - 1) h3 (fun c hc => h c (by rw [List.getElem?_drop] at hc; rwa [show 1 + (i - 1) = i by omega] at hc))
      have hN : numN (sbytes s) = i := by
        unfold numN
        rw [e, List.length_take, List.length_drop]; omega
      have hcut := cuts_l (s := s) (l := 0) (h := i) (by omega) h1
      rw [show ((0 : Nat) : Int) = 0 from rfl, List.drop_zero, Nat.sub_zero] at hcut
      have hby : Byts ((sbytes s).take i) := (byts_sbytes s).sub fun x hx => List.mem_of_mem_take hx
      have hsb := sbytes_bstr hby
      have hsz : (bstr ((sbytes s).take i)).size = i := by rw [bstr_size, List.length_take]; omega
      have hg0 : ((sbytes s).take i)[0]? = some c0 := by rw [List.getElem?_take, if_pos (by omega)]; exact hc0
      have hx0 : ixs (bstr ((sbytes s).take i)) 0 = some c0 := ixs_of (i := 0) (by rw [hsb]; exact hg0)
      have hs0 : ixs s 0 = some c0 := ixs_of (i := 0) hc0
      -- the digits
      have five : ∀ D : List Int, D = numD (sbytes s) → (∃ c, D[0]? = some c) → D.length ≤ i → ref11_one.j5 s (i : Int) (bstr D) = some (numS (sbytes s)) := fun D hD hc hDl => by
        obtain ⟨dc, hdc⟩ := hc
        have hbD : Byts D := by
          rw [hD]
          unfold numD
          refine (byts_sbytes s).sub fun x hx => ?_
          split at hx
          · exact List.mem_of_mem_take (List.mem_of_mem_drop hx)
          · exact List.mem_of_mem_take hx
        have hxD : ixs (bstr D) 0 = some dc := ixs_of (i := 0) (by rw [sbytes_bstr hbD]; exact hdc)
        have six : ∀ b : Bool, b = (decide (dc = 48) && (decide (1 < D.length) || decide (c0 = 45))) → ref11_one.j6 s (i : Int) (bstr D) b = some (numS (sbytes s)) := fun b hb => by
          have hbad : numBad (sbytes s) = (b || (decide (19 < D.length) || (match (sbytes s)[i]? with | some c => innS c | none => false))) := by
            unfold numBad
            rw [← hD, hN, hb]
            have e1 : D.getD 0 0 = dc := by rw [List.getD_eq_getElem?_getD, hdc]; rfl
            have e2 : (sbytes s).getD 0 0 = c0 := by rw [List.getD_eq_getElem?_getD, hc0]; rfl
            rw [e1, e2]
          have seven : ∀ b2 : Bool, b2 = numBad (sbytes s) → ref11_one.j7 s (i : Int) b2 = some (numS (sbytes s)) := fun b2 hb2 => by
            rw [num_j7 rfl hn h0 h1]
            unfold numS
            rw [hN, hb2]
          unfold ref11_one.j6
          cases b with
          | true => rw [if_pos rfl]; exact seven true (by rw [hbad]; rfl)
          | false =>
            rw [if_neg (by decide), bstr_size]
            by_cases h19 : 19 < D.length
            · rw [if_pos (by simp; omega)]; exact seven true (by rw [hbad, decide_eq_true h19]; rfl)
            · rw [if_neg (by simp; omega)]
              by_cases hlt : i < s.size
              · obtain ⟨c, hc, _⟩ := getE (l := sbytes s) (i := i) (by omega)
                rw [if_pos (by simp; omega), ixs_of hc, Option.bind_some, inner_eq, Option.bind_some]
                exact seven _ (by rw [hbad, decide_eq_false h19, hc]; rfl)
              · rw [if_neg (by simp; omega)]
                have : (sbytes s)[i]? = none := List.getElem?_eq_none (by omega)
                exact seven _ (by rw [hbad, decide_eq_false h19, this]; rfl)
        unfold ref11_one.j5
        rw [hxD, Option.bind_some, hs0, Option.bind_some, bstr_size]
        by_cases d48 : dc = 48
        · rw [if_pos (by simpa using d48)]
          by_cases hgt : 1 < D.length
          · rw [if_pos (by simp; omega)]; exact six true (by simp [d48, hgt])
          · rw [if_neg (by simp; omega)]; exact six _ (by simp [d48, hgt]; rfl)
        · rw [if_neg (by simpa using d48)]; exact six false (by simp [d48])
      unfold ref11_one.j4
      rw [if_neg (by decide), hcut, Option.bind_some, hx0, Option.bind_some, hsz]
      have hlt : ((sbytes s).take i).length = i := by rw [List.length_take]; omega
      by_cases c45 : c0 = 45
      · rw [if_pos (by simpa using c45)]
        have hcut2 := cuts_l (s := bstr ((sbytes s).take i)) (l := 1) (h := i) h0 (by omega)
        rw [show ((1 : Nat) : Int) = 1 from rfl, hsb, List.take_of_length_le (l := ((sbytes s).take i).drop 1) (by rw [List.length_drop]; omega)] at hcut2
        rw [hcut2, Option.bind_some]
        refine five _ ?_ ?_ (by rw [List.length_drop]; omega)
        · unfold numD
          rw [hN, List.getD_eq_getElem?_getD, hg0, Option.getD_some, if_pos c45]
        · obtain ⟨c1, hc1, hd1⟩ := hfirst.resolve_left (by simpa using c45)
          have hi2 : 2 ≤ i := by
            by_cases h : i = 1
            · subst h
              have := h c1 hc1
              rw [hd1] at this; cases this
            · omega
          refine ⟨c1, ?_⟩
          rw [List.getElem?_drop, List.getElem?_take, if_pos (by omega)]; exact hc1
      · rw [if_neg (by simpa using c45)]
        refine five _ ?_ ⟨c0, hg0⟩ (by omega)
        unfold numD
        rw [hN, List.getD_eq_getElem?_getD, hg0, Option.getD_some, if_neg c45]
    rw [ref11_one.l3]
    by_cases hi : i < s.size
    · obtain ⟨c, hc, _⟩ := getE (l := sbytes s) (i := i) (by omega)
      rw [if_pos (by simp; omega), ixs_of hc, Option.bind_some, digit_eq, Option.bind_some]
      cases hin : digS c with
      | false => exact fin (fun c' hc' => by rw [hc] at hc'; cases hc'; exact hin)
      | true =>
        unfold ref11_one.j4
        rw [if_pos rfl, w64_nat i (by omega)]
        refine num_l3 hn hc0 hfirst fuel (i + 1) (by omega) (by omega) (by omega) fun x hx => ?_
        rw [show i + 1 - 1 = (i - 1) + 1 by omega, List.take_add_one, List.getElem?_drop, show 1 + (i - 1) = i by omega, hc] at hx
        rcases List.mem_append.1 hx with hx | hx
        · exact h3 x hx
        · simp at hx; subst hx; exact hin
    · rw [if_neg (by simp; omega)]
      exact fin (fun c hc => by have := (List.getElem?_eq_some_iff.1 hc).1; omega)
/-! signs -/
def chS : List Int := [124, 44, 40, 41, 58, 61, 60, 62]
def twS (l : List Int) (w : ByteArray) : Bool := decide (2 ≤ l.length) && decide (bstr (l.take 2) = w)
def sgnS (l : List Int) : ByteArray := if twS l (⟨#[33, 61]⟩ : ByteArray) = true then (⟨#[33, 61]⟩ : ByteArray) else if twS l (⟨#[60, 61]⟩ : ByteArray) = true then (⟨#[60, 61]⟩ : ByteArray) else if twS l (⟨#[62, 61]⟩ : ByteArray) = true then (⟨#[62, 61]⟩ : ByteArray)
  else if l.getD 0 0 ∈ chS then bstr (l.take 1) else mtS
theorem sign_l2 (hn : s.size ≤ 4096) {c0 : Int} (hc0 : (sbytes s)[0]? = some c0) : ∀ (fuel i : Nat), i ≤ 8 → 8 < i + fuel → ref11_sign.l2 s fuel (i : Int) = some (if c0 ∈ chS.drop i then bstr ((sbytes s).take 1) else mtS)
  | 0, i, _, h => by omega
  | fuel + 1, i, h1, h2 => by
    have hlen := sbytes_len s
    have hpos := (List.getElem?_eq_some_iff.1 hc0).1
    have hcl : chS.length = 8 := rfl
    have hcs : sbytes (⟨#[124, 44, 40, 41, 58, 61, 60, 62]⟩ : ByteArray) = chS := by decide
    have hsz : ((⟨#[124, 44, 40, 41, 58, 61, 60, 62]⟩ : ByteArray).size : Int) = 8 := rfl
    rw [ref11_sign.l2, hsz]
    by_cases hi : i < 8
    · obtain ⟨w, hw, ew⟩ := getE (l := chS) (i := i) (by omega)
      have hx0 : ixs s 0 = some c0 := ixs_of (i := 0) hc0
      have hxw : ixs (⟨#[124, 44, 40, 41, 58, 61, 60, 62]⟩ : ByteArray) (i : Int) = some w := ixs_of (by rw [hcs]; exact hw)
      rw [if_pos (by simp; omega), hx0, Option.bind_some, hxw, Option.bind_some, w64_nat i (by omega), ew]
      by_cases hcw : c0 = w
      · rw [if_pos (by simpa using hcw), if_pos (by rw [hcw]; simp)]
        have := cuts_l (s := s) (l := 0) (h := 1) (by omega) (by omega)
        rw [show ((0 : Nat) : Int) = 0 from rfl, show ((1 : Nat) : Int) = 1 from rfl] at this
        rw [this]; rfl
      · rw [if_neg (by simpa using hcw), sign_l2 hn hc0 fuel (i + 1) (by omega) (by omega)]
        congr 1
        by_cases hm : c0 ∈ chS.drop (i + 1)
        · rw [if_pos hm, if_pos (List.mem_cons_of_mem _ hm)]
        · rw [if_neg hm, if_neg (by intro h; rcases List.mem_cons.1 h with h | h; exact hcw h; exact hm h)]
    · rw [if_neg (by simp; omega), List.drop_eq_nil_of_le (by omega), if_neg (by simp)]; rfl
theorem sign_eq (hn : s.size ≤ 4096) {c0 : Int} (hc0 : (sbytes s)[0]? = some c0) : ref11_sign s = some (sgnS (sbytes s)) := by
  have hlen := sbytes_len s
  have hpos := (List.getElem?_eq_some_iff.1 hc0).1
  have step : ∀ (f i : Nat) (w : ByteArray) (X : List ByteArray), X[i]? = some w → i < 1000 → ref11_sign.l0 s (f + 1) X (i : Int) = if twS (sbytes s) w = true then some w else ref11_sign.l0 s f X ((i + 1 : Nat) : Int) := fun f i w X hw hi => by
    have hl := (List.getElem?_eq_some_iff.1 hw).1
    rw [ref11_sign.l0, if_pos (by simp; omega)]
    unfold ref11_sign.j1
    by_cases h2 : 2 ≤ s.size
    · have := cuts_l (s := s) (l := 0) (h := 2) (by omega) h2
      rw [show ((0 : Nat) : Int) = 0 from rfl, show ((2 : Nat) : Int) = 2 from rfl, List.drop_zero] at this
      rw [if_pos (by simp; omega), this, Option.bind_some, ix_of hw, Option.bind_some, Option.bind_some, str_eq, w64_nat i (by omega)]
      unfold twS
      rw [decide_eq_true (show 2 ≤ (sbytes s).length by omega), Bool.true_and]
    · rw [if_neg (by simp; omega), w64_nat i (by omega)]
      unfold twS
      rw [decide_eq_false (show ¬ 2 ≤ (sbytes s).length by omega), Bool.false_and]
      simp
  unfold ref11_sign
  rw [show (((3 : Int) - 0).toNat + 1) = 3 + 1 from rfl, show (0 : Int) = ((0 : Nat) : Int) from rfl, step 3 0 (⟨#[33, 61]⟩ : ByteArray) _ rfl (by omega), step 2 1 (⟨#[60, 61]⟩ : ByteArray) _ rfl (by omega), step 1 2 (⟨#[62, 61]⟩ : ByteArray) _ rfl (by omega)]
  unfold sgnS
  split
  · rfl
  · split
    · rfl
    · split
      · rfl
      · rw [ref11_sign.l0, if_neg (by decide)]
        have := sign_l2 hn hc0 ((((⟨#[124, 44, 40, 41, 58, 61, 60, 62]⟩ : ByteArray).size : Int) - 0).toNat + 1) 0 (by omega) (by decide)
        rw [show ((0 : Nat) : Int) = 0 from rfl] at this
        rw [this, List.drop_zero, List.getD_eq_getElem?_getD, hc0]; rfl
/-! one token -/
def oneS (l : List Int) : api_Token × Int := match l with
  | [] => (T0, 0)
  | c :: r => if lettS c = true then wordS (c :: r) else if c = 34 then textT (c :: r) else if digS c = true then numS (c :: r)
    else if c = 45 ∧ (match r with | c1 :: _ => digS c1 | [] => false) = true then numS (c :: r) else (⟨4, sgnS (c :: r), 0, 0⟩, ((sgnS (c :: r)).size : Int))
theorem one_eq (hn : s.size ≤ 4096) (h : 1 ≤ s.size) : ref11_one s = some (oneS (sbytes s)) := by
  have hlen := sbytes_len s
  obtain ⟨c, hc, ec⟩ := getE (l := sbytes s) (i := 0) (by omega)
  rw [List.drop_zero] at ec
  have hx0 : ixs s 0 = some c := ixs_of (i := 0) hc
  unfold ref11_one
  rw [hx0, Option.bind_some, letter_eq, Option.bind_some, Option.bind_some, Option.bind_some, digit_eq, Option.bind_some, Option.bind_some]
  have e1 : oneS (sbytes s) = if lettS c = true then wordS (sbytes s) else if c = 34 then textT (sbytes s) else if digS c = true then numS (sbytes s)
    else if c = 45 ∧ (match (sbytes s).drop (0 + 1) with | c1 :: _ => digS c1 | [] => false) = true then numS (sbytes s) else (⟨4, sgnS (sbytes s), 0, 0⟩, ((sgnS (sbytes s)).size : Int)) := by
    rw [ec]; rfl
  rw [e1]
  by_cases h1 : lettS c = true
  · rw [if_pos h1, if_pos h1]
    exact word_l0 hn _ 0 (Nat.zero_le _) (by omega) (fun x hx => by simp at hx)
  · rw [if_neg h1, if_neg h1]
    by_cases h2 : c = 34
    · rw [if_pos (by simpa using h2), if_pos h2, text_eq hn h, Option.bind_some]
      unfold textT
      split <;> rfl
    · rw [if_neg (by simpa using h2), if_neg h2]
      have sg : ref11_one.j2 s false = some (⟨4, sgnS (sbytes s), 0, 0⟩, ((sgnS (sbytes s)).size : Int)) := by
        unfold ref11_one.j2
        rw [if_neg (by decide), sign_eq hn hc]; rfl
      by_cases h3 : digS c = true
      · rw [if_pos h3, if_pos h3]
        unfold ref11_one.j2
        rw [if_pos rfl]
        exact num_l3 hn hc (Or.inl (by rintro rfl; revert h3; decide)) _ 1 (by omega) h (by omega) (fun x hx => by simp at hx)
      · rw [if_neg h3, if_neg h3]
        by_cases h4 : c = 45
        · rw [if_pos (by simpa using h4)]
          by_cases h5 : 2 ≤ s.size
          · obtain ⟨c1, hc1, ec1⟩ := getE (l := sbytes s) (i := 1) (by omega)
            have hx1 : ixs s 1 = some c1 := ixs_of (i := 1) hc1
            rw [if_pos (by simp; omega), hx1, Option.bind_some, digit_eq, Option.bind_some, show 0 + 1 = 1 from rfl, ec1]
            by_cases h6 : digS c1 = true
            · rw [if_pos ⟨h4, h6⟩, h6]
              unfold ref11_one.j2
              rw [if_pos rfl]
              exact num_l3 hn hc (Or.inr ⟨c1, hc1, h6⟩) _ 1 (by omega) h (by omega) (fun x hx => by simp at hx)
            · rw [if_neg (fun hh => h6 hh.2), Bool.eq_false_iff.2 h6]
              exact sg
          · rw [if_neg (by simp; omega), List.drop_eq_nil_of_le (by omega), if_neg (by rintro ⟨_, hh⟩; cases hh)]
            exact sg
        · rw [if_neg (by simpa using h4), if_neg (fun hh => h4 hh.1)]
          exact sg
end
end Go.Proofs.Ytjklfkiaebipnaa.M
