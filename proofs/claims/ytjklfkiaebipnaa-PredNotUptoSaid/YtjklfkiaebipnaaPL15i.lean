/- The reference's lexer: rows of tokens. -/
import Derived.Test.YtjklfkiaebipnaaPure
import Derived.Test.YtjklfkiaebipnaaPL15h
namespace Go.Proofs.Ytjklfkiaebipnaa.M
open Go Go.Eng Go.Proofs Go.RowKit
set_option maxRecDepth 100000
set_option linter.unusedVariables false
set_option linter.unusedSimpArgs false

theorem tw_nn (p : Int → Bool) (l : List Int) : 0 ≤ ((l.takeWhile p).length : Int) := by omega
def hdD (r : List Int) : Bool := match r with
  | c1 :: _ => digS c1
  | [] => false
theorem one_cons (c : Int) (r : List Int) : oneS (c :: r) = if lettS c = true then wordS (c :: r) else if c = 34 then textT (c :: r) else if digS c = true then numS (c :: r)
    else if c = 45 ∧ hdD r = true then numS (c :: r) else (⟨4, sgnS (c :: r), 0, 0⟩, ((sgnS (c :: r)).size : Int)) := rfl
theorem one_len : ∀ (l : List Int), 0 ≤ (oneS l).2 ∧ (oneS l).2 ≤ (l.length : Int) ∧ (oneS l).1.S.size ≤ 64 := fun l => by
  cases l with
  | nil => exact ⟨by decide, by decide, by decide⟩
  | cons c r =>
    have hw : 0 ≤ (wordS (c :: r)).2 ∧ (wordS (c :: r)).2 ≤ ((c :: r).length : Int) ∧ (wordS (c :: r)).1.S.size ≤ 64 := by
      unfold wordS
      have := tw_len (p := innS) (c :: r)
      split
      · exact ⟨by omega, by omega, by dsimp only; rw [bstr_size]; omega⟩
      · exact ⟨by decide, by dsimp only; omega, by decide⟩
    have ht : 0 ≤ (textT (c :: r)).2 ∧ (textT (c :: r)).2 ≤ ((c :: r).length : Int) ∧ (textT (c :: r)).1.S.size ≤ 64 := by
      unfold textT
      cases h : textS [] 1 ((c :: r).drop 1) with
      | none => exact ⟨by decide, by simp [textR]; omega, by decide⟩
      | some p =>
        have hl := textS_len _ _ _ h
        simp only [List.length_drop, List.length_cons] at hl
        by_cases hc : (textR (some p)).2.2 = true
        · have h64 : (p.1.length : Int) ≤ 64 := of_decide_eq_true hc
          rw [if_pos hc]
          exact ⟨by show 0 ≤ (p.2 : Int); omega, by show (p.2 : Int) ≤ _; simp only [List.length_cons]; omega, by show (bstr p.1).size ≤ 64; rw [bstr_size]; omega⟩
        · rw [if_neg hc]
          exact ⟨by decide, by simp only [List.length_cons]; omega, by decide⟩
    have hnn : 0 ≤ (numS (c :: r)).2 ∧ (numS (c :: r)).2 ≤ ((c :: r).length : Int) ∧ (numS (c :: r)).1.S.size ≤ 64 := by
      have hN : numN (c :: r) ≤ (c :: r).length := by
        unfold numN
        have := tw_len (p := digS) ((c :: r).drop 1)
        simp only [List.length_drop, List.length_cons] at this ⊢
        omega
      have bad : (0 : Int) ≤ (T0, (0 : Int)).2 ∧ (T0, (0 : Int)).2 ≤ ((c :: r).length : Int) ∧ (T0, (0 : Int)).1.S.size ≤ 64 := ⟨by decide, by dsimp only; omega, by decide⟩
      unfold numS
      split
      · exact bad
      · split
        · split
          · exact ⟨by dsimp only; omega, by dsimp only; omega, Nat.zero_le _⟩
          · exact bad
        · exact bad
    have hs : (sgnS (c :: r)).size ≤ (c :: r).length ∧ (sgnS (c :: r)).size ≤ 2 := by
      have h2 : ∀ w, twS (c :: r) w = true → 2 ≤ (c :: r).length := fun w h => by
        unfold twS at h
        rw [Bool.and_eq_true] at h
        exact of_decide_eq_true h.1
      unfold sgnS
      split
      · rename_i h; exact ⟨h2 _ h, by decide⟩
      · split
        · rename_i h; exact ⟨h2 _ h, by decide⟩
        · split
          · rename_i h; exact ⟨h2 _ h, by decide⟩
          · split
            · rw [bstr_size]; simp
            · exact ⟨Nat.zero_le _, by decide⟩
    rw [one_cons]
    by_cases h1 : lettS c = true
    · rw [if_pos h1]; exact hw
    · rw [if_neg h1]
      by_cases h2 : c = 34
      · rw [if_pos h2]; exact ht
      · rw [if_neg h2]
        by_cases h3 : digS c = true
        · rw [if_pos h3]; exact hnn
        · rw [if_neg h3]
          by_cases h4 : c = 45 ∧ hdD r = true
          · rw [if_pos h4]; exact hnn
          · rw [if_neg h4]
            exact ⟨by dsimp only; omega, by dsimp only; omega, by dsimp only; omega⟩
/-- A token does not hang on a closing bracket behind it. -/
theorem one_app (z : List Int) {l : List Int} (h : (oneS l).2 ≠ 0) : oneS (l ++ 41 :: z) = oneS l := by
  cases l with
  | nil => exact absurd rfl h
  | cons c r =>
    have hw : wordS (c :: r ++ 41 :: z) = wordS (c :: r) := by
      unfold wordS
      rw [tw_app (by decide)]
    have ht : (textT (c :: r)).2 ≠ 0 → textT (c :: r ++ 41 :: z) = textT (c :: r) := fun h => by
      unfold textT at h ⊢
      cases hx : textS [] 1 ((c :: r).drop 1) with
      | none => rw [hx] at h; exact absurd rfl h
      | some p =>
        have : textS [] 1 ((c :: r ++ 41 :: z).drop 1) = some p := textS_app (41 :: z) _ _ _ hx
        rw [this]
    have hnn : numS (c :: r ++ 41 :: z) = numS (c :: r) := by
      have hN : numN (c :: r ++ 41 :: z) = numN (c :: r) := by
        unfold numN
        show 1 + ((r ++ 41 :: z).takeWhile digS).length = 1 + (r.takeWhile digS).length
        rw [tw_app (by decide)]
      have hle : numN (c :: r) ≤ (c :: r).length := by
        unfold numN
        have := tw_len (p := digS) ((c :: r).drop 1)
        simp only [List.length_drop, List.length_cons] at this ⊢
        omega
      have ht : (c :: r ++ 41 :: z).take (numN (c :: r)) = (c :: r).take (numN (c :: r)) := List.take_append_of_le_length hle
      have hD : numD (c :: r ++ 41 :: z) = numD (c :: r) := by unfold numD; rw [hN, ht]
      have hB : numBad (c :: r ++ 41 :: z) = numBad (c :: r) := by
        unfold numBad
        rw [hD, hN]
        have e0 : (c :: r ++ 41 :: z).getD 0 0 = (c :: r).getD 0 0 := rfl
        rw [e0]
        congr 2
        rcases Nat.lt_or_ge (numN (c :: r)) (c :: r).length with hlt | hge
        · rw [List.getElem?_append_left hlt]
        · have e1 : (c :: r)[numN (c :: r)]? = none := List.getElem?_eq_none hge
          have e2 : (c :: r ++ 41 :: z)[numN (c :: r)]? = some 41 := by
            rw [List.getElem?_append_right hge, show numN (c :: r) - (c :: r).length = 0 by omega]; rfl
          rw [e1, e2]; decide
      unfold numS
      rw [hB, hN, ht]
    have hs : sgnS (c :: r ++ 41 :: z) = sgnS (c :: r) := by
      have htw : ∀ w : ByteArray, (∀ c : Int, bstr [c, 41] ≠ w) → twS (c :: r ++ 41 :: z) w = twS (c :: r) w := fun w hne => by
        unfold twS
        cases r with
        | nil =>
          rw [decide_eq_false (show ¬ 2 ≤ ([c] : List Int).length by simp), Bool.false_and]
          show (_ && decide (bstr [c, 41] = w)) = false
          rw [decide_eq_false (hne c), Bool.and_false]
        | cons c1 r =>
          have e1 : (c :: c1 :: r ++ 41 :: z).take 2 = (c :: c1 :: r).take 2 := rfl
          rw [e1, decide_eq_true (show 2 ≤ (c :: c1 :: r ++ 41 :: z).length by simp), decide_eq_true (show 2 ≤ (c :: c1 :: r).length by simp)]
      have ne : ∀ (a : UInt8) (c : Int), bstr [c, 41] ≠ (⟨#[a, 61]⟩ : ByteArray) := fun a c h => by
        have h2 := congrArg (fun b : ByteArray => b.data.toList) h
        simp [bstr] at h2
      unfold sgnS
      rw [htw _ (ne 33), htw _ (ne 60), htw _ (ne 62)]
      rfl
    show oneS (c :: (r ++ 41 :: z)) = _
    rw [one_cons] at h
    rw [one_cons, one_cons]
    by_cases h1 : lettS c = true
    · rw [if_pos h1, if_pos h1]; exact hw
    · rw [if_neg h1] at h ⊢
      rw [if_neg h1]
      by_cases h2 : c = 34
      · rw [if_pos h2] at h ⊢
        rw [if_pos h2]; exact ht h
      · rw [if_neg h2] at h ⊢
        rw [if_neg h2]
        by_cases h3 : digS c = true
        · rw [if_pos h3, if_pos h3]; exact hnn
        · rw [if_neg h3] at h ⊢
          rw [if_neg h3]
          cases r with
          | nil =>
            by_cases h4 : c = 45
            · subst h4
              exact absurd (by decide) h
            · rw [if_neg (fun hh => h4 hh.1), if_neg (fun hh => h4 hh.1)]
              rw [show c :: ([] ++ 41 :: z) = c :: [] ++ 41 :: z from rfl, hs]
          | cons c1 r =>
            have e : hdD (c1 :: r ++ 41 :: z) = hdD (c1 :: r) := rfl
            rw [e]
            by_cases h4 : c = 45 ∧ hdD (c1 :: r) = true
            · rw [if_pos h4, if_pos h4]; exact hnn
            · rw [if_neg h4, if_neg h4]
              rw [show c :: (c1 :: r ++ 41 :: z) = c :: c1 :: r ++ 41 :: z from rfl, hs]
/-! rows of tokens, without their places -/
def wsS (c : Int) : Bool := c == 32 || (c == 9 || (c == 10 || c == 13))
def lexE : Nat → List Int → Option TL
  | 0, _ => none
  | f + 1, [] => some []
  | f + 1, c :: r => if wsS c = true then lexE f r else if (oneS (c :: r)).2 = 0 then none else (lexE f ((c :: r).drop (oneS (c :: r)).2.toNat)).map (fun T => er (oneS (c :: r)).1 :: T)
theorem lexE_mono : ∀ (f : Nat) (l : List Int) (T : TL), lexE f l = some T → ∀ g, f ≤ g → lexE g l = some T
  | 0, _, _, h, _, _ => by simp [lexE] at h
  | f + 1, l, T, h, 0, hg => by omega
  | f + 1, [], T, h, g + 1, hg => h
  | f + 1, c :: r, T, h, g + 1, hg => by
    rw [lexE] at h ⊢
    split at h
    · rename_i h1
      rw [if_pos h1]; exact lexE_mono f _ _ h g (by omega)
    · rename_i h1
      rw [if_neg h1]
      split at h
      · cases h
      · rename_i h2
        rw [if_neg h2]
        obtain ⟨T2, h3, rfl⟩ := Option.map_eq_some_iff.1 h
        rw [lexE_mono f _ _ h3 g (by omega)]; rfl
theorem lexE_det {f g : Nat} {l : List Int} {T S : TL} (h1 : lexE f l = some T) (h2 : lexE g l = some S) : T = S := by
  have a := lexE_mono _ _ _ h1 (max f g) (Nat.le_max_left _ _)
  have b := lexE_mono _ _ _ h2 (max f g) (Nat.le_max_right _ _)
  rw [a] at b; exact Option.some.inj b
theorem lexE_app {g : Nat} {z : List Int} {S : TL} (hz : lexE g (41 :: z) = some S) : ∀ (f : Nat) (l : List Int) (T : TL), lexE f l = some T → lexE (f + g) (l ++ 41 :: z) = some (T ++ S)
  | 0, _, _, h => by simp [lexE] at h
  | f + 1, [], T, h => by
    cases h
    exact lexE_mono _ _ _ hz _ (by omega)
  | f + 1, c :: r, T, h => by
    rw [show f + 1 + g = (f + g) + 1 by omega]
    show lexE (f + g + 1) (c :: (r ++ 41 :: z)) = _
    rw [lexE] at h ⊢
    split at h
    · rename_i h1
      rw [if_pos h1]; exact lexE_app hz f _ _ h
    · rename_i h1
      rw [if_neg h1]
      split at h
      · cases h
      · rename_i h2
        have e := one_app z (l := c :: r) h2
        rw [show c :: (r ++ 41 :: z) = c :: r ++ 41 :: z from rfl, e, if_neg h2]
        obtain ⟨T2, h3, rfl⟩ := Option.map_eq_some_iff.1 h
        have hl := one_len (c :: r)
        rw [List.drop_append_of_le_length (by omega), lexE_app hz f _ _ h3]; rfl
theorem lexE_sm : ∀ (f : Nat) (l : List Int) (T : TL), lexE f l = some T → smT 64 T
  | 0, _, _, h => by simp [lexE] at h
  | f + 1, [], T, h => by cases h; exact fun t ht => by cases ht
  | f + 1, c :: r, T, h => by
    rw [lexE] at h
    split at h
    · exact lexE_sm f _ _ h
    · split at h
      · cases h
      · obtain ⟨T2, h3, rfl⟩ := Option.map_eq_some_iff.1 h
        intro t ht
        rcases List.mem_cons.1 ht with rfl | ht
        · exact (one_len (c :: r)).2.2
        · exact lexE_sm f _ _ h3 t ht
theorem lex_l0 {s : ByteArray} (hn : s.size ≤ 2048) : ∀ (fuel i : Nat) (acc : TL), i ≤ s.size → s.size < i + fuel → acc.length ≤ i → ∃ T x e, ref11_Lex.l0 s fuel acc (i : Int) = some (T, x, e) ∧ (e = 0 → ∃ f T', lexE f ((sbytes s).drop i) = some T' ∧ T.map er = acc.map er ++ T')
  | 0, i, acc, _, h, _ => by omega
  | fuel + 1, i, acc, h1, h2, h3 => by
    have hlen := sbytes_len s
    rw [ref11_Lex.l0]
    by_cases hi : i < s.size
    · obtain ⟨c, hc, ec⟩ := getE (l := sbytes s) (i := i) (by omega)
      have hx := ixs_of hc
      have ws : wsS c = true → ∃ T x e, ref11_Lex.j2 (ref11_Lex.l0 s fuel) s acc (i : Int) true = some (T, x, e) ∧ (e = 0 → ∃ f T', lexE f ((sbytes s).drop i) = some T' ∧ T.map er = acc.map er ++ T') := fun hw => by
        unfold ref11_Lex.j2 ref11_Lex.j1
        rw [if_pos rfl, w64_nat i (by omega)]
        obtain ⟨T, x, e, e1, e2⟩ := lex_l0 hn fuel (i + 1) acc (by omega) (by omega) (by omega)
        refine ⟨T, x, e, e1, fun he => ?_⟩
        obtain ⟨f, T', e3, e4⟩ := e2 he
        refine ⟨f + 1, T', ?_, e4⟩
        rw [ec, lexE, if_pos hw]; exact e3
      have tok : wsS c = false → ∃ T x e, ref11_Lex.j2 (ref11_Lex.l0 s fuel) s acc (i : Int) false = some (T, x, e) ∧ (e = 0 → ∃ f T', lexE f ((sbytes s).drop i) = some T' ∧ T.map er = acc.map er ++ T') := fun hw => by
        unfold ref11_Lex.j2 ref11_Lex.j1
        rw [if_neg (by decide)]
        have hcut := cuts_l (s := s) (l := i) (h := s.size) h1 (Nat.le_refl _)
        rw [List.take_of_length_le (by rw [List.length_drop]; omega)] at hcut
        have hby : Byts ((sbytes s).drop i) := (byts_sbytes s).sub fun x hx => List.mem_of_mem_drop hx
        have hsz : (bstr ((sbytes s).drop i)).size = s.size - i := by rw [bstr_size, List.length_drop]; omega
        rw [hcut, Option.bind_some, one_eq (by omega) (by omega), Option.bind_some, sbytes_bstr hby]
        have hl := one_len ((sbytes s).drop i)
        rw [List.length_drop] at hl
        by_cases hz : (oneS ((sbytes s).drop i)).2 = 0
        · rw [if_pos (by simpa using hz)]
          exact ⟨_, _, _, rfl, fun h => by cases h⟩
        · rw [if_neg (by simpa using hz), apd_of (by simp only [List.length_singleton]; omega), Option.bind_some]
          have en : IntKind.i64.wrap ((i : Int) + (oneS ((sbytes s).drop i)).2) = ((i + (oneS ((sbytes s).drop i)).2.toNat : Nat) : Int) := by rw [w64 (by omega) (by omega)]; omega
          rw [en]
          obtain ⟨T, x, e, e1, e2⟩ := lex_l0 hn fuel (i + (oneS ((sbytes s).drop i)).2.toNat) (acc ++ [(⟨(oneS ((sbytes s).drop i)).1.Kind, (oneS ((sbytes s).drop i)).1.S, (oneS ((sbytes s).drop i)).1.N, (i : Int)⟩ : api_Token)]) (by omega) (by omega) (by simp only [List.length_append, List.length_singleton]; omega)
          refine ⟨T, x, e, e1, fun he => ?_⟩
          obtain ⟨f, T', e3, e4⟩ := e2 he
          refine ⟨f + 1, er (oneS ((sbytes s).drop i)).1 :: T', ?_, ?_⟩
          · rw [ec] at hz ⊢
            rw [lexE, if_neg (by rw [hw]; decide), if_neg hz]
            rw [← ec, List.drop_drop, e3]; rfl
          · rw [e4, List.map_append, List.append_assoc]; rfl
      rw [if_pos (by simp; omega), hx, Option.bind_some, Option.bind_some, Option.bind_some, Option.bind_some]
      by_cases w1 : c = 32
      · rw [if_pos (by simpa using w1)]; exact ws (by simp [wsS, w1])
      · rw [if_neg (by simpa using w1)]
        by_cases w2 : c = 9
        · rw [if_pos (by simpa using w2)]; exact ws (by simp [wsS, w2])
        · rw [if_neg (by simpa using w2)]
          by_cases w3 : c = 10
          · rw [if_pos (by simpa using w3)]; exact ws (by simp [wsS, w3])
          · rw [if_neg (by simpa using w3)]
            by_cases w4 : c = 13
            · rw [show (c == 13) = true by simpa using w4]; exact ws (by simp [wsS, w4])
            · rw [show (c == 13) = false by simpa using w4]; exact tok (by simp [wsS, w1, w2, w3, w4])
    · rw [if_neg (by simp; omega)]
      refine ⟨acc, 0, 0, rfl, fun _ => ⟨1, [], ?_, by simp⟩⟩
      rw [List.drop_eq_nil_of_le (by omega)]; rfl
/-- What the reference makes of a text. -/
theorem lex_ans (s : ByteArray) : ∃ T x e, ref11_Lex s = some (T, x, e) ∧ (e = 0 → ∃ f, lexE f (sbytes s) = some (T.map er)) := by
  unfold ref11_Lex
  by_cases h : (s.size : Int) > 2048
  · rw [if_pos (by simpa using h)]
    exact ⟨_, _, _, rfl, fun h => by cases h⟩
  · rw [if_neg (by simpa using h)]
    obtain ⟨T, x, e, e1, e2⟩ := lex_l0 (s := s) (by omega) (((s.size : Int) - 0).toNat + 1) 0 [] (Nat.zero_le _) (by omega) (by simp)
    refine ⟨T, x, e, e1, fun he => ?_⟩
    obtain ⟨f, T', e3, e4⟩ := e2 he
    rw [List.drop_zero] at e3
    rw [List.map_nil, List.nil_append] at e4
    exact ⟨f, by rw [e4]; exact e3⟩
/-- What the reference makes of a text that is a condition. -/
def IsC (s : ByteArray) (c : Cn) : Prop := ∃ f g T, lexE f (sbytes s) = some T ∧ P g .c 0 T = some (c, [])
theorem both_ans (s : ByteArray) : ∃ T x e q y e2, ref11_Lex s = some (T, x, e) ∧ ref12_Cond T = some (q, y, e2) ∧ (e = 0 → e2 = 0 → ∃ c, IsC s c ∧ q = ⟨c.fl 0⟩ ∧ c.sz ≤ 128 ∧ c.sm 64) := by
  obtain ⟨T, x, e, h1, h2⟩ := lex_ans s
  obtain ⟨q, y, e2, h3, h4⟩ := cond_ans T
  refine ⟨T, x, e, q, y, e2, h1, h3, fun he he2 => ?_⟩
  obtain ⟨f, h5⟩ := h2 he
  obtain ⟨g, c, h6, h7, h8⟩ := h4 he2
  have h9 : P g .c 0 (T.map er) = some (c, []) := by rw [P_er, h6]; rfl
  exact ⟨c, ⟨f, g, _, h5, h9⟩, h7, h8, (P_sm g .c 0 _ _ h9 (lexE_sm _ _ _ h5) trivial).1⟩
theorem isC_det {s : ByteArray} {c d : Cn} (h1 : IsC s c) (h2 : IsC s d) : c = d := by
  obtain ⟨f, g, T, a1, a2⟩ := h1
  obtain ⟨f', g', T', b1, b2⟩ := h2
  have := lexE_det a1 b1
  subst this
  have := D_of a2 (Nat.le_refl 0) g' _ b2
  cases this; rfl
end Go.Proofs.Ytjklfkiaebipnaa.M
