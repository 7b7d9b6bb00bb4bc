/- The reference's reading of conditions, as a plain function on tokens, and that the code answers so. -/
import Derived.Test.YtjklfkiaebipnaaPure
import Derived.Test.YtjklfkiaebipnaaPL15d
namespace Go.Proofs.Ytjklfkiaebipnaa.M
open Go Go.Eng Go.Proofs Go.RowKit
set_option maxRecDepth 100000
set_option linter.unusedVariables false
set_option linter.unusedSimpArgs false

abbrev TL := List api_Token
def isT (ts : TL) (s : ByteArray) : Bool := match ts with
  | t :: _ => decide (t.Kind = 1 ∨ t.Kind = 4) && decide (t.S = s)
  | [] => false
def wNot : ByteArray := ⟨#[110, 111, 116]⟩
def wOpen : ByteArray := ⟨#[40]⟩
def wClose : ByteArray := ⟨#[41]⟩
def wHas : ByteArray := ⟨#[104, 97, 115]⟩
def wTrue : ByteArray := ⟨#[116, 114, 117, 101]⟩
def wFalse : ByteArray := ⟨#[102, 97, 108, 115, 101]⟩
def wAnd : ByteArray := ⟨#[97, 110, 100]⟩
def wOr : ByteArray := ⟨#[111, 114]⟩
def sgs : List ByteArray := [(⟨#[]⟩ : ByteArray), (⟨#[61]⟩ : ByteArray), (⟨#[33, 61]⟩ : ByteArray), (⟨#[60]⟩ : ByteArray), (⟨#[60, 61]⟩ : ByteArray), (⟨#[62]⟩ : ByteArray), (⟨#[62, 61]⟩ : ByteArray)]
def opF (ts : TL) : Nat → Nat → Nat
  | 0, _ => 0
  | n + 1, k => if isT ts (sgs.getD k ⟨#[]⟩) = true then k else opF ts n (k + 1)
def opS (ts : TL) : Nat := opF ts 6 1
def valS (ts : TL) : Option (api_Value × TL) :=
  if isT ts wTrue = true then some (⟨3, 1, (⟨#[]⟩ : ByteArray), (⟨0, 0, 0, 0, 0, 0, 0, 0⟩ : Arr8)⟩, ts.tail)
  else if isT ts wFalse = true then some (⟨3, 0, (⟨#[]⟩ : ByteArray), (⟨0, 0, 0, 0, 0, 0, 0, 0⟩ : Arr8)⟩, ts.tail)
  else match ts with
    | t :: r => if t.Kind = 2 then some (⟨1, t.N, (⟨#[]⟩ : ByteArray), (⟨0, 0, 0, 0, 0, 0, 0, 0⟩ : Arr8)⟩, r) else if t.Kind = 3 then some (vS t.S, r) else none
    | [] => none
def leafS (ts : TL) : Option (Cn × TL) := match ts with
  | t :: r => if t.Kind = 1 then (if isT r wHas = true then (match r.tail with | u :: r2 => if u.Kind = 3 then some (.has t.S u.S, r2) else none | [] => none)
      else if opS r = 0 then none else (valS r.tail).bind fun p => some (.cmp t.S (opS r : Int) p.1, p.2)) else none
  | [] => none
inductive Lev
  | n
  | b
  | c
  | bl (x : Cn)
  | cl (x : Cn)
def P : Nat → Lev → Nat → TL → Option (Cn × TL)
  | 0, _, _, _ => none
  | f + 1, .c, d, ts => (P f .b d ts).bind fun p => P f (.cl p.1) d p.2
  | f + 1, .cl x, d, ts => if isT ts wOr = true then (P f .b d ts.tail).bind fun p => P f (.cl (.or x p.1)) d p.2 else some (x, ts)
  | f + 1, .b, d, ts => (P f .n d ts).bind fun p => P f (.bl p.1) d p.2
  | f + 1, .bl x, d, ts => if isT ts wAnd = true then (P f .n d ts.tail).bind fun p => P f (.bl (.and x p.1)) d p.2 else some (x, ts)
  | f + 1, .n, d, ts => if isT ts wNot = true then (if 16 ≤ d then none else (P f .n (d + 1) ts.tail).bind fun p => some (.not p.1, p.2))
      else if isT ts wOpen = true then (if 16 ≤ d then none else (P f .c (d + 1) ts.tail).bind fun p => if isT p.2 wClose = true then some (p.1, p.2.tail) else none)
      else leafS ts
theorem P_mono : ∀ (f : Nat) (lev : Lev) (d : Nat) (ts : TL) (x : Cn × TL), P f lev d ts = some x → ∀ g, f ≤ g → P g lev d ts = some x
  | 0, _, _, _, _, h, _, _ => by simp [P] at h
  | f + 1, lev, d, ts, x, h, 0, hg => by omega
  | f + 1, lev, d, ts, x, h, g + 1, hg => by
    have ih := fun lev d ts x h => P_mono f lev d ts x h g (by omega)
    cases lev with
    | c =>
      rw [P] at h ⊢
      obtain ⟨p, h1, h2⟩ := Option.bind_eq_some_iff.1 h
      rw [ih _ _ _ _ h1, Option.bind_some]; exact ih _ _ _ _ h2
    | cl y =>
      rw [P] at h ⊢
      split at h
      · rename_i hc
        rw [if_pos hc]
        obtain ⟨p, h1, h2⟩ := Option.bind_eq_some_iff.1 h
        rw [ih _ _ _ _ h1, Option.bind_some]; exact ih _ _ _ _ h2
      · rename_i hc
        rw [if_neg hc]; exact h
    | b =>
      rw [P] at h ⊢
      obtain ⟨p, h1, h2⟩ := Option.bind_eq_some_iff.1 h
      rw [ih _ _ _ _ h1, Option.bind_some]; exact ih _ _ _ _ h2
    | bl y =>
      rw [P] at h ⊢
      split at h
      · rename_i hc
        rw [if_pos hc]
        obtain ⟨p, h1, h2⟩ := Option.bind_eq_some_iff.1 h
        rw [ih _ _ _ _ h1, Option.bind_some]; exact ih _ _ _ _ h2
      · rename_i hc
        rw [if_neg hc]; exact h
    | n =>
      rw [P] at h ⊢
      split at h
      · rename_i hc
        rw [if_pos hc]
        split at h
        · cases h
        · rename_i hd
          rw [if_neg hd]
          obtain ⟨p, h1, h2⟩ := Option.bind_eq_some_iff.1 h
          rw [ih _ _ _ _ h1, Option.bind_some]; exact h2
      · rename_i hc
        rw [if_neg hc]
        split at h
        · rename_i hc2
          rw [if_pos hc2]
          split at h
          · cases h
          · rename_i hd
            rw [if_neg hd]
            obtain ⟨p, h1, h2⟩ := Option.bind_eq_some_iff.1 h
            rw [ih _ _ _ _ h1, Option.bind_some]; exact h2
        · rename_i hc2
          rw [if_neg hc2]; exact h
/-! the reader -/
abbrev Rdr := catchmentref12_reader
def rd (L : TL) (a : Nat) (Q : List api_Node) (d : Nat) : Rdr := ⟨L, (a : Int), Q, 0, (d : Int)⟩
section
variable {L : TL} {a d : Nat} {Q : List api_Node} {s : ByteArray}
theorem drop_cons {ts : TL} {a : Nat} {t : api_Token} (h : ts[a]? = some t) : ts.drop a = t :: ts.drop (a + 1) := by
  obtain ⟨hl, e⟩ := List.getElem?_eq_some_iff.1 h
  rw [List.drop_eq_getElem_cons hl, e]
theorem is_ok : ref12_reader_is (rd L a Q d) s = some (isT (L.drop a) s) := by
  unfold ref12_reader_is rd
  dsimp only
  rw [if_pos (by decide)]
  by_cases h : a < L.length
  · obtain ⟨t, ht, e⟩ := getE h
    rw [if_pos (by simp; omega), ix_of ht, e]
    simp only [Option.bind_some, str_eq]
    unfold isT
    by_cases k1 : t.Kind = 1
    · rw [if_pos (by simpa using k1)]; simp [k1]
    · rw [if_neg (by simpa using k1)]
      by_cases k4 : t.Kind = 4
      · rw [if_pos (by simpa using k4)]; simp [k4]
      · rw [if_neg (by simpa using k4)]; simp [k1, k4]
  · rw [if_neg (by simp; omega), List.drop_eq_nil_of_le (by omega)]; rfl
theorem sees_f (h : isT (L.drop a) s = false) : ref12_reader_sees (rd L a Q d) s = some (false, rd L a Q d) := by
  unfold ref12_reader_sees
  rw [is_ok, Option.bind_some, h]; rfl
theorem isT_lt (h : isT (L.drop a) s = true) : a < L.length := by
  by_cases hl : a < L.length
  · exact hl
  · rw [List.drop_eq_nil_of_le (by omega)] at h; cases h
theorem sees_t (hL : L.length ≤ 1024) (h : isT (L.drop a) s = true) : ref12_reader_sees (rd L a Q d) s = some (true, rd L (a + 1) Q d) := by
  have := isT_lt h
  unfold ref12_reader_sees
  rw [is_ok, Option.bind_some, h, if_neg (by decide)]
  unfold rd
  dsimp only
  rw [w64_nat a (by omega)]
theorem tail_drop (L : TL) (a : Nat) : (L.drop a).tail = L.drop (a + 1) := by rw [List.tail_drop]
def bad (r : Rdr) : Prop := r.E ≠ 0
theorem is_bad {r : Rdr} (h : bad r) : ref12_reader_is r s = some false := by
  unfold ref12_reader_is; rw [if_neg (by have h' : r.E ≠ 0 := h; simpa using h')]
theorem sees_bad {r : Rdr} (h : bad r) : ref12_reader_sees r s = some (false, r) := by
  unfold ref12_reader_sees; rw [is_bad h]; rfl
theorem fail_bad {r : Rdr} (h : bad r) : ref12_reader_fail r = some r := by
  unfold ref12_reader_fail; rw [if_neg (by have h' : r.E ≠ 0 := h; simpa using h')]
theorem fail_ok : ∃ r, ref12_reader_fail (rd L a Q d) = some r ∧ bad r ∧ r.L = L := by
  unfold ref12_reader_fail rd; exact ⟨_, if_pos rfl, (show (120 : Int) ≠ 0 by decide), rfl⟩
theorem wants_bad {r : Rdr} (h : bad r) : ref12_reader_wants r s = some r := by
  unfold ref12_reader_wants; rw [sees_bad h, Option.bind_some, if_pos (show (!(false, r).1) = true from rfl)]
  show ((ref12_reader_fail r).bind _) = _
  rw [fail_bad h]; rfl
theorem wants_t (hL : L.length ≤ 1024) (h : isT (L.drop a) s = true) : ref12_reader_wants (rd L a Q d) s = some (rd L (a + 1) Q d) := by
  unfold ref12_reader_wants; rw [sees_t hL h]; rfl
theorem wants_f (h : isT (L.drop a) s = false) : ∃ r, ref12_reader_wants (rd L a Q d) s = some r ∧ bad r ∧ r.L = L := by
  unfold ref12_reader_wants; rw [sees_f h, Option.bind_some, if_pos (show (!(false, rd L a Q d).1) = true from rfl)]
  obtain ⟨r, h1, h2, h3⟩ := fail_ok (L := L) (a := a) (Q := Q) (d := d)
  refine ⟨r, ?_, h2, h3⟩
  show ((ref12_reader_fail (rd L a Q d)).bind _) = _
  rw [h1]; rfl
theorem lay_bad {r : Rdr} {n : api_Node} (h : bad r) : ∃ i, ref12_reader_lay r n = some (i, r) := by
  unfold ref12_reader_lay; rw [if_neg (by have h' : r.E ≠ 0 := h; simpa using h')]; exact ⟨_, rfl⟩
theorem lay_ok {n : api_Node} (hQ : Q.length ≤ 2000) : ref12_reader_lay (rd L a Q d) n = some ((Q.length : Int), rd L a (Q ++ [n]) d) := by
  unfold ref12_reader_lay rd
  dsimp only
  rw [if_pos (show ((0 : Int) == 0) = true from rfl), apd_of (by simp only [List.length_singleton]; omega), Option.bind_some]
  have : (((Q ++ [n]).length : Nat) : Int) - 1 = (Q.length : Int) := by simp
  rw [this, w64 (by omega) (by omega)]
theorem kind_bad {r : Rdr} {k : Int} (h : bad r) : ∃ t, ref12_reader_kind r k = some (t, r) := by
  unfold ref12_reader_kind ref12_reader_kind.j0; rw [if_pos (by have h' : r.E ≠ 0 := h; simpa using h'), if_pos rfl, fail_bad h]; exact ⟨_, rfl⟩
theorem kind_t {t : api_Token} {k : Int} (hL : L.length ≤ 1024) (h : L[a]? = some t) (hk : t.Kind = k) : ref12_reader_kind (rd L a Q d) k = some (t, rd L (a + 1) Q d) := by
  have hl := (List.getElem?_eq_some_iff.1 h).1
  unfold ref12_reader_kind ref12_reader_kind.j0 rd
  dsimp only
  rw [if_neg (by decide), if_neg (by simp; omega), ix_of h, Option.bind_some, if_neg (by simpa using hk), w64_nat a (by omega)]
  have : ((a + 1 : Nat) : Int) - 1 = (a : Int) := by omega
  rw [this, w64 (by omega) (by omega), ix_of h]; rfl
theorem kind_f {k : Int} (h : ∀ t, L[a]? = some t → t.Kind ≠ k) : ∃ t r, ref12_reader_kind (rd L a Q d) k = some (t, r) ∧ bad r ∧ r.L = L := by
  obtain ⟨r, h1, h2, h3⟩ := fail_ok (L := L) (a := a) (Q := Q) (d := d)
  have e : ref12_reader_kind.j0 (rd L a Q d) true = some ((⟨0, (⟨#[]⟩ : ByteArray), 0, 0⟩ : api_Token), r) := by
    unfold ref12_reader_kind.j0; rw [if_pos rfl, h1]; rfl
  refine ⟨(⟨0, (⟨#[]⟩ : ByteArray), 0, 0⟩ : api_Token), r, ?_, h2, h3⟩
  unfold ref12_reader_kind
  rw [if_neg (show ¬ ((rd L a Q d).E != 0) = true from (show ¬ ((0 : Int) != 0) = true by decide))]
  by_cases hl : a < L.length
  · obtain ⟨t, ht, _⟩ := getE hl
    rw [if_neg (by simp [rd]; omega)]
    show ((ix L (a : Int)).bind _) = _
    rw [ix_of ht, Option.bind_some]
    have := h t ht
    rw [show (t.Kind != k) = true by simpa using this]
    exact e
  · rw [if_pos (by simp [rd]; omega)]; exact e
theorem deeper_ok (hd : d < 16) : ref12_reader_deeper (rd L a Q d) = some (rd L a Q (d + 1)) := by
  unfold ref12_reader_deeper ref12_reader_deeper.j0 rd
  dsimp only
  rw [if_pos (show ((0 : Int) == 0) = true from rfl), if_neg (by simp; omega), w64_nat d (by omega)]
theorem deeper_bad (hd : 16 ≤ d) : ∃ r, ref12_reader_deeper (rd L a Q d) = some r ∧ bad r ∧ r.L = L := by
  unfold ref12_reader_deeper ref12_reader_deeper.j0 rd
  dsimp only
  refine ⟨_, (if_pos (show ((0 : Int) == 0) = true from rfl)).trans (if_pos (by simp; omega)), (show (2 : Int) ≠ 0 by decide), rfl⟩
theorem value_ok (hL : L.length ≤ 1024) : ∃ v r, ref12_reader_value (rd L a Q d) = some (v, r) ∧ r.L = L ∧ (bad r ∨ ∃ a', valS (L.drop a) = some (v, L.drop a') ∧ a < a' ∧ a' ≤ L.length ∧ r = rd L a' Q d) := by
  unfold ref12_reader_value
  by_cases h1 : isT (L.drop a) wTrue = true
  · have := isT_lt h1
    have hs := sees_t (Q := Q) (d := d) hL h1
    unfold wTrue at hs
    rw [hs, Option.bind_some, if_pos rfl]
    refine ⟨_, _, rfl, rfl, Or.inr ⟨a + 1, ?_, by omega, by omega, rfl⟩⟩
    unfold valS
    rw [if_pos h1, tail_drop]
  · have h1' := Bool.eq_false_iff.2 h1
    have hs := sees_f (Q := Q) (d := d) h1'
    unfold wTrue at hs
    rw [hs, Option.bind_some]
    dsimp only
    rw [if_neg (show ¬ (false = true) by decide)]
    by_cases h2 : isT (L.drop a) wFalse = true
    · have := isT_lt h2
      have hs := sees_t (Q := Q) (d := d) hL h2
      unfold wFalse at hs
      rw [hs, Option.bind_some, if_pos rfl]
      refine ⟨_, _, rfl, rfl, Or.inr ⟨a + 1, ?_, by omega, by omega, rfl⟩⟩
      unfold valS
      rw [if_neg h1, if_pos h2, tail_drop]
    · have h2' := Bool.eq_false_iff.2 h2
      have hs := sees_f (Q := Q) (d := d) h2'
      unfold wFalse at hs
      rw [hs, Option.bind_some]
      dsimp only
      rw [if_neg (show ¬ (false = true) by decide)]
      have fin : ∀ b : Bool, (b = true ↔ ∃ t, L[a]? = some t ∧ t.Kind = 2) → ∃ v r, ref12_reader_value.j0 (false, rd L a Q d) b = some (v, r) ∧ r.L = L ∧ (bad r ∨ ∃ a', valS (L.drop a) = some (v, L.drop a') ∧ a < a' ∧ a' ≤ L.length ∧ r = rd L a' Q d) := fun b hb => by
        unfold ref12_reader_value.j0
        dsimp only
        by_cases hbt : b = true
        · obtain ⟨t, ht, hk⟩ := hb.1 hbt
          have hl := (List.getElem?_eq_some_iff.1 ht).1
          rw [if_pos hbt, kind_t hL ht hk, Option.bind_some]
          refine ⟨_, _, rfl, rfl, Or.inr ⟨a + 1, ?_, by omega, by omega, rfl⟩⟩
          unfold valS
          rw [if_neg h1, if_neg h2, drop_cons ht]
          simp [hk]
        · rw [if_neg hbt]
          by_cases h3 : ∃ t, L[a]? = some t ∧ t.Kind = 3
          · obtain ⟨t, ht, hk⟩ := h3
            have hl := (List.getElem?_eq_some_iff.1 ht).1
            rw [kind_t hL ht hk, Option.bind_some]
            refine ⟨_, _, rfl, rfl, Or.inr ⟨a + 1, ?_, by omega, by omega, rfl⟩⟩
            unfold valS
            rw [if_neg h1, if_neg h2, drop_cons ht]
            simp [hk, vS]
          · obtain ⟨t, r, e1, e2, e3⟩ := kind_f (L := L) (a := a) (Q := Q) (d := d) (k := 3) (fun t ht hk => h3 ⟨t, ht, hk⟩)
            rw [e1, Option.bind_some]
            exact ⟨_, _, rfl, e3, Or.inl e2⟩
      by_cases hl : a < L.length
      · obtain ⟨t, ht, _⟩ := getE hl
        rw [if_pos (by simp [rd]; omega)]
        show ∃ v r, ((ix L (a : Int)).bind _) = _ ∧ _
        rw [ix_of ht, Option.bind_some]
        refine fin _ ?_
        constructor
        · intro h; exact ⟨t, ht, by simpa using h⟩
        · rintro ⟨t', ht', hk⟩; rw [ht] at ht'; cases ht'; simpa using hk
      · rw [if_neg (by simp [rd]; omega)]
        refine fin false ?_
        constructor
        · intro h; cases h
        · rintro ⟨t, ht, _⟩; exact absurd (List.getElem?_eq_some_iff.1 ht).1 hl
/-- What the code answers of a state: the tree that P tells, its nodes laid behind; or an error. -/
def Good (L : TL) (lev : Lev) (d : Nat) (Q : List api_Node) (a0 : Nat) (a : Nat) (i : Int) (r : Rdr) : Prop := ∃ f c a', P f lev d (L.drop a) = some (c, L.drop a') ∧ a ≤ a' ∧ a' ≤ L.length ∧ r = rd L a' (Q ++ c.fl Q.length) d ∧ i = ((Q.length + c.sz : Nat) : Int) - 1 ∧ a0 + c.sz ≤ a'
def Ans (L : TL) (lev : Lev) (d : Nat) (Q : List api_Node) (a0 a : Nat) (x : Option (Int × Rdr)) : Prop := ∃ i r, x = some (i, r) ∧ r.L = L ∧ (bad r ∨ Good L lev d Q a0 a i r)
/-- What reads conditions in brackets. -/
def KrOkC (L : TL) (kr : Rdr → Option (Int × Rdr)) (k : Nat) : Prop := (∀ r, bad r → r.L = L → 1 ≤ k → kr r = some (0, r)) ∧ ∀ a Q d, L.length < a + k → Q.length ≤ a → a ≤ L.length → d ≤ 16 → Ans L .c d Q a a (kr (rd L a Q d))
theorem cmp_l0 {a1 : Nat} {t : api_Token} {p : api_Token × Rdr} (hp : p.1 = t) (hL : L.length ≤ 1024) (hQ : Q.length ≤ 2000) (hop : opS (L.drop a1) = 0 ∨ 1 ≤ opS (L.drop a1)) : ∀ (fuel k : Nat), 1 ≤ k → k ≤ 7 → 7 < k + fuel → opS (L.drop a1) = opF (L.drop a1) (7 - k) k →
    ∃ i r, ref12_reader_not.l0 p fuel L (a1 : Int) Q 0 (d : Int) 0 sgs (k : Int) = some (i, r) ∧ r.L = L ∧ (bad r ∨ (opS (L.drop a1) ≠ 0 ∧ ∃ v a', valS (L.drop (a1 + 1)) = some (v, L.drop a') ∧ a1 + 1 < a' ∧ a' ≤ L.length ∧ r = rd L a' (Q ++ [nCmp t.S (opS (L.drop a1)) v]) d ∧ i = (Q.length : Int)))
  | 0, k, _, _, h, _ => by omega
  | fuel + 1, k, h1, h2, h3, h4 => by
    rw [ref12_reader_not.l0]
    by_cases hk : k < 7
    · rw [if_pos (by simp; omega), show ((0 : Int) == 0) = true from rfl]
      unfold ref12_reader_not.j1
      have hsl : sgs.length = 7 := rfl
      obtain ⟨w, hw, _⟩ := getE (l := sgs) (i := k) (by omega)
      have hwd : sgs.getD k ⟨#[]⟩ = w := by rw [List.getD_eq_getElem?_getD, hw]; rfl
      rw [if_pos rfl, ix_of hw, Option.bind_some]
      rw [show 7 - k = (7 - (k + 1)) + 1 by omega, opF, hwd] at h4
      by_cases hs : isT (L.drop a1) w = true
      · rw [if_pos hs] at h4
        have hlt := isT_lt hs
        have e := sees_t (Q := Q) (d := d) hL hs
        unfold rd at e
        rw [e, Option.bind_some, if_pos (show (true = true) from rfl)]
        unfold ref12_reader_not.j2
        dsimp only
        rw [w64_nat k (by omega)]
        -- no more signs are looked for
        have stop : ∀ g q : Nat, 0 < g → ref12_reader_not.l0 p g L ((a1 + 1 : Nat) : Int) Q 0 (d : Int) (k : Int) sgs (q : Int) = ref12_reader_not.j1 (ref12_reader_not.l0 p (g - 1)) p L ((a1 + 1 : Nat) : Int) Q 0 (d : Int) (k : Int) sgs (q : Int) false := fun g q hg => by
          obtain ⟨g', rfl⟩ : ∃ g', g = g' + 1 := ⟨g - 1, by omega⟩
          rw [ref12_reader_not.l0]
          by_cases hq : q < 7
          · rw [if_pos (by simp; omega), show ((k : Int) == 0) = false by simp; omega]; rfl
          · rw [if_neg (by simp; omega)]; rfl
        rw [stop fuel (k + 1) (by omega)]
        unfold ref12_reader_not.j1
        rw [if_neg (by decide), if_neg (by simp; omega)]
        obtain ⟨v, r, v1, v2, v3⟩ := value_ok (L := L) (a := a1 + 1) (Q := Q) (d := d) hL
        unfold rd at v1
        rw [v1, Option.bind_some]
        dsimp only
        rcases v3 with hb | ⟨a', w1, w2, w3, rfl⟩
        · obtain ⟨i, e⟩ := lay_bad (n := (⟨14, p.1.S, (k : Int), 0, 0, v, [], [], []⟩ : api_Node)) hb
          rw [e, Option.bind_some]
          exact ⟨_, _, rfl, v2, Or.inl hb⟩
        · rw [lay_ok hQ, Option.bind_some]
          refine ⟨_, _, rfl, rfl, Or.inr ⟨by omega, v, a', w1, w2, w3, ?_, rfl⟩⟩
          dsimp only
          rw [h4, hp]; rfl
      · have hs' := Bool.eq_false_iff.2 hs
        rw [if_neg hs] at h4
        have e := sees_f (Q := Q) (d := d) hs'
        unfold rd at e
        rw [e, Option.bind_some, if_neg (show ¬ (false = true) by decide)]
        unfold ref12_reader_not.j2
        dsimp only
        rw [w64_nat k (by omega)]
        exact cmp_l0 hp hL hQ hop fuel (k + 1) (by omega) (by omega) (by omega) h4
    · rw [if_neg (by simp; omega)]
      unfold ref12_reader_not.j1
      rw [if_neg (by decide), if_pos (show ((0 : Int) == 0) = true from rfl)]
      obtain ⟨r, e1, e2, e3⟩ := fail_ok (L := L) (a := a1) (Q := Q) (d := d)
      unfold rd at e1
      rw [e1, Option.bind_some]
      exact ⟨_, _, rfl, e3, Or.inl e2⟩
end
end Go.Proofs.Ytjklfkiaebipnaa.M
