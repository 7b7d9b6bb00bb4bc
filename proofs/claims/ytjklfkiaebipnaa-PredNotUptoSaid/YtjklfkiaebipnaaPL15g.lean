/- Reading conditions: what is read does not hang on places, on what stands behind a closing bracket, on how deep it stands. -/
import Derived.Test.YtjklfkiaebipnaaPure
import Derived.Test.YtjklfkiaebipnaaPL15f
namespace Go.Proofs.Ytjklfkiaebipnaa.M
open Go Go.Eng Go.Proofs Go.RowKit
set_option maxRecDepth 100000
set_option linter.unusedVariables false
set_option linter.unusedSimpArgs false

def er (t : api_Token) : api_Token := ⟨t.Kind, t.S, t.N, 0⟩
theorem isT_er (ts : TL) (s : ByteArray) : isT (ts.map er) s = isT ts s := by cases ts <;> rfl
theorem tail_er (ts : TL) : (ts.map er).tail = ts.tail.map er := by cases ts <;> rfl
theorem opF_er (ts : TL) : ∀ n k, opF (ts.map er) n k = opF ts n k
  | 0, k => rfl
  | n + 1, k => by rw [opF, opF, isT_er, opF_er ts n (k + 1)]
theorem valS_er (ts : TL) : valS (ts.map er) = (valS ts).map fun p => (p.1, p.2.map er) := by
  unfold valS
  rw [isT_er, isT_er]
  by_cases h1 : isT ts wTrue = true
  · rw [if_pos h1, if_pos h1, tail_er]; rfl
  · rw [if_neg h1, if_neg h1]
    by_cases h2 : isT ts wFalse = true
    · rw [if_pos h2, if_pos h2, tail_er]; rfl
    · rw [if_neg h2, if_neg h2]
      cases ts with
      | nil => rfl
      | cons t r =>
        simp only [List.map_cons, er]
        by_cases h3 : t.Kind = 2
        · rw [if_pos h3, if_pos h3]; rfl
        · rw [if_neg h3, if_neg h3]
          by_cases h4 : t.Kind = 3
          · rw [if_pos h4, if_pos h4]; rfl
          · rw [if_neg h4, if_neg h4]; rfl
theorem leafS_er (ts : TL) : leafS (ts.map er) = (leafS ts).map fun p => (p.1, p.2.map er) := by
  cases ts with
  | nil => rfl
  | cons t r =>
    simp only [List.map_cons, leafS]
    by_cases h1 : t.Kind = 1
    · rw [if_pos (show (er t).Kind = 1 from h1), if_pos h1, isT_er]
      by_cases h2 : isT r wHas = true
      · rw [if_pos h2, if_pos h2, tail_er]
        cases r.tail with
        | nil => rfl
        | cons u r2 =>
          simp only [List.map_cons]
          by_cases h3 : u.Kind = 3
          · rw [if_pos (show (er u).Kind = 3 from h3), if_pos h3]; rfl
          · rw [if_neg (show ¬ (er u).Kind = 3 from h3), if_neg h3]; rfl
      · rw [if_neg h2, if_neg h2]
        unfold opS
        rw [opF_er, tail_er, valS_er]
        by_cases h3 : opF r 6 1 = 0
        · rw [if_pos h3, if_pos h3]; rfl
        · rw [if_neg h3, if_neg h3]
          cases valS r.tail <;> rfl
    · rw [if_neg (show ¬ (er t).Kind = 1 from h1), if_neg h1]; rfl
theorem P_er : ∀ (f : Nat) (lev : Lev) (d : Nat) (ts : TL), P f lev d (ts.map er) = (P f lev d ts).map fun p => (p.1, p.2.map er)
  | 0, _, _, _ => rfl
  | f + 1, .c, d, ts => by
    rw [P, P, P_er f]
    cases h : P f .b d ts with
    | none => rfl
    | some p => exact P_er f _ _ _
  | f + 1, .cl x, d, ts => by
    rw [P, P, isT_er, tail_er, P_er f]
    split
    · cases h : P f .b d ts.tail with
      | none => rfl
      | some p => exact P_er f _ _ _
    · rfl
  | f + 1, .b, d, ts => by
    rw [P, P, P_er f]
    cases h : P f .n d ts with
    | none => rfl
    | some p => exact P_er f _ _ _
  | f + 1, .bl x, d, ts => by
    rw [P, P, isT_er, tail_er, P_er f]
    split
    · cases h : P f .n d ts.tail with
      | none => rfl
      | some p => exact P_er f _ _ _
    · rfl
  | f + 1, .n, d, ts => by
    rw [P, P, isT_er, isT_er, tail_er, P_er f, P_er f, leafS_er]
    split
    · split
      · rfl
      · cases P f .n (d + 1) ts.tail <;> rfl
    · split
      · split
        · rfl
        · cases P f .c (d + 1) ts.tail with
          | none => rfl
          | some p =>
            simp only [Option.map_some, Option.bind_some]
            rw [isT_er, tail_er]
            split <;> rfl
      · rfl
theorem P_depth : ∀ (f : Nat) (lev : Lev) (d : Nat) (ts : TL) (x : Cn × TL), P f lev d ts = some x → ∀ e, e ≤ d → P f lev e ts = some x
  | 0, _, _, _, _, h, _, _ => by simp [P] at h
  | f + 1, lev, d, ts, x, h, e, he => by
    have ih := fun lev d ts x h e he => P_depth f lev d ts x h e he
    cases lev with
    | c =>
      rw [P] at h ⊢
      obtain ⟨p, h1, h2⟩ := Option.bind_eq_some_iff.1 h
      rw [ih _ _ _ _ h1 e he, Option.bind_some]; exact ih _ _ _ _ h2 e he
    | cl y =>
      rw [P] at h ⊢
      split at h
      · rename_i hc
        rw [if_pos hc]
        obtain ⟨p, h1, h2⟩ := Option.bind_eq_some_iff.1 h
        rw [ih _ _ _ _ h1 e he, Option.bind_some]; exact ih _ _ _ _ h2 e he
      · rename_i hc
        rw [if_neg hc]; exact h
    | b =>
      rw [P] at h ⊢
      obtain ⟨p, h1, h2⟩ := Option.bind_eq_some_iff.1 h
      rw [ih _ _ _ _ h1 e he, Option.bind_some]; exact ih _ _ _ _ h2 e he
    | bl y =>
      rw [P] at h ⊢
      split at h
      · rename_i hc
        rw [if_pos hc]
        obtain ⟨p, h1, h2⟩ := Option.bind_eq_some_iff.1 h
        rw [ih _ _ _ _ h1 e he, Option.bind_some]; exact ih _ _ _ _ h2 e he
      · rename_i hc
        rw [if_neg hc]; exact h
    | n =>
      rw [P] at h ⊢
      split at h
      · rename_i hc
        rw [if_pos hc]
        split at h
        · cases h
        · rename_i hd
          rw [if_neg (by omega)]
          obtain ⟨p, h1, h2⟩ := Option.bind_eq_some_iff.1 h
          rw [ih _ _ _ _ h1 (e + 1) (by omega), Option.bind_some]; exact h2
      · rename_i hc
        rw [if_neg hc]
        split at h
        · rename_i hc2
          rw [if_pos hc2]
          split at h
          · cases h
          · rename_i hd
            rw [if_neg (by omega)]
            obtain ⟨p, h1, h2⟩ := Option.bind_eq_some_iff.1 h
            rw [ih _ _ _ _ h1 (e + 1) (by omega), Option.bind_some]; exact h2
        · rename_i hc2
          rw [if_neg hc2]; exact h
/-! what stands behind a closing bracket is not looked at -/
def tk (k : Int) (s : ByteArray) : api_Token := ⟨k, s, 0, 0⟩
def tClose : api_Token := tk 4 wClose
def tOpen : api_Token := tk 4 wOpen
def tNot : api_Token := tk 1 wNot
def tAnd : api_Token := tk 1 wAnd
def tOr : api_Token := tk 1 wOr
theorem isT_cons {k : Int} {s w : ByteArray} {ts : TL} {b : Bool} (h : (decide (k = 1 ∨ k = 4) && decide (s = w)) = b) : isT (tk k s :: ts) w = b := h
section
variable {z : TL}
theorem isT_app {s : ByteArray} (hs : s ≠ wClose) (ts : TL) : isT (ts ++ tClose :: z) s = isT ts s := by
  cases ts with
  | nil =>
    show (decide ((4 : Int) = 1 ∨ (4 : Int) = 4) && decide (wClose = s)) = false
    rw [decide_eq_false (Ne.symm hs), Bool.and_false]
  | cons t r => rfl
theorem isT_app' {s : ByteArray} {ts : TL} (h : isT ts s = true) : isT (ts ++ tClose :: z) s = true ∧ (ts ++ tClose :: z).tail = ts.tail ++ tClose :: z := by
  cases ts with
  | nil => cases h
  | cons t r => exact ⟨h, rfl⟩
theorem opF_app (ts : TL) : ∀ n k, n + k ≤ 7 → opF (ts ++ tClose :: z) n k = opF ts n k
  | 0, k, _ => rfl
  | n + 1, k, h => by
    have hne : sgs.getD k ⟨#[]⟩ ≠ wClose := by
      have : ∀ k, k < 7 → sgs.getD k ⟨#[]⟩ ≠ wClose := by decide
      exact this k (by omega)
    rw [opF, opF, isT_app hne, opF_app ts n (k + 1) (by omega)]
theorem valS_app {ts : TL} {p : api_Value × TL} (h : valS ts = some p) : valS (ts ++ tClose :: z) = some (p.1, p.2 ++ tClose :: z) := by
  unfold valS at h ⊢
  rw [isT_app (by decide), isT_app (by decide)]
  split at h
  · rename_i h1
    cases h
    rw [if_pos h1, (isT_app' (z := z) h1).2]
  · rename_i h1
    rw [if_neg h1]
    split at h
    · rename_i h2
      cases h
      rw [if_pos h2, (isT_app' (z := z) h2).2]
    · rename_i h2
      rw [if_neg h2]
      cases ts with
      | nil => cases h
      | cons t r =>
        simp only [List.cons_append] at h ⊢
        split at h
        · rename_i h3
          cases h
          rw [if_pos h3]
        · rename_i h3
          rw [if_neg h3]
          split at h
          · rename_i h4
            cases h
            rw [if_pos h4]
          · cases h
theorem leafS_app {ts : TL} {p : Cn × TL} (h : leafS ts = some p) : leafS (ts ++ tClose :: z) = some (p.1, p.2 ++ tClose :: z) := by
  cases ts with
  | nil => cases h
  | cons t r =>
    simp only [leafS, List.cons_append] at h ⊢
    rw [isT_app (by decide)]
    split at h
    · rename_i h1
      rw [if_pos h1]
      split at h
      · rename_i h2
        rw [if_pos h2, (isT_app' (z := z) h2).2]
        cases hr : r.tail with
        | nil => rw [hr] at h; cases h
        | cons u r2 =>
          rw [hr] at h
          simp only [List.cons_append] at h ⊢
          split at h
          · rename_i h3
            cases h
            rw [if_pos h3]
          · cases h
      · rename_i h2
        rw [if_neg h2]
        unfold opS at h ⊢
        rw [opF_app r 6 1 (by omega)]
        split at h
        · cases h
        · rename_i h3
          rw [if_neg h3]
          obtain ⟨q, h4, h5⟩ := Option.bind_eq_some_iff.1 h
          cases h5
          have hne : r ≠ [] := by
            rintro rfl
            exact h3 rfl
          have ht : (r ++ tClose :: z).tail = r.tail ++ tClose :: z := by cases r with
            | nil => exact absurd rfl hne
            | cons a b => rfl
          rw [ht, valS_app h4]; rfl
    · cases h
theorem tail_app {s : ByteArray} {ts : TL} (h : isT ts s = true) : (ts ++ tClose :: z).tail = ts.tail ++ tClose :: z := (isT_app' h).2
theorem P_app : ∀ (f : Nat) (lev : Lev) (d : Nat) (ts : TL) (p : Cn × TL), P f lev d ts = some p → P f lev d (ts ++ tClose :: z) = some (p.1, p.2 ++ tClose :: z)
  | 0, _, _, _, _, h => by simp [P] at h
  | f + 1, lev, d, ts, x, h => by
    have ih := fun lev d ts x h => P_app f lev d ts x h
    cases lev with
    | c =>
      rw [P] at h ⊢
      obtain ⟨p, h1, h2⟩ := Option.bind_eq_some_iff.1 h
      rw [ih _ _ _ _ h1, Option.bind_some]; exact ih _ _ _ _ h2
    | cl y =>
      rw [P] at h ⊢
      rw [isT_app (by decide)]
      split at h
      · rename_i hc
        rw [if_pos hc, tail_app hc]
        obtain ⟨p, h1, h2⟩ := Option.bind_eq_some_iff.1 h
        rw [ih _ _ _ _ h1, Option.bind_some]; exact ih _ _ _ _ h2
      · rename_i hc
        rw [if_neg hc]
        cases h; rfl
    | b =>
      rw [P] at h ⊢
      obtain ⟨p, h1, h2⟩ := Option.bind_eq_some_iff.1 h
      rw [ih _ _ _ _ h1, Option.bind_some]; exact ih _ _ _ _ h2
    | bl y =>
      rw [P] at h ⊢
      rw [isT_app (by decide)]
      split at h
      · rename_i hc
        rw [if_pos hc, tail_app hc]
        obtain ⟨p, h1, h2⟩ := Option.bind_eq_some_iff.1 h
        rw [ih _ _ _ _ h1, Option.bind_some]; exact ih _ _ _ _ h2
      · rename_i hc
        rw [if_neg hc]
        cases h; rfl
    | n =>
      rw [P] at h ⊢
      rw [isT_app (by decide), isT_app (by decide)]
      split at h
      · rename_i hc
        rw [if_pos hc, tail_app hc]
        split at h
        · cases h
        · rename_i hd
          rw [if_neg hd]
          obtain ⟨p, h1, h2⟩ := Option.bind_eq_some_iff.1 h
          cases h2
          rw [ih _ _ _ _ h1, Option.bind_some]
      · rename_i hc
        rw [if_neg hc]
        split at h
        · rename_i hc2
          rw [if_pos hc2, tail_app hc2]
          split at h
          · cases h
          · rename_i hd
            rw [if_neg hd]
            obtain ⟨p, h1, h2⟩ := Option.bind_eq_some_iff.1 h
            split at h2
            · rename_i hc3
              cases h2
              rw [ih _ _ _ _ h1, Option.bind_some]
              dsimp only
              rw [if_pos (isT_app' hc3).1, tail_app hc3]
            · cases h2
        · rename_i hc2
          rw [if_neg hc2]; exact leafS_app h
end
/-! what is read, if anything is -/
def D (lev : Lev) (d : Nat) (ts : TL) (p : Cn × TL) : Prop := ∀ f q, P f lev d ts = some q → q = p
theorem D_of {g : Nat} {lev : Lev} {e d : Nat} {ts : TL} {p : Cn × TL} (h : P g lev e ts = some p) (he : e ≤ d) : D lev d ts p := fun f q hq => by
  have h1 := P_depth _ _ _ _ _ hq e he
  have h2 := P_mono _ _ _ _ _ h1 (max f g) (Nat.le_max_left _ _)
  have h3 := P_mono _ _ _ _ _ h (max f g) (Nat.le_max_right _ _)
  rw [h2] at h3; exact Option.some.inj h3
theorem D_in {g : Nat} {d : Nat} {T z : TL} {c : Cn} (h : P g .c 0 T = some (c, [])) : D .c d (T ++ tClose :: z) (c, tClose :: z) := D_of (P_app _ _ _ _ _ h) (Nat.zero_le _)
theorem D_br {d : Nat} {ts z : TL} {c : Cn} (h : D .c (d + 1) ts (c, tClose :: z)) : D .n d (tOpen :: ts) (c, z) := fun f q hq => by
  cases f with
  | zero => simp [P] at hq
  | succ f =>
    rw [P, if_neg (by rw [tOpen, isT_cons (b := false) (by decide)]; decide), if_pos (by rw [tOpen, isT_cons (b := true) (by decide)])] at hq
    split at hq
    · cases hq
    · obtain ⟨p, h1, h2⟩ := Option.bind_eq_some_iff.1 hq
      have := h f p h1
      subst this
      split at h2
      · cases h2; rfl
      · cases h2
theorem D_not {d : Nat} {ts z : TL} {c : Cn} (h : D .n (d + 1) ts (c, z)) : D .n d (tNot :: ts) (.not c, z) := fun f q hq => by
  cases f with
  | zero => simp [P] at hq
  | succ f =>
    rw [P, if_pos (by rw [tNot, isT_cons (b := true) (by decide)])] at hq
    split at hq
    · cases hq
    · obtain ⟨p, h1, h2⟩ := Option.bind_eq_some_iff.1 hq
      have := h f p h1
      subst this
      cases h2; rfl
theorem D_bl {d : Nat} {z : TL} {c : Cn} (hz : isT z wAnd = false) : D (.bl c) d z (c, z) := fun f q hq => by
  cases f with
  | zero => simp [P] at hq
  | succ f =>
    rw [P, if_neg (by rw [hz]; decide)] at hq
    cases hq; rfl
theorem D_cl {d : Nat} {z : TL} {c : Cn} (hz : isT z wOr = false) : D (.cl c) d z (c, z) := fun f q hq => by
  cases f with
  | zero => simp [P] at hq
  | succ f =>
    rw [P, if_neg (by rw [hz]; decide)] at hq
    cases hq; rfl
theorem D_blA {d : Nat} {z z2 : TL} {c y : Cn} {p : Cn × TL} (h : D .n d z (y, z2)) (h2 : D (.bl (.and c y)) d z2 p) : D (.bl c) d (tAnd :: z) p := fun f q hq => by
  cases f with
  | zero => simp [P] at hq
  | succ f =>
    rw [P, if_pos (by rw [tAnd, isT_cons (b := true) (by decide)])] at hq
    obtain ⟨r, h3, h4⟩ := Option.bind_eq_some_iff.1 hq
    have := h f r h3
    subst this
    exact h2 f q h4
theorem D_clO {d : Nat} {z z2 : TL} {c y : Cn} {p : Cn × TL} (h : D .b d z (y, z2)) (h2 : D (.cl (.or c y)) d z2 p) : D (.cl c) d (tOr :: z) p := fun f q hq => by
  cases f with
  | zero => simp [P] at hq
  | succ f =>
    rw [P, if_pos (by rw [tOr, isT_cons (b := true) (by decide)])] at hq
    obtain ⟨r, h3, h4⟩ := Option.bind_eq_some_iff.1 hq
    have := h f r h3
    subst this
    exact h2 f q h4
theorem D_b {d : Nat} {ts z : TL} {c : Cn} {p : Cn × TL} (h : D .n d ts (c, z)) (h2 : D (.bl c) d z p) : D .b d ts p := fun f q hq => by
  cases f with
  | zero => simp [P] at hq
  | succ f =>
    rw [P] at hq
    obtain ⟨r, h3, h4⟩ := Option.bind_eq_some_iff.1 hq
    have := h f r h3
    subst this
    exact h2 f q h4
theorem D_c {d : Nat} {ts z : TL} {c : Cn} {p : Cn × TL} (h : D .b d ts (c, z)) (h2 : D (.cl c) d z p) : D .c d ts p := fun f q hq => by
  cases f with
  | zero => simp [P] at hq
  | succ f =>
    rw [P] at hq
    obtain ⟨r, h3, h4⟩ := Option.bind_eq_some_iff.1 hq
    have := h f r h3
    subst this
    exact h2 f q h4
/-! sizes -/
def Cn.sm (B : Nat) : Cn → Prop
  | .cmp _ _ v => v.S.size ≤ B
  | .has _ v => v.size ≤ B
  | .not x => x.sm B
  | .and x y => x.sm B ∧ y.sm B
  | .or x y => x.sm B ∧ y.sm B
theorem fl_sm {B : Nat} : ∀ (c : Cn) (b : Nat), c.sm B → ∀ n ∈ c.fl b, n.L.length ≤ 2 ∧ n.V.S.size ≤ B
  | .cmp s k v, b, h, n, hn => by simp only [Cn.fl, List.mem_singleton] at hn; subst hn; exact ⟨by simp [nCmp], h⟩
  | .has s v, b, h, n, hn => by simp only [Cn.fl, List.mem_singleton] at hn; subst hn; exact ⟨by simp [nHas], h⟩
  | .not x, b, h, n, hn => by
    simp only [Cn.fl, List.mem_append, List.mem_singleton] at hn
    rcases hn with hn | rfl
    · exact fl_sm x b h n hn
    · exact ⟨by simp [nNot], Nat.zero_le _⟩
  | .and x y, b, h, n, hn => by
    simp only [Cn.fl, List.mem_append, List.mem_singleton] at hn
    rcases hn with hn | hn | rfl
    · exact fl_sm x b h.1 n hn
    · exact fl_sm y _ h.2 n hn
    · exact ⟨by simp [nAnd], Nat.zero_le _⟩
  | .or x y, b, h, n, hn => by
    simp only [Cn.fl, List.mem_append, List.mem_singleton] at hn
    rcases hn with hn | hn | rfl
    · exact fl_sm x b h.1 n hn
    · exact fl_sm y _ h.2 n hn
    · exact ⟨by simp [nOr], Nat.zero_le _⟩
def smT (B : Nat) (ts : TL) : Prop := ∀ t ∈ ts, t.S.size ≤ B
theorem smT.tail {B : Nat} {ts : TL} (h : smT B ts) : smT B ts.tail := fun t ht => h t (List.mem_of_mem_tail ht)
theorem valS_sm {B : Nat} {ts : TL} {p : api_Value × TL} (hs : smT B ts) (h : valS ts = some p) : p.1.S.size ≤ B ∧ smT B p.2 := by
  unfold valS at h
  split at h
  · cases h; exact ⟨Nat.zero_le _, hs.tail⟩
  · split at h
    · cases h; exact ⟨Nat.zero_le _, hs.tail⟩
    · cases ts with
      | nil => cases h
      | cons t r =>
        have hr : smT B r := fun u hu => hs u (by simp [hu])
        simp only at h
        split at h
        · cases h; exact ⟨Nat.zero_le _, hr⟩
        · split at h
          · cases h; exact ⟨hs t (by simp), hr⟩
          · cases h
theorem leafS_sm {B : Nat} {ts : TL} {p : Cn × TL} (hs : smT B ts) (h : leafS ts = some p) : p.1.sm B ∧ smT B p.2 := by
  cases ts with
  | nil => cases h
  | cons t r =>
    have hr : smT B r := fun u hu => hs u (by simp [hu])
    simp only [leafS] at h
    split at h
    · split at h
      · have hr2 := hr.tail
        cases hrt : r.tail with
        | nil => rw [hrt] at h; cases h
        | cons u r2 =>
          rw [hrt] at h hr2
          simp only at h
          split at h
          · cases h; exact ⟨hr2 u (by simp), fun w hw => hr2 w (by simp [hw])⟩
          · cases h
      · split at h
        · cases h
        · obtain ⟨q, h4, h5⟩ := Option.bind_eq_some_iff.1 h
          cases h5
          exact valS_sm hr.tail h4
    · cases h
def levSm (B : Nat) : Lev → Prop
  | .bl x => x.sm B
  | .cl x => x.sm B
  | _ => True
theorem P_sm {B : Nat} : ∀ (f : Nat) (lev : Lev) (d : Nat) (ts : TL) (p : Cn × TL), P f lev d ts = some p → smT B ts → levSm B lev → p.1.sm B ∧ smT B p.2
  | 0, _, _, _, _, h, _, _ => by simp [P] at h
  | f + 1, lev, d, ts, x, h, hs, hl => by
    have ih := fun lev d ts x h hs hl => P_sm (B := B) f lev d ts x h hs hl
    cases lev with
    | c =>
      rw [P] at h
      obtain ⟨p, h1, h2⟩ := Option.bind_eq_some_iff.1 h
      have := ih _ _ _ _ h1 hs trivial
      exact ih _ _ _ _ h2 this.2 this.1
    | cl y =>
      rw [P] at h
      split at h
      · obtain ⟨p, h1, h2⟩ := Option.bind_eq_some_iff.1 h
        have := ih _ _ _ _ h1 hs.tail trivial
        exact ih _ _ _ _ h2 this.2 ⟨hl, this.1⟩
      · cases h; exact ⟨hl, hs⟩
    | b =>
      rw [P] at h
      obtain ⟨p, h1, h2⟩ := Option.bind_eq_some_iff.1 h
      have := ih _ _ _ _ h1 hs trivial
      exact ih _ _ _ _ h2 this.2 this.1
    | bl y =>
      rw [P] at h
      split at h
      · obtain ⟨p, h1, h2⟩ := Option.bind_eq_some_iff.1 h
        have := ih _ _ _ _ h1 hs.tail trivial
        exact ih _ _ _ _ h2 this.2 ⟨hl, this.1⟩
      · cases h; exact ⟨hl, hs⟩
    | n =>
      rw [P] at h
      split at h
      · split at h
        · cases h
        · obtain ⟨p, h1, h2⟩ := Option.bind_eq_some_iff.1 h
          cases h2
          have := ih _ _ _ _ h1 hs.tail trivial
          exact ⟨this.1, this.2⟩
      · split at h
        · split at h
          · cases h
          · obtain ⟨p, h1, h2⟩ := Option.bind_eq_some_iff.1 h
            have := ih _ _ _ _ h1 hs.tail trivial
            split at h2
            · cases h2; exact ⟨this.1, this.2.tail⟩
            · cases h2
        · exact leafS_sm hs h
end Go.Proofs.Ytjklfkiaebipnaa.M
