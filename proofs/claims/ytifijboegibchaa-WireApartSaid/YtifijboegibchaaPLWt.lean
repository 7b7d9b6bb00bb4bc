/- Wire: the bytes of tables, written and read. -/
import Derived.Test.YtifijboegibchaaPure
import Derived.Test.YtifijboegibchaaPLWs
import Derived.Test.YtifijboegibchaaPLCr
namespace Go.Proofs.Ytifijboegibchaa.M
open Go Go.Eng Go.Proofs Go.RowKit
set_option maxRecDepth 100000
set_option linter.unusedVariables false
set_option linter.unusedSimpArgs false

def colB (c : api_Col) : List Int := (c.Name.size : Int) :: (sbytes c.Name ++ [c.Kind])
def rowB (r : List api_Value) : List Int := r.flatMap valS
def bodyS (t : api_Table) : List Int := (t.Cols.length : Int) :: (t.Cols.flatMap colB ++ (bigS t.Rows.length 2 ++ t.Rows.flatMap rowB))
def encB (x : List Int) : List Int := bigS x.length 4 ++ (x ++ bigS (more 0 x) 4)
def encS (t : api_Table) : List Int := encB (bodyS t)
structure Good (t : api_Table) : Prop where
  cols : colsS t.Cols = true
  rows : ∀ r ∈ t.Rows, rowOk r t.Cols = true
  len : t.Rows.length ≤ 4096
def wfT (t : api_Table) : Prop := ∀ r ∈ t.Rows, ∀ v ∈ r, wfV v
theorem nameS_size {s : ByteArray} (h : nameS s = true) : s.size ≤ 24 := by
  unfold nameS at h
  split at h
  · cases h
  · simp only [Bool.and_eq_true, decide_eq_true_eq] at h; exact h.2
theorem allFrom_mem {α : Type} {p : Nat → α → Bool} : ∀ {l : List α} {i : Nat}, allFrom p i l = true → ∀ x ∈ l, ∃ j, p j x = true
  | [], _, _, x, hx => by cases hx
  | y :: l, i, h, x, hx => by
    simp only [allFrom, Bool.and_eq_true] at h
    rcases List.mem_cons.1 hx with rfl | hx
    · exact ⟨i, h.1⟩
    · exact allFrom_mem h.2 x hx
theorem colsS_col {cols : List api_Col} (h : colsS cols = true) : cols.length ≤ 16 ∧ ∀ c ∈ cols, c.Name.size ≤ 24 ∧ 1 ≤ c.Kind ∧ c.Kind ≤ 4 := by
  unfold colsS at h
  simp only [Bool.and_eq_true, decide_eq_true_eq] at h
  refine ⟨h.2.2, fun c hc => ?_⟩
  obtain ⟨j, hj⟩ := allFrom_mem h.1 c hc
  unfold colOk at hj
  simp only [Bool.and_eq_true, decide_eq_true_eq] at hj
  exact ⟨nameS_size hj.1.1, hj.1.2⟩
theorem rowOk_valid : ∀ {r : List api_Value} {cs : List api_Col}, rowOk r cs = true → ∀ v ∈ r, validS v = true
  | [], [], _, v, hv => by cases hv
  | [], _ :: _, h, _, _ => by simp [rowOk] at h
  | _ :: _, [], h, _, _ => by simp [rowOk] at h
  | y :: r, c :: cs, h, v, hv => by
    simp only [rowOk, Bool.and_eq_true] at h
    rcases List.mem_cons.1 hv with rfl | hv
    · exact h.1.2
    · exact rowOk_valid h.2 v hv
theorem byts_flat {α : Type} {f : α → List Int} {l : List α} (h : ∀ x ∈ l, Byts (f x)) : Byts (l.flatMap f) := by
  intro y hy
  obtain ⟨x, hx, hy⟩ := List.mem_flatMap.1 hy
  exact h x hx y hy
theorem flat_len {α : Type} {f : α → List Int} {m : Nat} : ∀ {l : List α}, (∀ x ∈ l, (f x).length ≤ m) → (l.flatMap f).length ≤ l.length * m
  | [], _ => by simp
  | x :: l, h => by
    have h1 := h x (List.mem_cons_self ..)
    have h2 := flat_len (l := l) (f := f) (m := m) (fun y hy => h y (List.mem_cons_of_mem _ hy))
    rw [List.flatMap_cons, List.length_append, List.length_cons, Nat.succ_mul]
    omega
theorem colB_len (c : api_Col) : (colB c).length = c.Name.size + 2 := by simp [colB, sbytes_len]
theorem byts_colB {c : api_Col} (h : c.Name.size ≤ 24) (h1 : 1 ≤ c.Kind) (h4 : c.Kind ≤ 4) : Byts (colB c) := Byts.cons.2 ⟨by omega, Byts.append.2 ⟨byts_sbytes _, Byts.cons.2 ⟨by omega, fun x hx => by cases hx⟩⟩⟩
theorem rowB_len {r : List api_Value} {cs : List api_Col} (h : rowOk r cs = true) (hc : cs.length ≤ 16) : (rowB r).length ≤ 1040 := by
  have := flat_len (l := r) (f := valS) (m := 65) (fun v hv => valS_len (rowOk_valid h v hv))
  have := rowOk_len h
  unfold rowB
  omega
theorem byts_rowB {r : List api_Value} {cs : List api_Col} (h : rowOk r cs = true) : Byts (rowB r) := byts_flat fun v hv => byts_valS (rowOk_valid h v hv)
theorem Good.bodyB {t : api_Table} (h : Good t) : Byts (bodyS t) := by
  obtain ⟨h1, h2⟩ := colsS_col h.cols
  refine Byts.cons.2 ⟨by omega, Byts.append.2 ⟨byts_flat fun c hc => byts_colB (h2 c hc).1 (h2 c hc).2.1 (h2 c hc).2.2, Byts.append.2 ⟨byts_bigS _ _, byts_flat fun r hr => byts_rowB (h.rows r hr)⟩⟩⟩
theorem Good.bodyL {t : api_Table} (h : Good t) : 3 ≤ (bodyS t).length ∧ (bodyS t).length ≤ 4270000 := by
  obtain ⟨h1, h2⟩ := colsS_col h.cols
  have a := flat_len (l := t.Cols) (f := colB) (m := 26) (fun c hc => by rw [colB_len]; have := (h2 c hc).1; omega)
  have b := flat_len (l := t.Rows) (f := rowB) (m := 1040) (fun r hr => rowB_len (h.rows r hr) h1)
  have := h.len
  unfold bodyS
  simp only [List.length_cons, List.length_append, bigS_len]
  omega
theorem encB_len (x : List Int) : (encB x).length = x.length + 8 := by simp [encB, bigS_len]; omega
theorem byts_encB {x : List Int} (h : Byts x) : Byts (encB x) := Byts.append.2 ⟨byts_bigS _ _, Byts.append.2 ⟨h, byts_bigS _ _⟩⟩
/-! reading -/
def colsP : Nat → List Int → Option (List api_Col × List Int)
  | 0, b => some ([], b)
  | _ + 1, [] => none
  | n + 1, c :: r => match r.drop c.toNat with
    | [] => none
    | k :: r' => match colsP n r' with
      | none => none
      | some (cs, q) => some (⟨bstr (r.take c.toNat), k⟩ :: cs, q)
def rowP : List api_Col → List Int → Option (List api_Value × List Int)
  | [], b => some ([], b)
  | c :: cs, b => match takeS c.Kind b with
    | none => none
    | some (v, r) => match rowP cs r with
      | none => none
      | some (vs, q) => some (v :: vs, q)
def rowsP (cs : List api_Col) : Nat → List Int → Option (List (List api_Value) × List Int)
  | 0, b => some ([], b)
  | n + 1, b => match rowP cs b with
    | none => none
    | some (row, r) => match rowsP cs n r with
      | none => none
      | some (rows, q) => some (row :: rows, q)
def rawP (x : List Int) : Option (api_Table × List Int) := match x with
  | [] => none
  | c :: r => match colsP c.toNat r with
    | none => none
    | some (cs, r1) => if colsS cs = true then (if 2 ≤ r1.length then (match rowsP cs (smallS (r1.take 2)).toNat (r1.drop 2) with
      | none => none
      | some (rows, q) => some (⟨cs, rows⟩, q)) else none) else none
def bodyP (x : List Int) : Option api_Table := match rawP x with
  | none => none
  | some (t, q) => if q = [] ∧ t.Rows.length ≤ 4096 then some t else none
def frame (b : List Int) : Option (List Int) := if 8 ≤ b.length ∧ smallS (b.take 4) + 8 = b.length then some ((b.drop 4).take (b.length - 8)) else none
def decS (b : List Int) : Option api_Table := match frame b with
  | none => none
  | some x => if smallS (b.drop (b.length - 4)) = more 0 x then bodyP x else none
theorem colsP_enc : ∀ (cs : List api_Col) (q : List Int), (∀ c ∈ cs, c.Name.size ≤ 24) → colsP cs.length (cs.flatMap colB ++ q) = some (cs, q)
  | [], q, _ => rfl
  | c :: cs, q, h => by
    have hl := sbytes_len c.Name
    rw [List.flatMap_cons, List.length_cons, colB]
    simp only [List.cons_append, List.append_assoc, List.nil_append]
    rw [colsP, Int.toNat_natCast, List.drop_append_of_le_length (by omega), List.drop_of_length_le (by omega), List.take_append_of_le_length (by omega), List.take_of_length_le (by omega)]
    simp only [List.nil_append]
    rw [colsP_enc cs q (fun d hd => h d (List.mem_cons_of_mem _ hd)), bstr_sbytes]
theorem colsP_dec : ∀ (n : Nat) (b : List Int) (cs : List api_Col) (q : List Int), Byts b → colsP n b = some (cs, q) → cs.length = n ∧ b = cs.flatMap colB ++ q ∧ ∀ c ∈ cs, c.Name.size < 256
  | 0, b, cs, q, hb, h => by cases h; exact ⟨rfl, rfl, fun c hc => by cases hc⟩
  | n + 1, [], cs, q, hb, h => by cases h
  | n + 1, c :: r, cs, q, hb, h => by
    obtain ⟨hc, hr⟩ := Byts.cons.1 hb
    rw [colsP] at h
    split at h
    · cases h
    · rename_i k r' hd
      split at h
      · cases h
      · rename_i cs' q' hcs
        cases h
        have hlen : c.toNat < r.length := by
          have : (r.drop c.toNat).length = (k :: r').length := by rw [hd]
          simp at this; omega
        have hr' : Byts r' := fun x hx => hr x (List.mem_of_mem_drop (by rw [hd]; exact List.mem_cons_of_mem _ hx))
        obtain ⟨h1, h2, h3⟩ := colsP_dec n r' cs' q hr' hcs
        refine ⟨by rw [List.length_cons, h1], ?_, fun d hd' => ?_⟩
        · rw [List.flatMap_cons, colB]
          simp only [bstr_size, sbytes_bstr (hr.take _), List.cons_append, List.append_assoc, List.nil_append]
          rw [← h2, ← hd, List.take_append_drop]
          congr 1
          simp; omega
        · rcases List.mem_cons.1 hd' with rfl | hd'
          · simp only [bstr_size]; simp; omega
          · exact h3 d hd'
theorem rowP_enc : ∀ (cs : List api_Col) (row : List api_Value) (q : List Int), rowOk row cs = true → (∀ v ∈ row, wfV v) → rowP cs (rowB row ++ q) = some (row, q)
  | [], [], q, _, _ => rfl
  | [], _ :: _, q, h, _ => by simp [rowOk] at h
  | _ :: _, [], q, h, _ => by simp [rowOk] at h
  | c :: cs, v :: row, q, h, hw => by
    simp only [rowOk, Bool.and_eq_true, decide_eq_true_eq] at h
    rw [rowP, rowB, List.flatMap_cons, List.append_assoc, ← h.1.1, take_put h.1.2 (hw v (List.mem_cons_self ..))]
    have := rowP_enc cs row q h.2 (fun u hu => hw u (List.mem_cons_of_mem _ hu))
    unfold rowB at this
    simp only [this]
theorem rowP_dec : ∀ (cs : List api_Col) (b : List Int) (row : List api_Value) (q : List Int), Byts b → rowP cs b = some (row, q) → rowOk row cs = true ∧ (∀ v ∈ row, wfV v) ∧ b = rowB row ++ q
  | [], b, row, q, hb, h => by cases h; exact ⟨rfl, fun v hv => by (cases hv), rfl⟩
  | c :: cs, b, row, q, hb, h => by
    rw [rowP] at h
    split at h
    · cases h
    · rename_i v r ht
      split at h
      · cases h
      · rename_i vs q' hr
        cases h
        obtain ⟨h1, h2, h3, h4⟩ := put_take hb ht
        have hbr : Byts r := by rw [h4] at hb; exact (Byts.append.1 hb).2
        obtain ⟨h5, h6, h7⟩ := rowP_dec cs r vs q hbr hr
        refine ⟨by simp [rowOk, h1, h2, h5], fun u hu => ?_, ?_⟩
        · rcases List.mem_cons.1 hu with rfl | hu
          · exact h3
          · exact h6 u hu
        · rw [h4, h7, rowB, rowB, List.flatMap_cons, List.append_assoc]
theorem rowsP_enc (cs : List api_Col) : ∀ (rows : List (List api_Value)) (q : List Int), (∀ r ∈ rows, rowOk r cs = true) → (∀ r ∈ rows, ∀ v ∈ r, wfV v) → rowsP cs rows.length (rows.flatMap rowB ++ q) = some (rows, q)
  | [], q, _, _ => rfl
  | r :: rows, q, h, hw => by
    rw [List.length_cons, rowsP, List.flatMap_cons, List.append_assoc, rowP_enc cs r _ (h r (List.mem_cons_self ..)) (hw r (List.mem_cons_self ..))]
    simp only [rowsP_enc cs rows q (fun s hs => h s (List.mem_cons_of_mem _ hs)) (fun s hs => hw s (List.mem_cons_of_mem _ hs))]
theorem rowsP_dec (cs : List api_Col) : ∀ (n : Nat) (b : List Int) (rows : List (List api_Value)) (q : List Int), Byts b → rowsP cs n b = some (rows, q) → rows.length = n ∧ (∀ r ∈ rows, rowOk r cs = true) ∧ (∀ r ∈ rows, ∀ v ∈ r, wfV v) ∧ b = rows.flatMap rowB ++ q
  | 0, b, rows, q, hb, h => by cases h; exact ⟨rfl, fun r hr => by (cases hr), fun r hr => by (cases hr), rfl⟩
  | n + 1, b, rows, q, hb, h => by
    rw [rowsP] at h
    split at h
    · cases h
    · rename_i row r h1
      split at h
      · cases h
      · rename_i rows' q' h2
        cases h
        obtain ⟨a1, a2, a3⟩ := rowP_dec cs b row r hb h1
        have hbr : Byts r := by rw [a3] at hb; exact (Byts.append.1 hb).2
        obtain ⟨b1, b2, b3, b4⟩ := rowsP_dec cs n r rows' q hbr h2
        refine ⟨by rw [List.length_cons, b1], fun s hs => ?_, fun s hs => ?_, ?_⟩
        · rcases List.mem_cons.1 hs with rfl | hs
          · exact a1
          · exact b2 s hs
        · rcases List.mem_cons.1 hs with rfl | hs
          · exact a2
          · exact b3 s hs
        · rw [a3, b4, List.flatMap_cons, List.append_assoc]
theorem rawP_enc {t : api_Table} (h : Good t) (hw : wfT t) : rawP (bodyS t) = some (t, []) := by
  obtain ⟨h1, h2⟩ := colsS_col h.cols
  have := h.len
  unfold rawP bodyS
  simp only [Int.toNat_natCast]
  rw [colsP_enc t.Cols _ (fun c hc => (h2 c hc).1)]
  simp only
  rw [if_pos h.cols, if_pos (by simp [bigS_len]), List.take_append_of_le_length (by rw [bigS_len]; omega), List.take_of_length_le (by rw [bigS_len]; omega), small_big (by decide) (by omega) (by rw [show pw 2 = 65536 by decide]; omega), Int.toNat_natCast, List.drop_append_of_le_length (by rw [bigS_len]; omega), List.drop_of_length_le (by rw [bigS_len]; omega)]
  have := rowsP_enc t.Cols t.Rows [] h.rows hw
  rw [List.append_nil] at this
  rw [List.nil_append, this]
theorem rawP_dec {x : List Int} (hx : Byts x) {t : api_Table} {q : List Int} (h : rawP x = some (t, q)) : colsS t.Cols = true ∧ (∀ r ∈ t.Rows, rowOk r t.Cols = true) ∧ wfT t ∧ x = bodyS t ++ q ∧ t.Rows.length < 65536 := by
  unfold rawP at h
  split at h
  · cases h
  · rename_i c r
    obtain ⟨hc, hr⟩ := Byts.cons.1 hx
    split at h
    · cases h
    · rename_i cs r1 hcs
      obtain ⟨a1, a2, a3⟩ := colsP_dec _ r cs r1 hr hcs
      have hr1 : Byts r1 := by rw [a2] at hr; exact (Byts.append.1 hr).2
      split at h
      · rename_i hcol
        split at h
        · rename_i h2
          split at h
          · cases h
          · rename_i rows q' hrows
            cases h
            obtain ⟨b1, b2, b3, b4⟩ := rowsP_dec cs _ _ rows q (hr1.drop 2) hrows
            have hl : (r1.take 2).length = 2 := by simp; omega
            have hs := small_range (hr1.take 2) (by omega)
            rw [hl, show pw 2 = 65536 by decide] at hs
            refine ⟨hcol, b2, b3, ?_, by simp only [b1]; omega⟩
            unfold bodyS
            simp only [List.cons_append, List.append_assoc]
            have e1 : ((rows.length : Nat) : Int) = smallS (r1.take 2) := by rw [b1]; omega
            have e2 := big_small (hr1.take 2) (by omega)
            rw [hl] at e2
            rw [e1, e2, ← b4, List.take_append_drop, ← a2]
            congr 1; omega
        · cases h
      · cases h
theorem frame_enc {x : List Int} (h : x.length < 4294967296) : frame (encB x) = some x ∧ smallS ((encB x).drop ((encB x).length - 4)) = more 0 x := by
  have e4 : pw 4 = 4294967296 := by decide
  have hl := encB_len x
  have t4 : (encB x).take 4 = bigS x.length 4 := by unfold encB; rw [List.take_append_of_le_length (by rw [bigS_len]; omega), List.take_of_length_le (by rw [bigS_len]; omega)]
  have d4 : (encB x).drop 4 = x ++ bigS (more 0 x) 4 := by unfold encB; rw [List.drop_append_of_le_length (by rw [bigS_len]; omega), List.drop_of_length_le (by rw [bigS_len]; omega), List.nil_append]
  constructor
  · unfold frame
    rw [t4, small_big (by decide) (by omega) (by omega), if_pos (by omega), d4, hl, List.take_append_of_le_length (by omega), List.take_of_length_le (by omega)]
  · have : (encB x).drop ((encB x).length - 4) = bigS (more 0 x) 4 := by
      rw [hl, show x.length + 8 - 4 = 4 + x.length by omega, ← List.drop_drop, d4, List.drop_append_of_le_length (Nat.le_refl _), List.drop_of_length_le (Nat.le_refl _), List.nil_append]
    rw [this]
    have := more_in 0 x
    exact small_big (by decide) this.1 (by rw [e4]; exact this.2)
theorem frame_dec {b x : List Int} (hb : Byts b) (h : frame b = some x) (hc : smallS (b.drop (b.length - 4)) = more 0 x) : b = encB x ∧ Byts x := by
  unfold frame at h
  split at h
  · rename_i h1
    have h := Option.some.inj h
    have hxl : x.length = b.length - 8 := by rw [← h]; simp; omega
    have hl4 : (b.take 4).length = 4 := by simp; omega
    have hd4 : (b.drop (b.length - 4)).length = 4 := by simp; omega
    refine ⟨?_, by rw [← h]; exact (hb.drop 4).take _⟩
    unfold encB
    have e1 := big_small (hb.take 4) (by omega)
    have e2 := big_small (hb.drop (b.length - 4)) (by omega)
    rw [hl4] at e1
    rw [hd4] at e2
    rw [← hc, e2, show ((x.length : Nat) : Int) = smallS (b.take 4) by omega, e1, ← h]
    have : b.drop (b.length - 4) = (b.drop 4).drop (b.length - 8) := by rw [List.drop_drop]; congr 1; omega
    rw [this, List.take_append_drop, List.take_append_drop]
  · cases h
theorem dec_enc {t : api_Table} (h : Good t) (hw : wfT t) : decS (encS t) = some t := by
  have hl := h.bodyL
  obtain ⟨h1, h2⟩ := frame_enc (x := bodyS t) (by omega)
  unfold decS encS
  rw [h1]
  simp only
  rw [if_pos h2]
  unfold bodyP
  rw [rawP_enc h hw]
  simp only
  rw [if_pos ⟨trivial, h.len⟩]
theorem enc_dec {b : List Int} (hb : Byts b) {t : api_Table} (h : decS b = some t) : Good t ∧ wfT t ∧ b = encS t := by
  unfold decS at h
  split at h
  · cases h
  · rename_i x hx
    split at h
    · rename_i hc
      obtain ⟨h1, h2⟩ := frame_dec hb hx hc
      unfold bodyP at h
      split at h
      · cases h
      · rename_i t' q hr
        split at h
        · rename_i hq
          cases h
          obtain ⟨a1, a2, a3, a4, a5⟩ := rawP_dec h2 hr
          refine ⟨⟨a1, a2, hq.2⟩, a3, ?_⟩
          rw [h1, encS]
          rw [hq.1, List.append_nil] at a4
          rw [a4]
        · cases h
    · cases h
end Go.Proofs.Ytifijboegibchaa.M
