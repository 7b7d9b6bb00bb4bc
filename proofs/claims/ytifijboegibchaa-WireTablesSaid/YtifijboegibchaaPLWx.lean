/- Wire: what the reference answers: tables. -/
import Derived.Test.YtifijboegibchaaPure
import Derived.Test.YtifijboegibchaaPLWq
namespace Go.Proofs.Ytifijboegibchaa.M
open Go Go.Eng Go.Proofs Go.RowKit
set_option maxRecDepth 100000
set_option linter.unusedVariables false
set_option linter.unusedSimpArgs false

theorem rBody_l3 {kl : List Int → Int → Option (List Int)} {t : api_Table} {j : Nat} {row : List api_Value} (hj : t.Rows[j]? = some row) (hv : ∀ v ∈ row, validS v = true) (hr : row.length < 4611686018427387904) : ∀ (fuel k : Nat) (acc : List Int), k ≤ row.length → row.length < k + fuel → acc.length + 65 * (row.length - k) ≤ 10000000 →
    ref04_body.l3 kl t (j : Int) fuel acc (k : Int) = kl (acc ++ rowB (row.drop k)) (IntKind.i64.wrap ((j : Int) + 1))
  | 0, k, acc, _, h, _ => by omega
  | fuel + 1, k, acc, h1, h2, h3 => by
    rw [ref04_body.l3, ix_of hj, Option.bind_some]
    by_cases hi : k < row.length
    · obtain ⟨v, hx, ex⟩ := getE hi
      have hvv := hv v (List.mem_of_getElem? hx)
      have := valS_len hvv
      rw [if_pos (dlt hi), Option.bind_some, ix_of hx, Option.bind_some, rPut_eq (by simp), Option.bind_some]
      unfold putS
      rw [if_pos hvv]
      simp only [List.nil_append]
      rw [apd_of (by simp; omega), Option.bind_some, w64_nat k (by omega), rBody_l3 hj hv hr fuel (k + 1) _ (by omega) (by omega) (by simp; omega), ex]
      simp [rowB]
    · rw [if_neg (dnl (by omega)), List.drop_of_length_le (by omega)]; simp [rowB]
theorem rBody_l2 {t : api_Table} (h : Good t) : ∀ (fuel i : Nat) (acc : List Int), i ≤ t.Rows.length → t.Rows.length < i + fuel → acc.length + 1040 * (t.Rows.length - i) ≤ 9000000 →
    ref04_body.l2 t fuel acc (i : Int) = some (acc ++ (t.Rows.drop i).flatMap rowB)
  | 0, i, acc, _, hf, _ => by omega
  | fuel + 1, i, acc, h1, h2, h3 => by
    have hlen := h.len
    rw [ref04_body.l2]
    by_cases hi : i < t.Rows.length
    · obtain ⟨row, hx, ex⟩ := getE hi
      have hrow := h.rows row (List.mem_of_getElem? hx)
      have hc := (colsS_col h.cols).1
      have hrl := rowOk_len hrow
      have hb := rowB_len hrow hc
      have := rBody_l3 (kl := ref04_body.l2 t fuel) (t := t) hx (rowOk_valid hrow) (by omega) (((row.length : Int) - 0).toNat + 1) 0 acc (by omega) (by omega) (by omega)
      rw [if_pos (dlt hi), ix_of hx, Option.getD_some]
      refine Eq.trans this ?_
      rw [List.drop_zero, w64_nat i (by omega), rBody_l2 h fuel (i + 1) _ (by omega) (by omega) (by simp; omega), ex]
      simp
    · rw [if_neg (dnl (by omega)), List.drop_of_length_le (by omega), List.flatMap_nil, List.append_nil]
theorem rBody_l0 {t : api_Table} (h : Good t) : ∀ (fuel i : Nat) (acc : List Int), i ≤ t.Cols.length → t.Cols.length < i + fuel → acc.length + 26 * (t.Cols.length - i) ≤ 1000 →
    ref04_body.l0 t fuel acc (i : Int) = some (acc ++ ((t.Cols.drop i).flatMap colB ++ (bigS t.Rows.length 2 ++ t.Rows.flatMap rowB)))
  | 0, i, acc, _, hf, _ => by omega
  | fuel + 1, i, acc, h1, h2, h3 => by
    obtain ⟨hc16, hcc⟩ := colsS_col h.cols
    have hlen := h.len
    rw [ref04_body.l0]
    by_cases hi : i < t.Cols.length
    · obtain ⟨c, hx, ex⟩ := getE hi
      obtain ⟨c1, c2, c3⟩ := hcc c (List.mem_of_getElem? hx)
      have hsl := sbytes_len c.Name
      unfold ref04_body.j1
      rw [if_pos (dlt hi), ix_of hx, Option.bind_some, Option.bind_some, sz1 _ (by omega), apd_of (by simp; omega), Option.bind_some, apd_of (by simp; omega), Option.bind_some, Option.bind_some, kind_b c2 c3, apd_of (by simp; omega), Option.bind_some, w64_nat i (by omega), rBody_l0 h fuel (i + 1) _ (by omega) (by omega) (by simp; omega), ex]
      simp [colB]
    · have e2 : ref04_big acc (t.Rows.length : Int) 2 = some (acc ++ bigS t.Rows.length 2) := ref04_big_eq acc _ (k := 2) (by omega) (by omega)
      have := rBody_l2 h (((t.Rows.length : Int) - 0).toNat + 1) 0 (acc ++ bigS t.Rows.length 2) (by omega) (by omega) (by simp [bigS_len]; omega)
      rw [if_neg (dnl (by omega)), e2, Option.bind_some]
      refine Eq.trans this ?_
      rw [List.drop_zero, List.drop_of_length_le (by omega)]
      simp
theorem rEnc_fin {x : List Int} (h : x.length ≤ 10000000) : ((ref04_big ([] : List Int) (x.length : Int) 4).bind fun y_411 => ((apd 1 y_411 x).bind fun y_422 => ((ref03_Sum x).bind fun y_428 => ((ref04_big y_422 (IntKind.i64.wrap y_428) 4).bind fun y_430 => some (y_430, (0 : Int)))))) = some (encB x, 0) := by
  have e1 : ref04_big ([] : List Int) (x.length : Int) 4 = some ([] ++ bigS x.length 4) := ref04_big_eq [] _ (k := 4) (by omega) (by simp)
  have e2 : ∀ b n, b.length ≤ 20000000 → ref04_big b n 4 = some (b ++ bigS n 4) := fun b n hb => ref04_big_eq b n (k := 4) (by omega) (by omega)
  rw [e1, Option.bind_some, List.nil_append, apd_of (by simp [bigS_len]; omega), Option.bind_some, ref_sum_eq x (by omega), Option.bind_some, more_w, e2 _ _ (by simp [bigS_len]; omega), Option.bind_some, List.append_assoc]
  rfl
theorem rEnc_eq {t : api_Table} (hc : okCols t.Cols) (hr : okRows t.Rows) : ref04_Encode t = some (encR t) := by
  unfold ref04_Encode encR
  rw [rcheck_eq hc hr, Option.bind_some]
  by_cases h : checkS t = 0
  · rw [if_neg (by simp [h]), if_pos h]
    by_cases hl : t.Rows.length ≤ 4096
    · obtain ⟨a, b⟩ := checkS_zero.1 h
      have hg : Good t := ⟨a, b, hl⟩
      have h16 := (colsS_col a).1
      have h0 := rBody_l0 hg (((t.Cols.length : Int) - 0).toNat + 1) 0 [(t.Cols.length : Int)] (by omega) (by omega) (by simp; omega)
      have hb : ref04_body t = some (bodyS t) := by
        unfold ref04_body
        rw [sz1 _ (by omega)]
        exact h0
      rw [if_neg (by simp; omega), if_pos hl, hb, Option.bind_some]
      have := hg.bodyL
      exact rEnc_fin (by omega)
    · rw [if_pos (by simp; omega), if_neg hl]
  · rw [if_pos (by simpa using h), if_neg h]
/-! reading -/
theorem tk_win {b : List Int} (hb : Byts b) {k : Int} : (∀ v r, takeS k b = some (v, r) → takeS k (b.take 66) = some (v, r.take (66 - (valS v).length)) ∧ (valS v).length ≤ 65 ∧ b.length = (valS v).length + r.length) ∧ (takeS k b = none → takeS k (b.take 66) = none) := by
  constructor
  · intro v r h
    obtain ⟨h1, h2, h3, h4⟩ := put_take hb h
    have hl := valS_len h2
    refine ⟨?_, hl, by rw [h4]; simp⟩
    have e : b.take 66 = valS v ++ r.take (66 - (valS v).length) := by
      rw [h4, List.take_append, List.take_of_length_le (by omega)]
    rw [e, ← h1]
    exact take_put h2 h3 _
  · intro h
    cases h' : takeS k (b.take 66) with
    | none => rfl
    | some p =>
      obtain ⟨v, r⟩ := p
      obtain ⟨h1, h2, h3, h4⟩ := put_take (hb.take 66) h'
      have e : b = valS v ++ (r ++ b.drop 66) := by rw [← List.append_assoc, ← h4, List.take_append_drop]
      have := take_put h2 h3 (r ++ b.drop 66)
      rw [← e, h1, h] at this
      cases this
theorem rDec_l5 {kl : List (List api_Value) → Int → Int → Option (api_Table × Int)} {x : List Int} {cols : List api_Col} {y : Int} {rows : List (List api_Value)} {j : Int} (hx : Byts x) (hxl : x.length ≤ 140737488355328) (hk : ∀ c ∈ cols, 1 ≤ c.Kind ∧ c.Kind ≤ 4) (hcl : cols.length ≤ 256) (hrl : rows.length ≤ 65536) :
    ∀ (fuel i at_ : Nat) (acc : List api_Value), i ≤ cols.length → cols.length < i + fuel → at_ ≤ x.length → acc.length = i →
    ref04_Decode.l5 kl x cols y rows j fuel (at_ : Int) acc (i : Int) = (match rowP (cols.drop i) (x.drop at_) with
      | none => some errD
      | some (vs, r) => kl (rows ++ [acc ++ vs]) ((x.length : Int) - r.length) (IntKind.i64.wrap (j + 1)))
  | 0, i, at_, acc, _, h, _, _ => by omega
  | fuel + 1, i, at_, acc, h1, h2, hat, ha => by
    rw [ref04_Decode.l5]
    by_cases hi : i < cols.length
    · obtain ⟨c, hc, ex⟩ := getE hi
      obtain ⟨k1, k4⟩ := hk c (List.mem_of_getElem? hc)
      have e66 : IntKind.i64.wrap ((at_ : Int) + 66) = (at_ : Int) + 66 := w64 (by omega) (by omega)
      have ew : List.take ((min (x.length : Int) ((at_ : Int) + 66)).toNat - (at_ : Int).toNat) (x.drop (at_ : Int).toNat) = (x.drop at_).take 66 := by
        rw [Int.toNat_natCast]
        by_cases h66 : (x.length : Int) ≤ (at_ : Int) + 66
        · rw [Int.min_eq_left h66, List.take_of_length_le (by simp <;> omega), List.take_of_length_le (by simp <;> omega)]
        · rw [Int.min_eq_right (by omega), show ((at_ : Int) + 66).toNat - at_ = 66 by omega]
      rw [if_pos (dlt hi), e66, cut_of (by omega) (by omega) (by omega), Option.bind_some, ew, ix_of hc, Option.bind_some, rTake_eq ((hx.drop at_).take 66) (by simp; omega), Option.bind_some, ex, rowP]
      unfold tkS
      rw [if_pos ⟨k1, k4⟩]
      obtain ⟨w1, w2⟩ := tk_win (hx.drop at_) (k := c.Kind)
      cases ht : takeS c.Kind (x.drop at_) with
      | none => rw [w2 ht]; rfl
      | some p =>
        obtain ⟨v, r⟩ := p
        obtain ⟨a1, a2, a3⟩ := w1 v r ht
        have hbr : x.drop at_ = valS v ++ r := (put_take (hx.drop at_) ht).2.2.2
        rw [a1]
        simp only
        unfold ref04_Decode.j6
        have hl : (x.drop at_).length = x.length - at_ := by simp
        have hat2 : min (x.length : Int) ((at_ : Int) + 66) - ((r.take (66 - (valS v).length)).length : Int) = ((x.length - r.length : Nat) : Int) := by
          rw [List.length_take]
          omega
        rw [if_neg (by decide), apd_of (by simp; omega), Option.bind_some, e66, hat2, w64 (by omega) (by omega), w64_nat i (by omega)]
        have := rDec_l5 (kl := kl) (y := y) (rows := rows) (j := j) hx hxl hk hcl hrl fuel (i + 1) (x.length - r.length) (acc ++ [v]) (by omega) (by omega) (by omega) (by simp; omega)
        refine Eq.trans this ?_
        have hdr : x.drop (x.length - r.length) = r := by
          rw [show x.length - r.length = at_ + (valS v).length by omega, ← List.drop_drop, hbr, List.drop_append_of_le_length (Nat.le_refl _), List.drop_of_length_le (Nat.le_refl _), List.nil_append]
        rw [hdr]
        cases rowP (cols.drop (i + 1)) r with
        | none => rfl
        | some q => simp
    · have hl : (x.drop at_).length = x.length - at_ := by simp
      rw [if_neg (dnl (by omega)), List.drop_of_length_le (by omega), apd_of (by simp; omega), Option.bind_some]
      simp only [rowP, List.append_nil, hl]
      rw [show ((x.length : Int) - ((x.length - at_ : Nat) : Int)) = (at_ : Int) by omega]
def finR (b : List Int) (t : api_Table) : api_Table × Int := if encR t = (b, 0) then (t, 0) else errD
theorem byts_encR {t : api_Table} : Byts (encR t).1 := by
  unfold encR
  split
  · rename_i h
    split
    · rename_i h2
      obtain ⟨a, b⟩ := checkS_zero.1 h
      exact byts_encB (Good.bodyB ⟨a, b, h2⟩)
    · intro x hx; cases hx
  · intro x hx; cases hx
theorem rDec_fin {b : List Int} (hb : Byts b) {cols : List api_Col} {rows : List (List api_Value)} (hc : okCols cols) (hr : okRows rows) : ((ref04_Encode (⟨cols, rows⟩ : api_Table)).bind fun y_1784 => (if (y_1784.2 != 0) = true then (ref04_Decode.j7 cols rows true) else (ref04_Decode.j7 cols rows (!((bstr y_1784.1).toList == (bstr b).toList))))) = some (finR b ⟨cols, rows⟩) := by
  rw [rEnc_eq hc hr, Option.bind_some]
  unfold finR ref04_Decode.j7
  rw [bstr_beq byts_encR hb]
  generalize encR ⟨cols, rows⟩ = p
  obtain ⟨p1, p2⟩ := p
  by_cases h2 : p2 = 0
  · subst h2
    rw [if_neg (by simp)]
    by_cases h1 : p1 = b
    · subst h1; simp
    · rw [if_pos (by simp [h1]), if_neg (by simp [h1])]; rfl
  · rw [if_pos (by simpa using h2), if_pos rfl, if_neg (by simp [h2])]; rfl
theorem rDec_l4 {b x : List Int} {cols : List api_Col} {n : Nat} (hb : Byts b) (hn : n ≤ 65536) (hx : Byts x) (hxl : x.length ≤ 140737488355328) (hk : ∀ c ∈ cols, 1 ≤ c.Kind ∧ c.Kind ≤ 4) (hcl : cols.length ≤ 256) (hco : okCols cols) :
    ∀ (d i fuel at_ : Nat) (rows : List (List api_Value)), i + d = n → d < fuel → at_ ≤ x.length → rows.length = i → (∀ r ∈ rows, r.length ≤ 256) →
    ref04_Decode.l4 b x cols (n : Int) fuel rows (at_ : Int) (i : Int) = (match rowsP cols d (x.drop at_) with
      | none => some errD
      | some (rs, q) => some (finR b ⟨cols, rows ++ rs⟩))
  | 0, i, fuel + 1, at_, rows, h1, h2, hat, hr, hro => by
    rw [ref04_Decode.l4, if_neg (by simp; omega), rDec_fin hb hco ⟨by omega, fun r h => by have := hro r h; omega⟩]
    simp [rowsP]
  | d + 1, i, fuel + 1, at_, rows, h1, h2, hat, hr, hro => by
    rw [ref04_Decode.l4, if_pos (by simp; omega)]
    have := rDec_l5 (kl := ref04_Decode.l4 b x cols (n : Int) fuel) (y := (n : Int)) (rows := rows) (j := (i : Int)) hx hxl hk hcl (by omega) (((cols.length : Int) - 0).toNat + 1) 0 at_ [] (by omega) (by omega) hat rfl
    refine Eq.trans this ?_
    rw [List.drop_zero, rowsP]
    cases hp : rowP cols (x.drop at_) with
    | none => rfl
    | some p =>
      obtain ⟨vs, r⟩ := p
      obtain ⟨h4, h5, h3⟩ := rowP_dec cols _ vs r (hx.drop at_) hp
      have hl : (x.drop at_).length = x.length - at_ := by simp
      have hl2 : x.length - at_ = (rowB vs).length + r.length := by rw [← hl, h3]; simp
      have hdr : x.drop (x.length - r.length) = r := by
        rw [show x.length - r.length = at_ + (rowB vs).length by omega, ← List.drop_drop, h3, List.drop_append_of_le_length (Nat.le_refl _), List.drop_of_length_le (Nat.le_refl _), List.nil_append]
      simp only [List.nil_append]
      rw [show (x.length : Int) - (r.length : Int) = ((x.length - r.length : Nat) : Int) by omega, w64_nat i (by omega), rDec_l4 hb hn hx hxl hk hcl hco d (i + 1) fuel (x.length - r.length) _ (by omega) (by omega) (by omega) (by simp; omega) (fun s hs => by
        rcases List.mem_append.1 hs with hs | hs
        · exact hro s hs
        · simp only [List.mem_singleton] at hs
          subst hs
          rw [rowOk_len h4]; exact hcl), hdr]
      cases rowsP cols d r with
      | none => rfl
      | some q => simp
def aftR (b x : List Int) (cs : List api_Col) (r1 : List Int) : api_Table × Int := if colsS cs = true then (if 2 ≤ r1.length then (match rowsP cs (smallS (r1.take 2)).toNat (r1.drop 2) with
      | none => errD
      | some (rows, _) => finR b ⟨cs, rows⟩) else errD) else errD
theorem rDec_after {b x : List Int} {cs : List api_Col} {at_ : Nat} (hb : Byts b) (hx : Byts x) (hxl : x.length ≤ 140737488355328) (hcl : cs.length ≤ 256) (hn : ∀ c ∈ cs, c.Name.size < 256) (hat : at_ ≤ x.length) :
    (if (decide ((IntKind.i64.wrap ((at_ : Int) + 2)) > (x.length : Int))) = true then (ref04_Decode.j3 b x cs (at_ : Int) true) else ((ref02_Cols cs).bind fun y_326 => (ref04_Decode.j3 b x cs (at_ : Int) (!y_326)))) = some (aftR b x cs (x.drop at_)) := by
  have hl : (x.drop at_).length = x.length - at_ := by simp
  rw [w64 (by omega) (by omega)]
  unfold aftR ref04_Decode.j3
  by_cases h2 : at_ + 2 ≤ x.length
  · rw [if_neg (by simp; omega), rcols_eq (okCols_of hcl hn), Option.bind_some]
    by_cases h : colsS cs = true
    · have hs := small_range ((hx.drop at_).take 2) (by simp; omega)
      rw [show ((x.drop at_).take 2).length = 2 by simp; omega, show pw 2 = 65536 by decide] at hs
      have e2 : (at_ : Int) + 2 = ((at_ + 2 : Nat) : Int) := by omega
      have ed : List.take (((at_ : Int) + 2).toNat - (at_ : Int).toNat) (x.drop (at_ : Int).toNat) = (x.drop at_).take 2 := by rw [Int.toNat_natCast]; congr 1; omega
      rw [if_neg (by simp [h]), if_pos h, if_pos (by omega), w64 (by omega) (by omega), cut_of (by omega) (by omega) (by omega), Option.bind_some, ed, ref04_small_eq (by simp; omega), Option.bind_some]
      have := rDec_l4 (b := b) (x := x) (cols := cs) (n := (smallS ((x.drop at_).take 2)).toNat) hb (by omega) hx hxl (fun c hc => ((colsS_col h).2 c hc).2) hcl (okCols_of hcl hn) _ 0 (((smallS ((x.drop at_).take 2)) - 0).toNat + 1) (at_ + 2) [] (Nat.zero_add _) (by omega) (by omega) rfl (fun r hr => by cases hr)
      rw [show (((smallS ((x.drop at_).take 2)).toNat : Nat) : Int) = smallS ((x.drop at_).take 2) by omega] at this
      rw [e2]
      refine Eq.trans this ?_
      rw [List.drop_drop]
      cases rowsP cs (smallS ((x.drop at_).take 2)).toNat (x.drop (at_ + 2)) with
      | none => rfl
      | some q => simp
    · rw [if_pos (by simp [h]), if_neg h]; rfl
  · rw [if_pos (by simp; omega), if_pos rfl]
    by_cases h : colsS cs = true
    · rw [if_pos h, if_neg (by omega)]; rfl
    · rw [if_neg h]; rfl
theorem rDec_l1 {b x : List Int} {c0 : Int} {r0 : List Int} (he : x = c0 :: r0) (hb : Byts b) (hx : Byts x) (hxl : x.length ≤ 140737488355328) :
    ∀ (d i fuel at_ : Nat) (cols : List api_Col), i + d = c0.toNat → d < fuel → at_ ≤ x.length → cols.length = i → (∀ c ∈ cols, c.Name.size < 256) →
    ref04_Decode.l1 b x fuel cols (at_ : Int) (i : Int) = (match colsP d (x.drop at_) with
      | none => some errD
      | some (cs, r) => some (aftR b x (cols ++ cs) r))
  | 0, i, fuel + 1, at_, cols, h1, h2, hat, hc, hnm => by
    have h0 : x[0]? = some c0 := by rw [he]; rfl
    have hc0 : 0 ≤ c0 ∧ c0 < 256 := hx c0 (by rw [he]; exact List.mem_cons_self ..)
    have hix : ix x 0 = some c0 := ix_of (i := 0) h0
    rw [ref04_Decode.l1, hix, Option.bind_some, w64 (x := c0) (by omega) (by omega), if_neg (by simp; omega), rDec_after hb hx hxl (by omega) hnm hat]
    simp [colsP]
  | d + 1, i, fuel + 1, at_, cols, h1, h2, hat, hc, hnm => by
    have h0 : x[0]? = some c0 := by rw [he]; rfl
    have hc0 : 0 ≤ c0 ∧ c0 < 256 := hx c0 (by rw [he]; exact List.mem_cons_self ..)
    have hix : ix x 0 = some c0 := ix_of (i := 0) h0
    rw [ref04_Decode.l1, hix, Option.bind_some, w64 (x := c0) (by omega) (by omega), if_pos (by simp; omega)]
    unfold ref04_Decode.j2
    by_cases ha : at_ < x.length
    · obtain ⟨c, hcx, ex⟩ := getE ha
      have hcr : 0 ≤ c ∧ c < 256 := hx c (List.mem_of_getElem? hcx)
      rw [if_neg (by simp; omega), ix_of hcx, Option.bind_some, ex, colsP]
      have e1 : IntKind.i64.wrap ((at_ : Int) + 1) = (at_ : Int) + 1 := w64 (by omega) (by omega)
      have e2 : IntKind.i64.wrap c = c := w64 (by omega) (by omega)
      have e3 : IntKind.i64.wrap ((at_ : Int) + 1 + c) = ((at_ + 1 + c.toNat : Nat) : Int) := by rw [w64 (by omega) (by omega)]; omega
      have e4 : IntKind.i64.wrap ((at_ : Int) + c) = (at_ : Int) + c := w64 (by omega) (by omega)
      have e5 : IntKind.i64.wrap ((at_ : Int) + c + 2) = ((at_ + 1 + c.toNat + 1 : Nat) : Int) := by rw [w64 (by omega) (by omega)]; omega
      rw [e1, e2, e3, List.drop_drop]
      by_cases hk : at_ + 1 + c.toNat < x.length
      · obtain ⟨k, hkx, ek⟩ := getE hk
        have hkr : 0 ≤ k ∧ k < 256 := hx k (List.mem_of_getElem? hkx)
        have ec : List.take (((at_ + 1 + c.toNat : Nat) : Int).toNat - ((at_ : Int) + 1).toNat) (x.drop ((at_ : Int) + 1).toNat) = (x.drop (at_ + 1)).take c.toNat := by
          rw [show ((at_ : Int) + 1).toNat = at_ + 1 by omega]; congr 1; omega
        rw [if_neg (by simp; omega), Option.bind_some, e2, e3, cut_of (by omega) (by omega) (by omega), Option.bind_some, ix_of hkx, Option.bind_some, ec, apd_of (by simp; omega), Option.bind_some, w64 (x := k) (by omega) (by omega), e4, e5, w64_nat i (by omega), ek]
        simp only
        rw [rDec_l1 he hb hx hxl d (i + 1) fuel (at_ + 1 + c.toNat + 1) _ (by omega) (by omega) (by omega) (by simp; omega) (fun y hy => by
          rcases List.mem_append.1 hy with hy | hy
          · exact hnm y hy
          · simp only [List.mem_singleton] at hy
            subst hy
            simp only [bstr_size]; simp; omega)]
        cases colsP d (x.drop (at_ + 1 + c.toNat + 1)) with
        | none => rfl
        | some q => simp
      · rw [if_pos (by simp; omega), List.drop_of_length_le (by omega)]; rfl
    · rw [if_pos (by simp; omega), if_pos rfl, List.drop_of_length_le (by omega)]; rfl
def refS (b : List Int) : api_Table × Int := if 9 ≤ b.length ∧ smallS (b.take 4) + 8 = b.length then (match rawP ((b.drop 4).take (b.length - 8)) with
  | none => errD
  | some (t, _) => finR b t) else errD
theorem aft_raw (b x : List Int) : (match x with
    | [] => errD
    | c :: r => match colsP c.toNat r with
      | none => errD
      | some (cs, r1) => aftR b x cs r1) = (match rawP x with
    | none => errD
    | some (t, _) => finR b t) := by
  unfold rawP
  cases x with
  | nil => rfl
  | cons c r =>
    simp only
    cases colsP c.toNat r with
    | none => rfl
    | some p =>
      obtain ⟨cs, r1⟩ := p
      simp only
      unfold aftR
      by_cases h : colsS cs = true
      · rw [if_pos h, if_pos h]
        by_cases h2 : 2 ≤ r1.length
        · rw [if_pos h2, if_pos h2]
          cases rowsP cs (smallS (r1.take 2)).toNat (r1.drop 2) with
          | none => rfl
          | some q => rfl
        · rw [if_neg h2, if_neg h2]
      · rw [if_neg h, if_neg h]
theorem rDec_eq0 {b : List Int} (hb : Byts b) (hl : b.length ≤ 140737488355328) : ref04_Decode b = some (refS b) := by
  unfold ref04_Decode refS ref04_Decode.j0
  by_cases h9 : 9 ≤ b.length
  · have ec : List.take ((4 : Int).toNat - (0 : Int).toNat) (b.drop (0 : Int).toNat) = b.take 4 := by simp
    rw [if_neg (by simp; omega), cut_of (by omega) (by omega) (by omega), Option.bind_some, ec, ref04_small_eq (by simp; omega), Option.bind_some, w64 (x := (b.length : Int) - 8) (by omega) (by omega), w64 (x := (b.length : Int) - 4) (by omega) (by omega)]
    by_cases he : smallS (b.take 4) + 8 = b.length
    · have ex : List.take (((b.length : Int) - 4).toNat - (4 : Int).toNat) (b.drop (4 : Int).toNat) = (b.drop 4).take (b.length - 8) := by
        rw [show (4 : Int).toNat = 4 from rfl]; congr 1; omega
      rw [if_neg (by simp; omega), cut_of (by omega) (by omega) (by omega), Option.bind_some, ex, if_pos ⟨h9, he⟩, ← aft_raw]
      have hbx : Byts ((b.drop 4).take (b.length - 8)) := (hb.drop 4).take _
      have hlx : ((b.drop 4).take (b.length - 8)).length = b.length - 8 := by simp; omega
      generalize (b.drop 4).take (b.length - 8) = x at hbx hlx
      cases x with
      | nil => simp at hlx; omega
      | cons c r =>
        have hcr : 0 ≤ c ∧ c < 256 := hbx c (List.mem_cons_self ..)
        have hix : ix (c :: r) 0 = some c := ix_of (i := 0) rfl
        rw [hix, Option.getD_some, w64 (x := c) (by omega) (by omega)]
        have := rDec_l1 (b := b) (x := c :: r) rfl hb hbx (by omega) c.toNat 0 ((c - 0).toNat + 1) 1 [] (Nat.zero_add _) (by omega) (by simp) rfl (fun x hx => by cases hx)
        refine Eq.trans this ?_
        rw [show (c :: r).drop 1 = r from rfl]
        simp only
        cases colsP c.toNat r with
        | none => rfl
        | some q => simp
    · rw [if_pos (by simp; omega), if_neg (by omega)]; rfl
  · rw [if_pos (by simp; omega), if_pos rfl, if_neg (by omega)]; rfl
theorem refS_eq {b : List Int} (hb : Byts b) : refS b = outS (decS b) := by
  cases hd : decS b with
  | some t =>
    obtain ⟨hg, hw, he⟩ := enc_dec hb hd
    have hl := hg.bodyL
    obtain ⟨f1, f2⟩ := frame_enc (x := bodyS t) (by omega)
    have hbl : b.length = (bodyS t).length + 8 := by rw [he]; exact encB_len _
    unfold frame at f1
    rw [show encB (bodyS t) = b from he.symm] at f1
    split at f1
    · rename_i h1
      have f1 := Option.some.inj f1
      unfold refS
      rw [if_pos ⟨by omega, h1.2⟩, f1, rawP_enc hg hw]
      simp only
      unfold finR
      rw [if_pos (by rw [encR_ok hg, ← he])]
      rfl
    · cases f1
  | none =>
    unfold refS
    by_cases h1 : 9 ≤ b.length ∧ smallS (b.take 4) + 8 = b.length
    · rw [if_pos h1]
      have hbx : Byts ((b.drop 4).take (b.length - 8)) := (hb.drop 4).take _
      cases hr : rawP ((b.drop 4).take (b.length - 8)) with
      | none => rfl
      | some p =>
        obtain ⟨t, q⟩ := p
        simp only
        unfold finR
        by_cases he : encR t = (b, 0)
        · exfalso
          have hg : Good t := encR_zero (by rw [he])
          have hw := (rawP_dec hbx hr).2.2.1
          rw [encR_ok hg] at he
          have he := (Prod.mk.inj he).1
          have := dec_enc hg hw
          rw [he, hd] at this
          cases this
        · rw [if_neg he]; rfl
    · rw [if_neg h1]; rfl
theorem rDec_eq {b : List Int} (hb : Byts b) (hl : b.length ≤ 140737488355328) : ref04_Decode b = some (outS (decS b)) := by rw [rDec_eq0 hb hl, refS_eq hb]
end Go.Proofs.Ytifijboegibchaa.M
