/- Wire: what the program answers: tables. -/
import Derived.Test.YtifijboegibchaaPure
import Derived.Test.YtifijboegibchaaPLWp
import Derived.Test.YtifijboegibchaaPLWt
namespace Go.Proofs.Ytifijboegibchaa.M
open Go Go.Eng Go.Proofs Go.RowKit
set_option maxRecDepth 100000
set_option linter.unusedVariables false
set_option linter.unusedSimpArgs false

def encR (t : api_Table) : List Int × Int := if checkS t = 0 then (if t.Rows.length ≤ 4096 then (encS t, 0) else ([], 2)) else ([], checkS t)
theorem encR_ok {t : api_Table} (h : Good t) : encR t = (encS t, 0) := by unfold encR; rw [if_pos (checkS_zero.2 ⟨h.cols, h.rows⟩), if_pos h.len]
theorem encR_zero {t : api_Table} (h : (encR t).2 = 0) : Good t := by
  unfold encR at h
  split at h
  · rename_i h1
    split at h
    · rename_i h2
      obtain ⟨a, b⟩ := checkS_zero.1 h1
      exact ⟨a, b, h2⟩
    · cases h
  · contradiction
theorem more_w (x : List Int) : IntKind.i64.wrap (more 0 x) = more 0 x := by have := more_in 0 x; unfold In32 at this; exact w64 (by omega) (by omega)
theorem kind_b {k : Int} (h1 : 1 ≤ k) (h4 : k ≤ 4) : IntKind.u8.wrap k = k := by rw [u8w]; omega
theorem wEnc_l2 {kl : List Int → Int → Option (List Int × Int)} {t : api_Table} {j : Int} {row : List api_Value} (hv : ∀ v ∈ row, validS v = true) (hr : row.length < 4611686018427387904) : ∀ (fuel k : Nat) (acc : List Int), k ≤ row.length → row.length < k + fuel → acc.length + 65 * (row.length - k) ≤ 10000000 →
    wire_Encode.l2 kl t j row fuel acc (k : Int) = kl (acc ++ rowB (row.drop k)) (IntKind.i64.wrap (j + 1))
  | 0, k, acc, _, h, _ => by omega
  | fuel + 1, k, acc, h1, h2, h3 => by
    rw [wire_Encode.l2]
    by_cases hi : k < row.length
    · obtain ⟨v, hx, ex⟩ := getE hi
      have hvv := hv v (List.mem_of_getElem? hx)
      have := valS_len hvv
      rw [if_pos (dlt hi), ix_of hx, Option.bind_some, wput_eq hvv (by omega), Option.bind_some, w64_nat k (by omega), wEnc_l2 hv hr fuel (k + 1) _ (by omega) (by omega) (by simp; omega), ex]
      simp [rowB]
    · rw [if_neg (dnl (by omega)), List.drop_of_length_le (by omega)]; simp [rowB]
theorem wEnc_fin {x : List Int} (h : x.length ≤ 10000000) : ((wire_big ([] : List Int) (x.length : Int) 4).bind fun y_411 => ((apd 1 y_411 x).bind fun y_422 => ((crc_Sum x).bind fun y_428 => ((wire_big y_422 (IntKind.i64.wrap y_428) 4).bind fun y_430 => some (y_430, (0 : Int)))))) = some (encB x, 0) := by
  have e1 : wire_big ([] : List Int) (x.length : Int) 4 = some ([] ++ bigS x.length 4) := wire_big_eq [] _ (k := 4) (by omega) (by simp)
  have e2 : ∀ b n, b.length ≤ 20000000 → wire_big b n 4 = some (b ++ bigS n 4) := fun b n hb => wire_big_eq b n (k := 4) (by omega) (by omega)
  rw [e1, Option.bind_some, List.nil_append, apd_of (by simp [bigS_len]; omega), Option.bind_some, sum_eq x (by omega), Option.bind_some, more_w, e2 _ _ (by simp [bigS_len]; omega), Option.bind_some, List.append_assoc]
  rfl
theorem wEnc_l1 {t : api_Table} (h : Good t) : ∀ (fuel i : Nat) (acc : List Int), i ≤ t.Rows.length → t.Rows.length < i + fuel → acc.length + 1040 * (t.Rows.length - i) ≤ 9000000 →
    wire_Encode.l1 t fuel acc (i : Int) = some (encB (acc ++ (t.Rows.drop i).flatMap rowB), 0)
  | 0, i, acc, _, hf, _ => by omega
  | fuel + 1, i, acc, h1, h2, h3 => by
    have hlen := h.len
    rw [wire_Encode.l1]
    by_cases hi : i < t.Rows.length
    · obtain ⟨row, hx, ex⟩ := getE hi
      have hrow := h.rows row (List.mem_of_getElem? hx)
      have hc := (colsS_col h.cols).1
      have hrl := rowOk_len hrow
      have hb := rowB_len hrow hc
      have := wEnc_l2 (kl := wire_Encode.l1 t fuel) (t := t) (j := (i : Int)) (rowOk_valid hrow) (by omega) (((row.length : Int) - 0).toNat + 1) 0 acc (by omega) (by omega) (by omega)
      rw [if_pos (dlt hi), ix_of hx, Option.bind_some]
      refine Eq.trans this ?_
      rw [List.drop_zero, w64_nat i (by omega), wEnc_l1 h fuel (i + 1) _ (by omega) (by omega) (by simp; omega), ex]
      simp
    · rw [if_neg (dnl (by omega)), List.drop_of_length_le (by omega), List.flatMap_nil, List.append_nil]
      exact wEnc_fin (by omega)
theorem wEnc_l0 {t : api_Table} (h : Good t) : ∀ (fuel i : Nat) (acc : List Int), i ≤ t.Cols.length → t.Cols.length < i + fuel → acc.length + 26 * (t.Cols.length - i) ≤ 1000 →
    wire_Encode.l0 t fuel acc (i : Int) = some (encB (acc ++ ((t.Cols.drop i).flatMap colB ++ (bigS t.Rows.length 2 ++ t.Rows.flatMap rowB))), 0)
  | 0, i, acc, _, hf, _ => by omega
  | fuel + 1, i, acc, h1, h2, h3 => by
    obtain ⟨hc16, hcc⟩ := colsS_col h.cols
    have hlen := h.len
    rw [wire_Encode.l0]
    by_cases hi : i < t.Cols.length
    · obtain ⟨c, hx, ex⟩ := getE hi
      obtain ⟨c1, c2, c3⟩ := hcc c (List.mem_of_getElem? hx)
      have hsl := sbytes_len c.Name
      rw [if_pos (dlt hi), ix_of hx, Option.bind_some, sz1 _ (by omega), apd_of (by simp; omega), Option.bind_some, apd_of (by simp; omega), Option.bind_some, kind_b c2 c3, apd_of (by simp; omega), Option.bind_some, w64_nat i (by omega), wEnc_l0 h fuel (i + 1) _ (by omega) (by omega) (by simp; omega), ex]
      simp [colB]
    · have e2 : wire_big acc (t.Rows.length : Int) 2 = some (acc ++ bigS t.Rows.length 2) := wire_big_eq acc _ (k := 2) (by omega) (by omega)
      have := wEnc_l1 h (((t.Rows.length : Int) - 0).toNat + 1) 0 (acc ++ bigS t.Rows.length 2) (by omega) (by omega) (by simp [bigS_len]; omega)
      rw [if_neg (dnl (by omega)), e2, Option.bind_some]
      refine Eq.trans this ?_
      rw [List.drop_zero, List.drop_of_length_le (by omega)]
      simp
theorem wEnc_eq {t : api_Table} (hc : okCols t.Cols) (hr : okRows t.Rows) : wire_Encode t = some (encR t) := by
  unfold wire_Encode encR
  rw [check_eq hc hr, Option.bind_some]
  by_cases h : checkS t = 0
  · rw [if_neg (by simp [h]), if_pos h]
    by_cases hl : t.Rows.length ≤ 4096
    · obtain ⟨a, b⟩ := checkS_zero.1 h
      have hg : Good t := ⟨a, b, hl⟩
      have h16 := (colsS_col a).1
      have := wEnc_l0 hg (((t.Cols.length : Int) - 0).toNat + 1) 0 [(t.Cols.length : Int)] (by omega) (by omega) (by simp; omega)
      rw [if_neg (by simp; omega), if_pos hl, sz1 _ (by omega)]
      refine Eq.trans this ?_
      rfl
    · rw [if_pos (by simp; omega), if_neg hl]
  · rw [if_pos (by simpa using h), if_neg h]
/-! reading -/
def errD : api_Table × Int := (⟨[], []⟩, 40)
def outS (o : Option api_Table) : api_Table × Int := match o with
  | some t => (t, 0)
  | none => errD
theorem wDec_l2 {kl : List (List api_Value) → List Int → Int → Option (api_Table × Int)} {cols : List api_Col} {y : Int × wire_reader} {rows : List (List api_Value)} {j : Int} (hk : ∀ c ∈ cols, 1 ≤ c.Kind ∧ c.Kind ≤ 4) (hcl : cols.length ≤ 256) (hrl : rows.length ≤ 65536) :
    ∀ (fuel i : Nat) (b : List Int) (acc : List api_Value), i ≤ cols.length → cols.length < i + fuel → Byts b → b.length < 4611686018427387904 → acc.length = i →
    wire_Decode.l2 kl cols y rows j fuel b acc (i : Int) = (match rowP (cols.drop i) b with
      | none => some errD
      | some (vs, r) => kl (rows ++ [acc ++ vs]) r (IntKind.i64.wrap (j + 1)))
  | 0, i, b, acc, _, h, _, _, _ => by omega
  | fuel + 1, i, b, acc, h1, h2, hb, hl, ha => by
    rw [wire_Decode.l2]
    by_cases hi : i < cols.length
    · obtain ⟨c, hx, ex⟩ := getE hi
      obtain ⟨k1, k4⟩ := hk c (List.mem_of_getElem? hx)
      rw [if_pos (dlt hi), ix_of hx, Option.bind_some, wvalue_eq hb hl k1 k4, ex, rowP]
      cases ht : takeS c.Kind b with
      | none => rfl
      | some p =>
        obtain ⟨v, r⟩ := p
        have hbr : Byts r := by
          have := (put_take hb ht).2.2.2
          rw [this] at hb; exact (Byts.append.1 hb).2
        have hrl' := takeS_len ht
        show tc (some (some (v, wire_reader.mk r))) _ _ = _
        rw [tc_ok, apd_of (by simp; omega), Option.bind_some, w64_nat i (by omega)]
        have := wDec_l2 (kl := kl) (y := y) (rows := rows) (j := j) hk hcl hrl fuel (i + 1) r (acc ++ [v]) (by omega) (by omega) hbr (by omega) (by simp; omega)
        refine Eq.trans this ?_
        simp only
        cases rowP (cols.drop (i + 1)) r with
        | none => rfl
        | some q => simp
    · rw [if_neg (dnl (by omega)), List.drop_of_length_le (by omega), apd_of (by simp; omega), Option.bind_some]
      simp [rowP]
def endS (cols : List api_Col) (rows : List (List api_Value)) (q : List Int) : api_Table × Int := if q = [] ∧ rows.length ≤ 4096 then (⟨cols, rows⟩, 0) else errD
theorem wDec_end (cols : List api_Col) (rows : List (List api_Value)) (q : List Int) : (if decide ((q.length : Int) > 0) = true then wire_Decode.j3 cols rows true else wire_Decode.j3 cols rows (decide ((rows.length : Int) > 4096))) = some (endS cols rows q) := by
  unfold endS wire_Decode.j3
  cases q with
  | nil =>
    by_cases h : rows.length ≤ 4096
    · rw [if_neg (by simp), if_neg (by simp; omega), if_pos ⟨rfl, h⟩]
    · rw [if_neg (by simp), if_pos (by simp; omega), if_neg (by simp [h])]; rfl
  | cons c r => rw [if_pos (by simp <;> omega), if_pos rfl, if_neg (by simp)]; rfl
theorem wDec_l1 {cols : List api_Col} {y : Int × wire_reader} {n : Nat} (hy : y.1 = (n : Int)) (hn : n ≤ 65536) (hk : ∀ c ∈ cols, 1 ≤ c.Kind ∧ c.Kind ≤ 4) (hcl : cols.length ≤ 256) :
    ∀ (d i fuel : Nat) (rows : List (List api_Value)) (b : List Int), i + d = n → d < fuel → Byts b → b.length < 4611686018427387904 → rows.length = i →
    wire_Decode.l1 cols y fuel rows b (i : Int) = (match rowsP cols d b with
      | none => some errD
      | some (rs, q) => some (endS cols (rows ++ rs) q))
  | 0, i, fuel + 1, rows, b, h1, h2, hb, hl, hr => by
    rw [wire_Decode.l1, if_neg (by rw [hy]; simp; omega), wDec_end]
    simp [rowsP]
  | d + 1, i, fuel + 1, rows, b, h1, h2, hb, hl, hr => by
    rw [wire_Decode.l1, if_pos (by rw [hy]; simp; omega)]
    have := wDec_l2 (kl := wire_Decode.l1 cols y fuel) (y := y) (rows := rows) (j := (i : Int)) hk hcl (by omega) (((cols.length : Int) - 0).toNat + 1) 0 b [] (by omega) (by omega) hb hl rfl
    refine Eq.trans this ?_
    rw [List.drop_zero, rowsP]
    cases hp : rowP cols b with
    | none => rfl
    | some p =>
      obtain ⟨vs, r⟩ := p
      have h3 := (rowP_dec cols b vs r hb hp).2.2
      have hbr : Byts r := by rw [h3] at hb; exact (Byts.append.1 hb).2
      have hlr : r.length ≤ b.length := by rw [h3]; simp
      simp only
      rw [w64_nat i (by omega), wDec_l1 hy hn hk hcl d (i + 1) fuel _ r (by omega) (by omega) hbr (by omega) (by simp; omega)]
      cases rowsP cols d r with
      | none => rfl
      | some q => simp
theorem okCols_of {cols : List api_Col} (h : cols.length ≤ 256) (hn : ∀ c ∈ cols, c.Name.size < 256) : okCols cols := ⟨by omega, fun c hc => by have := hn c hc; omega⟩
def afterS (cs : List api_Col) (r1 : List Int) : api_Table × Int := if colsS cs = true then (if 2 ≤ r1.length then (match rowsP cs (smallS (r1.take 2)).toNat (r1.drop 2) with
      | none => errD
      | some (rows, q) => endS cs rows q) else errD) else errD
theorem wDec_after {cs : List api_Col} {r1 : List Int} (hcl : cs.length ≤ 256) (hn : ∀ c ∈ cs, c.Name.size < 256) (hb : Byts r1) (hl : r1.length < 4611686018427387904) :
    ((table_Check (⟨cs, []⟩ : api_Table)).bind fun y_306 => (if (y_306 != 0) = true then some ((⟨([] : List api_Col), ([] : List (List api_Value))⟩ : api_Table), 40) else (tc (wire_reader_number (⟨r1⟩ : wire_reader) 2) (some ((⟨([] : List api_Col), ([] : List (List api_Value))⟩ : api_Table), 40)) fun y_313 => (wire_Decode.l1 cs y_313 ((y_313.1 - 0).toNat + 1) [] y_313.2.b 0)))) = some (afterS cs r1) := by
  have hck : checkS ⟨cs, []⟩ = if colsS cs = true then 0 else 20 := by unfold checkS; simp
  rw [check_eq (okCols_of hcl hn) ⟨by simp, fun r hr => by cases hr⟩, Option.bind_some, hck]
  unfold afterS
  by_cases h : colsS cs = true
  · rw [if_pos h, if_neg (by simp), if_pos h, rnum_eq (by decide) hl]
    by_cases h2 : 2 ≤ r1.length
    · have hs := small_range (hb.take 2) (by simp; omega)
      rw [show (r1.take 2).length = 2 by simp; omega, show pw 2 = 65536 by decide] at hs
      rw [if_pos (by omega), tc_ok, if_pos h2]
      have := wDec_l1 (cols := cs) (y := (smallS (r1.take 2), ⟨r1.drop 2⟩)) (n := (smallS (r1.take 2)).toNat) (by simp only; omega) (by omega) (fun c hc => ((colsS_col h).2 c hc).2) hcl _ 0 (((smallS (r1.take 2)) - 0).toNat + 1) [] (r1.drop 2) (Nat.zero_add _) (by omega) (hb.drop 2) (by simp; omega) rfl
      refine Eq.trans this ?_
      cases rowsP cs (smallS (r1.take 2)).toNat (r1.drop 2) with
      | none => rfl
      | some q => simp
    · rw [if_neg (by omega), tc_no, if_neg h2]; rfl
  · rw [if_neg h, if_pos (by decide), if_neg h]; rfl
theorem wDec_l0 {y : Int × wire_reader} {n : Nat} (hy : y.1 = (n : Int)) (hn : n < 256) :
    ∀ (d i fuel : Nat) (cols : List api_Col) (b : List Int), i + d = n → d < fuel → Byts b → b.length < 4611686018427387904 → cols.length = i → (∀ c ∈ cols, c.Name.size < 256) →
    wire_Decode.l0 y fuel cols b (i : Int) = (match colsP d b with
      | none => some errD
      | some (cs, r) => some (afterS (cols ++ cs) r))
  | 0, i, fuel + 1, cols, b, h1, h2, hb, hl, hc, hnm => by
    rw [wire_Decode.l0, if_neg (by rw [hy]; simp; omega), wDec_after (by omega) hnm hb hl]
    simp [colsP]
  | d + 1, i, fuel + 1, cols, b, h1, h2, hb, hl, hc, hnm => by
    rw [wire_Decode.l0, if_pos (by rw [hy]; simp; omega), rnum_eq (by decide) hl]
    cases b with
    | nil => rfl
    | cons c r =>
      obtain ⟨hcr, hr⟩ := Byts.cons.1 hb
      simp only [List.length_cons] at hl
      rw [if_pos (by simp; omega), tc_ok]
      show tc (wire_reader_take ⟨r⟩ (smallS [c])) _ _ = _
      rw [small1 hcr, rtake_eq hcr.1 (by omega), colsP]
      by_cases h : c ≤ r.length
      · rw [if_pos h, tc_ok]
        simp only
        rw [rnum_eq (by decide) (by simp; omega)]
        cases hd : r.drop c.toNat with
        | nil => rfl
        | cons k r' =>
          have hbk : Byts (k :: r') := by rw [← hd]; exact hr.drop _
          obtain ⟨hk, hr'⟩ := Byts.cons.1 hbk
          have hlr : r'.length < r.length := by
            have : (r.drop c.toNat).length = (k :: r').length := by rw [hd]
            simp at this; omega
          rw [if_pos (by simp; omega), tc_ok, apd_of (by simp; omega), Option.bind_some, w64_nat i (by omega)]
          show wire_Decode.l0 y fuel (cols ++ [⟨bstr (r.take c.toNat), smallS [k]⟩]) r' _ = _
          rw [small1 hk, wDec_l0 hy hn d (i + 1) fuel _ r' (by omega) (by omega) hr' (by omega) (by simp; omega) (fun x hx => by
            rcases List.mem_append.1 hx with hx | hx
            · exact hnm x hx
            · simp only [List.mem_singleton] at hx
              subst hx
              simp only [bstr_size]; simp; omega)]
          simp only
          cases colsP d r' with
          | none => rfl
          | some q => simp
      · rw [if_neg h, tc_no, List.drop_of_length_le (by omega)]; rfl
theorem after_body (x : List Int) : (match x with
    | [] => errD
    | c :: r => match colsP c.toNat r with
      | none => errD
      | some (cs, r1) => afterS cs r1) = outS (bodyP x) := by
  unfold bodyP rawP
  cases x with
  | nil => rfl
  | cons c r =>
    simp only
    cases colsP c.toNat r with
    | none => rfl
    | some p =>
      obtain ⟨cs, r1⟩ := p
      simp only
      unfold afterS
      by_cases h : colsS cs = true
      · rw [if_pos h, if_pos h]
        by_cases h2 : 2 ≤ r1.length
        · rw [if_pos h2, if_pos h2]
          cases rowsP cs (smallS (r1.take 2)).toNat (r1.drop 2) with
          | none => rfl
          | some q =>
            obtain ⟨rows, q⟩ := q
            simp only
            unfold endS
            by_cases h3 : q = [] ∧ rows.length ≤ 4096
            · rw [if_pos h3, if_pos h3]; rfl
            · rw [if_neg h3, if_neg h3]; rfl
        · rw [if_neg h2, if_neg h2]; rfl
      · rw [if_neg h, if_neg h]; rfl
theorem wDec_eq {b : List Int} (hb : Byts b) (hl : b.length ≤ 140737488355328) : wire_Decode b = some (outS (decS b)) := by
  unfold wire_Decode decS frame
  rw [rnum_eq (by decide) (by omega)]
  by_cases h4 : 4 ≤ b.length
  · have hs := small_range (hb.take 4) (by simp; omega)
    rw [show (b.take 4).length = 4 by simp; omega, show pw 4 = 4294967296 by decide] at hs
    rw [if_pos (by omega), tc_ok]
    show tc (wire_reader_take ⟨b.drop 4⟩ (IntKind.i64.wrap (smallS (b.take 4) + 4))) _ _ = _
    rw [w64 (by omega) (by omega), rtake_eq (by omega) (by simp; omega)]
    by_cases hn : smallS (b.take 4) + 8 ≤ b.length
    · rw [if_pos (by simp; omega), tc_ok]
      simp only
      have hyl : ((b.drop 4).take (smallS (b.take 4) + 4).toNat).length = (smallS (b.take 4) + 4).toNat := by simp; omega
      rw [hyl, w64 (x := ((smallS (b.take 4) + 4).toNat : Int) + 4) (by omega) (by omega), w64 (x := ((smallS (b.take 4) + 4).toNat : Int) - 4) (by omega) (by omega)]
      by_cases he : smallS (b.take 4) + 8 = b.length
      · have e1 : (b.drop 4).take (smallS (b.take 4) + 4).toNat = b.drop 4 := List.take_of_length_le (by simp; omega)
        have e2 : (((smallS (b.take 4) + 4).toNat : Int) - 4).toNat = b.length - 8 := by omega
        rw [if_neg (by simp; omega), e1, cut_of (by omega) (by omega) (by simp; omega), Option.bind_some, e2]
        have e3 : List.take (((smallS (b.take 4) + 4).toNat : Int).toNat - (b.length - 8)) ((b.drop 4).drop (b.length - 8)) = b.drop (b.length - 4) := by
          rw [List.drop_drop, show 4 + (b.length - 8) = b.length - 4 by omega]
          exact List.take_of_length_le (by simp; omega)
        rw [e3, wire_small_eq (by simp; omega), Option.bind_some, cut_of (by omega) (by omega) (by simp; omega), Option.bind_some, e2, show (0 : Int).toNat = 0 from rfl, List.drop_zero, Nat.sub_zero, sum_eq _ (by simp; omega), Option.bind_some, more_w, if_pos (show 8 ≤ b.length ∧ smallS (b.take 4) + 8 = b.length from ⟨by omega, he⟩)]
        simp only
        by_cases hc : smallS (b.drop (b.length - 4)) = more 0 ((b.drop 4).take (b.length - 8))
        · rw [if_neg (by simp [hc]), if_pos hc, ← after_body]
          have hbx : Byts ((b.drop 4).take (b.length - 8)) := (hb.drop 4).take _
          have hlx : ((b.drop 4).take (b.length - 8)).length ≤ b.length := by simp; omega
          generalize (b.drop 4).take (b.length - 8) = x at hbx hlx
          rw [rnum_eq (by decide) (by omega)]
          cases x with
          | nil => rfl
          | cons c r =>
            obtain ⟨hcr, hr⟩ := Byts.cons.1 hbx
            simp only [List.length_cons] at hlx
            rw [if_pos (by simp; omega), tc_ok]
            show wire_Decode.l0 (smallS [c], ⟨r⟩) (((smallS [c]) - 0).toNat + 1) [] r 0 = _
            rw [small1 hcr]
            have := wDec_l0 (y := (c, ⟨r⟩)) (n := c.toNat) (by simp only; omega) (by omega) c.toNat 0 ((c - 0).toNat + 1) [] r (Nat.zero_add _) (by omega) hr (by omega) rfl (fun x hx => by cases hx)
            refine Eq.trans this ?_
            simp only
            cases colsP c.toNat r with
            | none => rfl
            | some q => simp
        · rw [if_pos (by simpa using hc), if_neg hc]; rfl
      · rw [if_pos (by simp; omega), if_neg (by omega)]; rfl
    · rw [if_neg (by simp; omega), tc_no, if_neg (by omega)]; rfl
  · rw [if_neg (by omega), tc_no, if_neg (by omega)]; rfl
end Go.Proofs.Ytifijboegibchaa.M
