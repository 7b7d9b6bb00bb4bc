/- The plain laws of layer 4 (wire). -/
import Derived.Test.YtifijboegibchaaPure
import Derived.Test.YtifijboegibchaaPLWx
import Derived.Test.YtifijboegibchaaPLSm
namespace Go.Proofs.Ytifijboegibchaa.M
open Go Go.Eng Go.Proofs Go.RowKit
set_option maxRecDepth 100000
set_option linter.unusedVariables false
set_option linter.unusedSimpArgs false

theorem shown_ok : law04_shown = some true := by kernel_rfl
def cutS (t : api_Table) : api_Table := ⟨t.Cols, t.Rows.take 200⟩
theorem cut_eq' (t : api_Table) : law04_cut t = some (cutS t) := by
  unfold law04_cut cutS
  by_cases h : 200 < t.Rows.length
  · rw [if_pos (by simp; omega), cut_of (by omega) (by omega) (by omega)]; rfl
  · rw [if_neg (by simp; omega), List.take_of_length_le (by omega)]
/-- What reads as a table may be held so. -/
structure OkT (t : api_Table) : Prop where
  c : okCols t.Cols
  r : okRows t.Rows
  z : Sz t.Rows
  w : wfT t
theorem wfV_of {v : api_Value} (h : ok_api_Value v) : wfV v := ⟨i64_range h.2.1, fun x hx => i64_range (h.2.2.2 x hx)⟩
theorem okT_of {t : api_Table} (h : ok_api_Table t) : OkT (cutS t) := by
  obtain ⟨⟨h1, h2⟩, h3, h4⟩ := h
  have hm : ∀ r ∈ (cutS t).Rows, r ∈ t.Rows := fun r hr => List.mem_of_mem_take hr
  have hl : (cutS t).Rows.length ≤ 200 := by simp [cutS]; omega
  refine ⟨⟨?_, fun c hc => ?_⟩, ⟨by omega, fun r hr => ?_⟩, ⟨by omega, fun r hr => ⟨?_, fun v hv => ?_⟩⟩, fun r hr v hv => ?_⟩
  · show t.Cols.length < _; omega
  · have := (h2 c hc).1; simp only at this; omega
  · have := (h4 r (hm r hr)).1; omega
  · have := (h4 r (hm r hr)).1; omega
  · have := ((h4 r (hm r hr)).2 v hv).2.2.1; unfold okV; simp only at this; omega
  · exact wfV_of ((h4 r (hm r hr)).2 v hv)
theorem Good.okc {t : api_Table} (h : Good t) : okCols t.Cols := ⟨by have := (colsS_col h.cols).1; omega, fun c hc => by have := ((colsS_col h.cols).2 c hc).1; omega⟩
theorem Good.okr {t : api_Table} (h : Good t) : okRows t.Rows := ⟨by have := h.len; omega, fun r hr => by have := rowOk_len (h.rows r hr); have := (colsS_col h.cols).1; omega⟩
theorem Good.sz {t : api_Table} (h : Good t) : Sz t.Rows := by
  refine ⟨by have := h.len; omega, fun r hr => ⟨by have := rowOk_len (h.rows r hr); have := (colsS_col h.cols).1; omega, fun v hv => ?_⟩⟩
  have hv := rowOk_valid (h.rows r hr) v hv
  have hl := valS_len hv
  unfold okV
  unfold validS at hv
  have e0 : (⟨#[]⟩ : ByteArray).size = 0 := rfl
  split at hv
  · simp only [decide_eq_true_eq] at hv; rw [hv.1, e0]; omega
  · split at hv
    · simp only [decide_eq_true_eq] at hv; omega
    · split at hv
      · simp only [decide_eq_true_eq] at hv; rw [hv.2.1, e0]; omega
      · split at hv
        · simp only [decide_eq_true_eq] at hv; rw [hv.2, e0]; omega
        · cases hv
theorem Good.encL {t : api_Table} (h : Good t) : 11 ≤ (encS t).length ∧ (encS t).length ≤ 4270008 := by have := h.bodyL; unfold encS; rw [encB_len]; omega
theorem Good.encB {t : api_Table} (h : Good t) : Byts (encS t) := byts_encB h.bodyB
theorem apd_nil {a : List Int} (ha : a.length ≤ 140737488355328) : apd 1 ([] : List Int) a = some a := by rw [apd_of (by simp; omega)]; rfl
def okB (a : List Int) : Prop := a.length * 1 ≤ 140737488351232 ∧ ∀ x ∈ a, (fun x => (Lit.int .u8 x).wf = true) x
theorem okB.b {a : List Int} (h : okB a) : Byts a := fun x hx => u8_range (h.2 x hx)
theorem WireValues_pure (a : List Int) (ha : a.length * 1 ≤ 140737488351232 ∧ ∀ x ∈ a, (fun x => (Lit.int .u8 x).wf = true) x) (v : api_Value) (hv : ok_api_Value v) (k : Int) (hk : (Lit.int .i64 k).wf = true) : law04_WireValues a v k = some true := by
  have hb := okB.b ha
  have hl := ha.1
  unfold law04_WireValues
  rw [shown_ok, Option.bind_some, apd_nil (by omega), Option.bind_some, wPut_eq (by omega), Option.bind_some, rPut_eq (by omega), Option.bind_some, wTake_eq hb (by omega), Option.bind_some, rTake_eq hb (by omega), Option.bind_some]
  simp
theorem bstr_append (a b : List Int) : bstr a ++ bstr b = bstr (a ++ b) := by
  apply sbytes_inj
  unfold sbytes bstr
  simp
theorem back_j0 {b : List Int} (hb : Byts b) (hl : b.length ≤ 140737488351232) (k : Int) : law04_WireBack.j0 b k true = some true := by
  unfold law04_WireBack.j0
  rw [wTake_eq hb (by omega), Option.bind_some]
  unfold tkS
  by_cases hk : 1 ≤ k ∧ k ≤ 4
  · rw [if_pos hk]
    cases ht : takeS k b with
    | none => rfl
    | some p =>
      obtain ⟨v, r⟩ := p
      obtain ⟨h1, h2, h3, h4⟩ := put_take hb ht
      have h5 : b.length = (valS v).length + r.length := by rw [h4]; simp
      have h6 := valS_len h2
      simp only
      rw [if_neg (by decide), wPut_eq (by simp), Option.bind_some]
      unfold putS
      rw [if_pos h2, List.nil_append]
      simp only
      rw [if_pos trivial, if_pos (by decide), if_pos (by rw [bstr_size, bstr_size]; simp; omega), bstr_append, ← h4]
      simp
  · rw [if_neg hk]; rfl
theorem WireBack_pure (v : api_Value) (hv : ok_api_Value v) (b : List Int) (hb' : b.length * 1 ≤ 140737488351232 ∧ ∀ x ∈ b, (fun x => (Lit.int .u8 x).wf = true) x) (k : Int) (hk : (Lit.int .i64 k).wf = true) : law04_WireBack v b k = some true := by
  have hb := okB.b hb'
  have hl := hb'.1
  have hw := wfV_of hv
  unfold law04_WireBack
  rw [shown_ok, Option.bind_some, wPut_eq (by simp), Option.bind_some]
  unfold putS
  by_cases h : validS v = true
  · have h6 := valS_len h
    rw [if_pos h, List.nil_append]
    simp only
    have hbb : Byts (valS v ++ b) := Byts.append.2 ⟨byts_valS h, hb⟩
    rw [if_pos (by decide), apd_nil (by omega), Option.bind_some, apd_of (by omega), Option.bind_some, wTake_eq hbb (by simp; omega), Option.bind_some]
    have hk4 : 1 ≤ v.Kind ∧ v.Kind ≤ 4 := by have := validS_kind h; omega
    unfold tkS
    rw [if_pos hk4, take_put h hw]
    simp only
    unfold law04_WireBack.j1
    rw [if_neg (by decide), if_neg (by simp)]
    unfold law04_WireBack.j2
    rw [if_neg (by simp)]
    exact back_j0 hb (by omega) k
  · rw [if_neg h]
    simp only
    rw [if_neg (by decide)]
    exact back_j0 hb (by omega) k
theorem WireWrites_pure (t : api_Table) (ht : ok_api_Table t) : law04_WireWrites t = some true := by
  have h := okT_of ht
  unfold law04_WireWrites
  rw [shown_ok, Option.bind_some, cut_eq', Option.bind_some, wEnc_eq h.c h.r, Option.bind_some, rEnc_eq h.c h.r, Option.bind_some]
  simp
theorem out_same {b : List Int} (hb : Byts b) : ref02_Same (outS (decS b)).1 (outS (decS b)).1 = some true := by
  cases hd : decS b with
  | none =>
    have := rsame_eq' (a := (outS none).1) (b := (outS none).1) (by decide) ⟨by decide, fun r hr => by cases hr⟩
    rw [this]; simp
  | some t =>
    obtain ⟨hg, hw, he⟩ := enc_dec hb hd
    have := rsame_eq' (a := t) (b := t) hg.okc.1 hg.sz
    refine Eq.trans this (by simp)
theorem WireReads_pure (a : List Int) (ha : a.length * 1 ≤ 140737488351232 ∧ ∀ x ∈ a, (fun x => (Lit.int .u8 x).wf = true) x) : law04_WireReads a = some true := by
  have hb := okB.b ha
  have hl := ha.1
  unfold law04_WireReads
  rw [shown_ok, Option.bind_some, apd_nil (by omega), Option.bind_some, wDec_eq hb (by omega), Option.bind_some, rDec_eq hb (by omega), Option.bind_some, out_same hb, Option.bind_some]
  simp
theorem tables_j0 {b : List Int} (hb : Byts b) (hl : b.length ≤ 140737488355328) : law04_WireTables.j0 b true = some true := by
  unfold law04_WireTables.j0
  rw [wDec_eq hb hl, Option.bind_some]
  cases hd : decS b with
  | none => rfl
  | some u =>
    obtain ⟨hg, hw, he⟩ := enc_dec hb hd
    unfold outS
    simp only
    rw [if_neg (by decide), wEnc_eq hg.okc hg.okr, Option.bind_some, encR_ok hg]
    simp only
    rw [if_pos trivial, if_pos (by decide), ← he]
    simp
theorem WireTables_pure (t : api_Table) (ht : ok_api_Table t) (b : List Int) (hb' : b.length * 1 ≤ 140737488351232 ∧ ∀ x ∈ b, (fun x => (Lit.int .u8 x).wf = true) x) : law04_WireTables t b = some true := by
  have h := okT_of ht
  have hb := okB.b hb'
  have hl := hb'.1
  unfold law04_WireTables
  rw [shown_ok, Option.bind_some, cut_eq', Option.bind_some, wEnc_eq h.c h.r, Option.bind_some]
  by_cases he : (encR (cutS t)).2 = 0
  · have hg := encR_zero he
    have hel := hg.encL
    rw [encR_ok hg]
    simp only
    rw [if_pos (by decide), wDec_eq hg.encB (by omega), Option.bind_some, dec_enc hg h.w]
    unfold outS
    simp only
    rw [rsame_eq' h.c.1 h.z, Option.bind_some]
    simp only [decide_true]
    rw [if_neg (by decide)]
    unfold law04_WireTables.j1
    exact tables_j0 hb (by omega)
  · rw [if_neg (by simpa using he)]
    exact tables_j0 hb (by omega)
/-! two tables' bytes -/
theorem enc_inj {a b : api_Table} (ha : Good a) (hb : Good b) (wa : wfT a) (wb : wfT b) : encS a = encS b ↔ a = b := by
  refine ⟨fun h => ?_, fun h => by rw [h]⟩
  have h1 := dec_enc ha wa
  rw [h, dec_enc hb wb] at h1
  exact (Option.some.inj h1).symm
theorem WireApart_pure (a : api_Table) (oa : ok_api_Table a) (b : api_Table) (ob : ok_api_Table b) : law04_WireApart a b = some true := by
  have ha := okT_of oa
  have hb := okT_of ob
  unfold law04_WireApart law04_WireApart.j0
  rw [shown_ok, Option.bind_some, cut_eq', Option.bind_some, cut_eq', Option.bind_some, wEnc_eq ha.c ha.r, Option.bind_some, wEnc_eq hb.c hb.r, Option.bind_some]
  by_cases h1 : (encR (cutS a)).2 = 0
  · rw [if_neg (by simpa using h1)]
    by_cases h2 : (encR (cutS b)).2 = 0
    · have ga := encR_zero h1
      have gb := encR_zero h2
      rw [if_neg (by simpa using h2), rsame_eq' ha.c.1 ha.z, Option.bind_some, if_pos rfl, encR_ok ga, encR_ok gb]
      simp only
      rw [bstr_beq ga.encB gb.encB]
      simp only [enc_inj ga gb ha.w hb.w]
      simp
    · rw [if_pos (by simpa using h2)]
  · rw [if_pos (by simpa using h1), if_pos rfl]
/-! a bit that is turned, a cut, something behind -/
theorem head_len {X X' : List Int} (h : X.length < 4294967296) (h' : X'.length < 4294967296) (he : (encB X).take 4 = (encB X').take 4) : X.length = X'.length := by
  have t4 : ∀ Z : List Int, (Go.Proofs.Ytifijboegibchaa.M.encB Z).take 4 = bigS Z.length 4 := fun Z => by unfold Go.Proofs.Ytifijboegibchaa.M.encB; rw [List.take_append_of_le_length (by rw [bigS_len]; omega), List.take_of_length_le (by rw [bigS_len]; omega)]
  rw [t4, t4] at he
  have e4 : pw 4 = 4294967296 := by decide
  have h1 := small_big (n := X.length) (k := 4) (by decide) (by omega) (by omega)
  have h2 := small_big (n := X'.length) (k := 4) (by decide) (by omega) (by omega)
  rw [he, h2] at h1
  omega
theorem dec_len {y : List Int} (hy : Byts y) {X : List Int} (hX : X.length < 4294967296) (h8 : 4 ≤ y.length) (he : y.take 4 = (encB X).take 4) (hl : y.length ≠ X.length + 8) : decS y = none := by
  cases hd : decS y with
  | none => rfl
  | some t =>
    obtain ⟨hg, hw, e⟩ := enc_dec hy hd
    exfalso
    have := hg.bodyL
    have e' : y = Go.Proofs.Ytifijboegibchaa.M.encB (bodyS t) := e
    rw [e'] at he hl
    rw [encB_len] at hl
    have := head_len (X := bodyS t) (X' := X) (by omega) hX he
    omega
theorem dec_short {y : List Int} (h : y.length < 8) : decS y = none := by
  unfold decS frame
  rw [if_neg (by omega)]
theorem dec_turned {X : List Int} (hX : Byts X) (hXl : X.length < 4294967296) {k : Nat} (hk : k < (encB X).length) {v : Int} (hv : 0 ≤ v ∧ v < 256) (hne : v ≠ (encB X)[k]) : decS ((encB X).set k v) = none := by
  have hby : Byts ((Go.Proofs.Ytifijboegibchaa.M.encB X).set k v) := fun x hx => by
    rcases List.mem_or_eq_of_mem_set hx with h1 | h1
    · exact byts_encB hX x h1
    · rw [h1]; exact hv
  cases hd : decS ((Go.Proofs.Ytifijboegibchaa.M.encB X).set k v) with
  | none => rfl
  | some t =>
    exfalso
    obtain ⟨hg, hw, e⟩ := enc_dec hby hd
    have hbl := hg.bodyL
    have hbb := hg.bodyB
    have e' : (Go.Proofs.Ytifijboegibchaa.M.encB X).set k v = Go.Proofs.Ytifijboegibchaa.M.encB (bodyS t) := e
    generalize bodyS t = X' at e' hbl hbb
    have hlen : X.length = X'.length := by
      have := congrArg List.length e'
      rw [List.length_set, encB_len, encB_len] at this
      omega
    have hne' : (Go.Proofs.Ytifijboegibchaa.M.encB X).set k v ≠ Go.Proofs.Ytifijboegibchaa.M.encB X := fun h => by
      have h1 : ((Go.Proofs.Ytifijboegibchaa.M.encB X).set k v)[k]? = (Go.Proofs.Ytifijboegibchaa.M.encB X)[k]? := by rw [h]
      rw [List.getElem?_set_self hk, List.getElem?_eq_getElem hk] at h1
      exact hne (Option.some.inj h1)
    unfold Go.Proofs.Ytifijboegibchaa.M.encB at e' hne'
    rw [List.set_append] at e' hne'
    split at e'
    · obtain ⟨a1, a2⟩ := List.append_inj e' (by simp [bigS_len])
      obtain ⟨b1, b2⟩ := List.append_inj a2 hlen
      subst b1
      rw [a1] at hne'
      rename_i hk4
      rw [if_pos hk4] at hne'
      exact hne' rfl
    · rename_i hk4
      rw [if_neg hk4] at hne'
      obtain ⟨a1, a2⟩ := List.append_inj e' (by simp [bigS_len])
      rw [List.set_append] at a2 hne'
      split at a2
      · rename_i hkX
        obtain ⟨b1, b2⟩ := List.append_inj a2 (by simp [hlen])
        have e4 : pw 4 = 4294967296 := by decide
        have m1 := more_in 0 X
        have m2 := more_in 0 X'
        unfold In32 at m1 m2
        have c1 := small_big (n := more 0 X) (k := 4) (by decide) m1.1 (by omega)
        have c2 := small_big (n := more 0 X') (k := 4) (by decide) m2.1 (by omega)
        rw [b2, c2] at c1
        by_cases hvv : v = X[k - (bigS (X.length : Int) 4).length]
        · rw [if_pos hkX] at hne'
          apply hne'
          rw [hvv, List.set_getElem_self]
        · have := sum_turned hX hkX hv hvv
          rw [b1, c1] at this
          exact this rfl
      · rename_i hkX
        obtain ⟨b1, b2⟩ := List.append_inj a2 hlen
        subst b1
        rw [if_neg hkX, b2] at hne'
        exact hne' rfl
theorem turned_j1 {t : api_Table} (hg : Good t) {m c : Int} (hm : 0 ≤ m) (hm2 : m ≤ 9223372036854775807) (hc : 0 ≤ c) (hc2 : c ≤ 9223372036854775807) : law04_WireTurned.j1 true (encS t, 0) m c = some true := by
  have hL := hg.encL
  have hB := hg.encB
  have hXl := hg.bodyL
  have hXb := hg.bodyB
  have hxe : encS t = Go.Proofs.Ytifijboegibchaa.M.encB (bodyS t) := rfl
  have hxl : (encS t).length = (bodyS t).length + 8 := encB_len _
  unfold law04_WireTurned.j1
  generalize encS t = x at *
  simp only
  rw [apd_nil (by omega), Option.bind_some, if_pos (by simp; intro h; rw [h] at hL; simp at hL)]
  have ed : IntKind.i64.wrap (m.tdiv 8) = m.tdiv 8 := by
    rw [Int.tdiv_eq_ediv_of_nonneg hm]
    exact w64 (by omega) (by omega)
  rw [ed]
  have h0 : 0 ≤ (m.tdiv 8).tmod (x.length : Int) := Int.tmod_nonneg _ (Int.tdiv_nonneg hm (by decide))
  have h1 : (m.tdiv 8).tmod (x.length : Int) < (x.length : Int) := Int.tmod_lt_of_pos _ (by omega)
  generalize (m.tdiv 8).tmod (x.length : Int) = q at h0 h1
  obtain ⟨i, rfl⟩ : ∃ i : Nat, q = (i : Int) := ⟨q.toNat, by omega⟩
  have hi : i < x.length := by omega
  have hj0 : 0 ≤ m.tmod 8 := Int.tmod_nonneg _ hm
  have hj1 : m.tmod 8 < 8 := Int.tmod_lt_of_pos _ (by decide)
  have hp0 : 0 ≤ c.tmod (x.length : Int) := Int.tmod_nonneg _ hc
  have hp1 : c.tmod (x.length : Int) < (x.length : Int) := Int.tmod_lt_of_pos _ (by omega)
  rw [ix_of (List.getElem?_eq_getElem hi), Option.bind_some, if_pos (by simpa using hj0), Option.bind_some]
  generalize hvv : IntKind.u8.wrap (BitVec.ofInt 8 x[i] ^^^ BitVec.ofInt 8 (IntKind.u8.wrap (1 * 2 ^ (min (m.tmod 8).toNat 8)))).toNat = v
  obtain ⟨hv1, hv2⟩ := byte_turned (hB x[i] (List.getElem_mem hi)) (j := (m.tmod 8).toNat) (by omega) v hvv.symm
  have hu : upd x (i : Int) v = x.set i v := by simp [upd]
  have hub : Byts (x.set i v) := fun y hy => by
    rcases List.mem_or_eq_of_mem_set hy with h | h
    · exact hB y h
    · rw [h]; exact hv1
  have d1 : decS (x.set i v) = none := by
    subst hxe
    exact dec_turned hXb (by omega) hi hv1 hv2
  generalize c.tmod (x.length : Int) = p at hp0 hp1
  have d2 : decS (x.take p.toNat) = none := by
    by_cases h8 : p.toNat < 8
    · exact dec_short (by simp; omega)
    · refine dec_len (X := bodyS t) (hB.take _) (by omega) (by simp; omega) ?_ (by simp; omega)
      rw [List.take_take, ← hxe, Nat.min_eq_left (by omega)]
  have hcb : 0 ≤ IntKind.u8.wrap c ∧ IntKind.u8.wrap c < 256 := by rw [u8w]; omega
  have hxb : Byts (x ++ [IntKind.u8.wrap c]) := Byts.append.2 ⟨hB, Byts.cons.2 ⟨hcb, fun y hy => by cases hy⟩⟩
  have d3 : decS (x ++ [IntKind.u8.wrap c]) = none := by
    refine dec_len (X := bodyS t) hxb (by omega) (by simp; omega) ?_ (by simp; omega)
    rw [List.take_append_of_le_length (by omega), ← hxe]
  have ec : List.take (p.toNat - (0 : Int).toNat) (x.drop (0 : Int).toNat) = x.take p.toNat := by simp
  rw [hu, wDec_eq hub (by simp; omega), Option.bind_some, d1, if_pos (by simp; intro h; rw [h] at hL; simp at hL), cut_of (by omega) hp0 (by omega), Option.bind_some, ec, wDec_eq (hB.take _) (by simp; omega), Option.bind_some, d2, Option.bind_some, apd_of (by simp; omega), Option.bind_some, wDec_eq hxb (by simp; omega), Option.bind_some, d3]
  rfl
theorem turned_j0 {t : api_Table} (hg : Good t) {m a : Int} (hm : 0 ≤ m) (hm2 : m ≤ 9223372036854775807) (ha : -9223372036854775808 ≤ a) (ha2 : a ≤ 9223372036854775807) : law04_WireTurned.j0 a true (encS t, 0) m = some true := by
  unfold law04_WireTurned.j0
  by_cases h : a < 0
  · rw [if_pos (by simpa using h)]; exact turned_j1 hg hm hm2 (folded ha h) (w64_range _).2
  · rw [if_neg (by simpa using h)]; exact turned_j1 hg hm hm2 (by omega) ha2
theorem WireTurned_pure (t : api_Table) (ht : ok_api_Table t) (m : Int) (hm' : (Lit.int .i64 m).wf = true) (a : Int) (ha' : (Lit.int .i64 a).wf = true) : law04_WireTurned t m a = some true := by
  have h := okT_of ht
  have hm := i64_range hm'
  have ha := i64_range ha'
  unfold law04_WireTurned
  rw [shown_ok, Option.bind_some, cut_eq', Option.bind_some, wEnc_eq h.c h.r, Option.bind_some]
  by_cases he : (encR (cutS t)).2 = 0
  · have hg := encR_zero he
    have hL := hg.encL
    rw [encR_ok hg]
    simp only
    rw [if_neg (by decide), if_neg (by simp; intro h; rw [h] at hL; simp at hL)]
    by_cases hn : m < 0
    · rw [if_pos (by simpa using hn)]; exact turned_j0 hg (folded hm.1 hn) (w64_range _).2 ha.1 ha.2
    · rw [if_neg (by simpa using hn)]; exact turned_j0 hg (by omega) hm.2 ha.1 ha.2
  · rw [if_pos (by simpa using he)]
/-! how many -/
def valL (v : api_Value) : Nat := (valS v).length
theorem sizes_l2 {kl : Int → Int → Option Bool} {t : api_Table} {j : Nat} {row : List api_Value} (hj : t.Rows[j]? = some row) (hv : ∀ v ∈ row, validS v = true) (hr : row.length < 4611686018427387904) : ∀ (fuel k : Nat) (n : Int), k ≤ row.length → row.length < k + fuel → 0 ≤ n → n + 65 * ((row.length : Int) - k) ≤ 100000000 →
    law04_WireSizes.l2 kl t (j : Int) fuel n (k : Int) = kl (n + ((rowB (row.drop k)).length : Int)) (IntKind.i64.wrap ((j : Int) + 1))
  | 0, k, n, _, h, _, _ => by omega
  | fuel + 1, k, n, h1, h2, h3, h4 => by
    rw [law04_WireSizes.l2, ix_of hj, Option.bind_some]
    by_cases hi : k < row.length
    · obtain ⟨v, hx, ex⟩ := getE hi
      have hvv := hv v (List.mem_of_getElem? hx)
      have hl := valS_len hvv
      have ih := fun n hn hn2 => sizes_l2 (kl := kl) hj hv hr fuel (k + 1) n (by omega) (by omega) hn hn2
      rw [if_pos (dlt hi), Option.bind_some, ix_of hx, Option.bind_some, ex]
      have hrb : ((rowB (v :: row.drop (k + 1))).length : Int) = (valS v).length + (rowB (row.drop (k + 1))).length := by simp [rowB]
      rw [hrb]
      have hvl : (valS v).length = if v.Kind = 1 then 8 else if v.Kind = 2 then v.S.size + 1 else if v.Kind = 3 then 1 else 64 := by
        unfold valS
        split
        · rw [bigS_len]
        · split
          · rw [List.length_cons, sbytes_len]
          · split
            · rfl
            · rw [histB_len]
      unfold law04_WireSizes.j6 law04_WireSizes.j5 law04_WireSizes.j4 law04_WireSizes.j3
      rw [w64_nat k (by omega)]
      by_cases k1 : v.Kind = 1
      · rw [if_pos k1] at hvl
        rw [if_pos (by simpa using k1), w64 (by omega) (by omega), ih _ (by omega) (by omega), hvl]
        congr 1; omega
      · rw [if_neg k1] at hvl
        rw [if_neg (by simpa using k1)]
        by_cases k2 : v.Kind = 2
        · rw [if_pos k2] at hvl
          rw [if_pos (by simpa using k2), Option.bind_some, ix_of hx, Option.bind_some, w64 (x := n + 1) (by omega) (by omega), w64 (by omega) (by omega), ih _ (by omega) (by omega), hvl]
          congr 1; omega
        · rw [if_neg k2] at hvl
          rw [if_neg (by simpa using k2)]
          by_cases k3 : v.Kind = 3
          · rw [if_pos k3] at hvl
            rw [if_pos (by simpa using k3), w64 (by omega) (by omega), ih _ (by omega) (by omega), hvl]
            congr 1; omega
          · rw [if_neg k3] at hvl
            have k4 : v.Kind = 4 := by have := validS_kind hvv; omega
            rw [if_neg (by simpa using k3), if_pos (by simpa using k4), w64 (by omega) (by omega), ih _ (by omega) (by omega), hvl]
            congr 1; omega
    · rw [if_neg (dnl (by omega)), List.drop_of_length_le (by omega)]; simp [rowB]
theorem sizes_l1 {t : api_Table} (h : Good t) : ∀ (fuel i : Nat) (n : Int), i ≤ t.Rows.length → t.Rows.length < i + fuel → 0 ≤ n → n + 1040 * ((t.Rows.length : Int) - i) ≤ 90000000 → n + (((t.Rows.drop i).flatMap rowB).length : Int) = ((encS t).length : Int) →
    law04_WireSizes.l1 true t (encS t, 0) fuel n (i : Int) = some true
  | 0, i, n, _, hf, _, _, _ => by omega
  | fuel + 1, i, n, h1, h2, h3, h4, h5 => by
    have hlen := h.len
    rw [law04_WireSizes.l1]
    by_cases hi : i < t.Rows.length
    · obtain ⟨row, hx, ex⟩ := getE hi
      have hrow := h.rows row (List.mem_of_getElem? hx)
      have hc := (colsS_col h.cols).1
      have hrl := rowOk_len hrow
      have hb := rowB_len hrow hc
      have := sizes_l2 (kl := law04_WireSizes.l1 true t (encS t, 0) fuel) hx (rowOk_valid hrow) (by omega) (((row.length : Int) - 0).toNat + 1) 0 n (by omega) (by omega) h3 (by omega)
      rw [if_pos (dlt hi), ix_of hx, Option.getD_some]
      refine Eq.trans this ?_
      rw [ex, List.flatMap_cons, List.length_append] at h5
      rw [List.drop_zero, w64_nat i (by omega)]
      exact sizes_l1 h fuel (i + 1) _ (by omega) (by omega) (by omega) (by omega) (by omega)
    · rw [List.drop_of_length_le (by omega)] at h5
      rw [if_neg (dnl (by omega)), if_pos rfl]
      simp only [List.flatMap_nil, List.length_nil] at h5
      simp; omega
theorem sizes_l0 {t : api_Table} (h : Good t) : ∀ (fuel i : Nat) (n : Int), i ≤ t.Cols.length → t.Cols.length < i + fuel → 0 ≤ n → n + 26 * ((t.Cols.length : Int) - i) ≤ 1000 → n + (((t.Cols.drop i).flatMap colB).length : Int) + ((t.Rows.flatMap rowB).length : Int) = ((encS t).length : Int) →
    law04_WireSizes.l0 true t (encS t, 0) fuel n (i : Int) = some true
  | 0, i, n, _, hf, _, _, _ => by omega
  | fuel + 1, i, n, h1, h2, h3, h4, h5 => by
    obtain ⟨hc16, hcc⟩ := colsS_col h.cols
    have hlen := h.len
    rw [law04_WireSizes.l0]
    by_cases hi : i < t.Cols.length
    · obtain ⟨c, hx, ex⟩ := getE hi
      obtain ⟨c1, c2, c3⟩ := hcc c (List.mem_of_getElem? hx)
      have hcl := colB_len c
      rw [ex, List.flatMap_cons, List.length_append] at h5
      rw [if_pos (dlt hi), ix_of hx, Option.bind_some, w64 (x := n + 2) (by omega) (by omega), w64 (by omega) (by omega), w64_nat i (by omega)]
      exact sizes_l0 h fuel (i + 1) _ (by omega) (by omega) (by omega) (by omega) (by omega)
    · rw [List.drop_of_length_le (by omega)] at h5
      simp only [List.flatMap_nil, List.length_nil] at h5
      rw [if_neg (dnl (by omega))]
      exact sizes_l1 h (((t.Rows.length : Int) - 0).toNat + 1) 0 n (by omega) (by omega) h3 (by omega) (by rw [List.drop_zero]; omega)
theorem WireSizes_pure (t : api_Table) (ht : ok_api_Table t) : law04_WireSizes t = some true := by
  have h := okT_of ht
  unfold law04_WireSizes
  rw [shown_ok, Option.bind_some, cut_eq', Option.bind_some, wEnc_eq h.c h.r, Option.bind_some]
  by_cases he : (encR (cutS t)).2 = 0
  · have hg := encR_zero he
    have hc16 := (colsS_col hg.cols).1
    rw [encR_ok hg]
    simp only
    rw [if_neg (by decide)]
    refine sizes_l0 hg (((((cutS t).Cols.length : Nat) : Int) - 0).toNat + 1) 0 11 (by omega) (by omega) (by omega) (by omega) ?_
    rw [List.drop_zero]
    unfold encS
    rw [encB_len]
    unfold bodyS
    simp only [List.length_cons, List.length_append, bigS_len]
    omega
  · rw [if_pos (by simpa using he)]
end Go.Proofs.Ytifijboegibchaa.M
