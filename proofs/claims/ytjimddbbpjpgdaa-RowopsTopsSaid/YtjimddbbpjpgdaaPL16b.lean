/- Layer 16: the document's examples, and the plain laws of times. -/
import Derived.Test.YtjimddbbpjpgdaaPure
import Derived.Test.YtjimddbbpjpgdaaPL16a
namespace Go.Proofs.Ytjimddbbpjpgdaa.M
open Go Go.Eng Go.Proofs Go.RowKit
set_option maxRecDepth 100000
set_option linter.unusedVariables false
set_option linter.unusedSimpArgs false

def szB (t : api_Table) : Bool := decide (t.Cols.length ≤ 1000) && t.Cols.all (fun c => decide (c.Name.size ≤ 1000)) && decide (t.Rows.length ≤ 1000) && t.Rows.all (fun r => decide (r.length ≤ 1000) && r.all (fun v => decide (v.S.size ≤ 1000)))
theorem szT_B {t : api_Table} (h : szB t = true) : szT t := by
  simp only [szB, Bool.and_eq_true, decide_eq_true_eq, List.all_eq_true] at h
  obtain ⟨⟨⟨h1, h2⟩, h3⟩, h4⟩ := h
  exact ⟨by omega, fun c hc => by have := h2 c hc; omega, by omega, fun r hr => by have := (h4 r hr).1; omega, fun r hr v hv => by have := (h4 r hr).2 v hv; omega⟩
theorem szT_none2 : szT none2 := szT_B (by decide +kernel)
def rngB (t : api_Table) : Bool := t.Rows.all fun r => r.all fun v => decide (-9223372036854775808 ≤ v.N ∧ v.N ≤ 9223372036854775807)
theorem rngT_B {t : api_Table} (h : rngB t = true) : rngT t := by
  simp only [rngB, List.all_eq_true, decide_eq_true_eq] at h
  exact h
def isortS (t : api_Table) : api_Table := ⟨t.Cols, isortC cmpR t.Rows⟩
theorem canonI (t : api_Table) : canonS t = isortS t := by unfold canonS isortS; rw [sortC_isort cmpR_cmp cmpR_zero]
def vI (n : Int) : api_Value := ⟨1, n, ⟨#[]⟩, H0⟩
def colN : api_Col := ⟨⟨#[110]⟩, 1⟩
def prs (l : List (Int × Int)) : api_Table := ⟨[colT, colN], l.map fun p => [vI p.1, vI p.2]⟩
theorem align_of {t u : api_Table} {w : Int} (hz : checkS t = 0) (hw : 1 ≤ w) (ha : 0 ≤ atS t.Cols) (hu : isortS (layT t w) = u) : alignS t w = (u, 0) := by
  unfold alignS
  rw [if_neg (by simpa using hz), if_neg (by omega), canonI, hu]
theorem top_eval {t u v : api_Table} {n k : Int} {s : ByteArray} {rs : List (List api_Value)} {c : api_Col} (hs : szT t) (hz : checkS t = 0) (hn : 1 ≤ n) (hn2 : n ≤ 1000) (hf : findS t.Cols s = k) (hk : 0 ≤ k) (hc : ix t.Cols k = some c) (hk4 : c.Kind ≠ 4) (hu : isortS t = u)
    (hr : slices_SortStableFunc_api_Value_api_Value_f_rowops_Top_1p u.Rows k = some rs) (hl : rs.length ≤ 1000) (hm : szT ⟨t.Cols, rs.take n.toNat⟩) (hv : isortS ⟨t.Cols, rs.take n.toNat⟩ = v) : rowops_Top t n s = some (v, 0) := by
  unfold rowops_Top rowops_Top.j0
  have hcol : u.Cols = t.Cols := by rw [← hu]; rfl
  rw [check_eq hs.cols hs.rows, Option.bind_some, if_neg (by simpa using hz), find_eq hs.cols.1, Option.bind_some, if_neg (by simp; omega), if_neg (by simp; omega), hf, if_neg (by simp; omega), hc, Option.bind_some, if_neg (by simpa using hk4), canon_eq hs, Option.bind_some, canonI, hu, hr, Option.bind_some,
    cut_of (by omega) (by omega) (by omega), Option.bind_some]
  have e : (rs.drop (0 : Int).toNat).take ((min n (rs.length : Int)).toNat - (0 : Int).toNat) = rs.take n.toNat := by
    show rs.take ((min n (rs.length : Int)).toNat - 0) = rs.take n.toNat
    rcases Int.le_total n (rs.length : Int) with h | h
    · rw [Int.min_eq_left h, Nat.sub_zero]
    · rw [Int.min_eq_right h, List.take_of_length_le (by omega), List.take_of_length_le (by omega)]
  rw [e, hcol, canon_eq hm, Option.bind_some, canonI, hv]
theorem shown_ok : law16_shown = some true := by
  have p1 : law16_pairs [(-1), 0, 25, 1] = some (prs [(-1, 0), (25, 1)]) := by kernel_rfl
  have p2 : law16_pairs [1, 5, 2, 7, 3, 7] = some (prs [(1, 5), (2, 7), (3, 7)]) := by kernel_rfl
  have p3 : law16_pairs [1, 5] = some (prs [(1, 5)]) := by kernel_rfl
  have p4 : law16_pairs [(-10), 0, 20, 1] = some (prs [(-10, 0), (20, 1)]) := by kernel_rfl
  have p5 : law16_pairs [2, 7, 3, 7] = some (prs [(2, 7), (3, 7)]) := by kernel_rfl
  have s1 : szT (prs [(-1, 0), (25, 1)]) := szT_B (by decide +kernel)
  have s2 : szT (prs [(1, 5), (2, 7), (3, 7)]) := szT_B (by decide +kernel)
  have s3 : szT (prs [(1, 5)]) := szT_B (by decide +kernel)
  have s4 : szT (prs [(-10, 0), (20, 1)]) := szT_B (by decide +kernel)
  have s5 : szT (prs [(2, 7), (3, 7)]) := szT_B (by decide +kernel)
  have a1 : alignS (prs [(-1, 0), (25, 1)]) 10 = (prs [(-10, 0), (20, 1)], 0) := align_of (by decide +kernel) (by decide) (by decide +kernel) (by decide +kernel)
  have t1 : rowops_Top (prs [(1, 5), (2, 7), (3, 7)]) 2 (⟨#[110]⟩ : ByteArray) = some (prs [(2, 7), (3, 7)], 0) :=
    top_eval (k := 1) (c := colN) (u := prs [(1, 5), (2, 7), (3, 7)]) (rs := [[vI 2, vI 7], [vI 3, vI 7], [vI 1, vI 5]]) s2 (by decide +kernel) (by decide) (by decide) (by decide +kernel) (by decide) rfl (by decide) (by decide +kernel) (by kernel_rfl) (by decide) (szT_B (by decide +kernel)) (by decide +kernel)
  have t2 : rowops_Top (prs [(1, 5)]) 0 (⟨#[110]⟩ : ByteArray) = some (none2, 1) := by kernel_rfl
  have t3 : rowops_Top (prs [(1, 5)]) 1 (⟨#[120]⟩ : ByteArray) = some (none2, 1) := by kernel_rfl
  have a2 : rowops_Align (prs [(1, 5)]) 0 = some (none2, 1) := by kernel_rfl
  unfold law16_shown
  rw [p1, Option.bind_some, palign_eq s1 (rngT_B (by decide +kernel)) (by decide), a1, Option.bind_some, p2, Option.bind_some, t1, Option.bind_some, p3, Option.bind_some, t2, Option.bind_some, Option.bind_some, t3, Option.bind_some, Option.bind_some, a2, Option.bind_some, p4, Option.bind_some,
    rsame_eq s4, Option.bind_some, p5, Option.bind_some, rsame_eq s5, Option.bind_some]
  simp
theorem RowopsAligns_pure (t : api_Table) (ot : ok_api_Table t) (w : Int) (ow : (Lit.int .i64 w).wf = true) : law16_RowopsAligns t w = some true := by
  have hs := (szT_of ot).cut
  have hg := (rngT_of ot).cut
  have hw2 := (i64_range ow).2
  unfold law16_RowopsAligns
  have hsx : szT (alignS (cutS t) w).1 := by
    by_cases h : (alignS (cutS t) w).2 = 0
    · exact (align_sz hs hg h).1
    · unfold alignS at h ⊢
      by_cases hz : checkS (cutS t) = 0
      · rw [if_neg (by simpa using hz)] at h ⊢
        by_cases ha : w < 1 ∨ atS (cutS t).Cols < 0
        · rw [if_pos ha]; exact szT_none2
        · rw [if_neg ha] at h; exact absurd rfl h
      · rw [if_pos (by simpa using hz)]; exact szT_none2
  rw [shown_ok, Option.bind_some, cut_eq', Option.bind_some, rcanon_eq hs, Option.bind_some, palign_eq hs hg hw2, Option.bind_some, ralign_eq hs hg hw2, Option.bind_some, rsame_eq hsx, Option.bind_some, Option.bind_some, rsame_eq hs.canon, Option.bind_some]
  by_cases h : (alignS (cutS t) w).2 = 0
  · rw [if_pos (by simpa using h)]
    obtain ⟨h1, h2⟩ := align_sz hs hg h
    rw [palign_eq h1 h2 hw2, Option.bind_some, (align_align h).1, rsame_eq h1, Option.bind_some, if_neg (by simpa using h)]
    simp [law16_RowopsAligns.j1, law16_RowopsAligns.j0]
  · rw [if_neg (by simpa using h)]
    simp [law16_RowopsAligns.j0]
theorem pairs2 (n m : Int) : law16_pairs [n, m] = some (prs [(n, m)]) := by kernel_rfl
theorem valid1 (n : Int) : validS (vI n) = true := by simp [validS, vI]
theorem check2 (n m : Int) : checkS (prs [(n, m)]) = 0 := by
  refine checkS_zero.2 ⟨by show colsS [colT, colN] = true; decide +kernel, fun r hr => ?_⟩
  simp only [prs, List.map_cons, List.map_nil, List.mem_singleton] at hr
  subst hr
  show rowOk [vI n, vI m] [colT, colN] = true
  simp [rowOk, valid1]
  exact ⟨rfl, rfl⟩
theorem sort1 (r : List api_Value) : sortC cmpR [r] = [r] := List.perm_singleton.1 (sortC_perm cmpR [r])
theorem align2 (n m : Int) {w : Int} (hw : 1 ≤ w) : alignS (prs [(n, m)]) w = (prs [(downS n w, m)], 0) := by
  have ha : atS (prs [(n, m)]).Cols = 0 := by show atS [colT, colN] = 0; decide +kernel
  unfold alignS
  rw [if_neg (by simpa using check2 n m), if_neg (by omega)]
  congr 1
  unfold canonS layT
  rw [ha]
  show (⟨[colT, colN], sortC cmpR [layR 0 w [vI n, vI m]]⟩ : api_Table) = _
  rw [sort1]; rfl
theorem sz2 (n m : Int) : szT (prs [(n, m)]) := by
  refine ⟨by show 2 * 24 ≤ _; omega, fun c hc => ?_, by show 1 * 24 ≤ _; omega, fun r hr => ?_, fun r hr v hv => ?_⟩
  · simp only [prs, List.mem_cons, List.not_mem_nil, or_false] at hc
    rcases hc with rfl | rfl <;> decide
  · simp only [prs, List.map_cons, List.map_nil, List.mem_singleton] at hr
    subst hr; show 2 * 96 ≤ _; omega
  · simp only [prs, List.map_cons, List.map_nil, List.mem_singleton] at hr
    subst hr
    simp only [List.mem_cons, List.not_mem_nil, or_false] at hv
    rcases hv with rfl | rfl <;> (show 0 ≤ _; omega)
theorem widths_l0 {times : List Int} {w : Int} (hw : 1 ≤ w) (hw2 : w ≤ 9223372036854775807) (hn : times.length < 4611686018427387904) (hg : ∀ x ∈ times, -9223372036854775808 ≤ x ∧ x ≤ 9223372036854775807) : ∀ (fuel i : Nat), i ≤ times.length → times.length < i + fuel →
    law16_RowopsWidths.l0 times w true fuel (i : Int) = some true
  | 0, i, _, h => by omega
  | fuel + 1, i, h1, h2 => by
    rw [law16_RowopsWidths.l0]
    by_cases hi : i < times.length
    · obtain ⟨n, hx, ex⟩ := getE hi
      have hr := hg n (List.mem_of_getElem? hx)
      rw [if_pos (dlt hi)]
      unfold law16_RowopsWidths.j1
      by_cases h100 : (i : Int) < 100
      · rw [if_pos (by simpa using h100), ix_of hx, Option.bind_some, w64 (x := (-9223372036854775808 : Int) + w) (by omega) (by omega)]
        have ih := widths_l0 hw hw2 hn hg fuel (i + 1) (by omega) (by omega)
        have j2 : law16_RowopsWidths.j2 (law16_RowopsWidths.l0 times w true fuel) times (i : Int) = some true := by
          unfold law16_RowopsWidths.j2; rw [w64_nat i (by omega)]; exact ih
        by_cases hlow : n < -9223372036854775808 + w
        · rw [if_pos (by simpa using hlow)]; exact j2
        · have hd0 := Int.emod_nonneg n (show w ≠ 0 by omega)
          have hd1 := Int.emod_lt_of_pos n (show 0 < w by omega)
          have hd : downS n w = n - n % w := by unfold downS; rw [if_neg (by omega)]
          have hdm : (n - n % w).tmod w = 0 := by
            have e : n - n % w = w * (n / w) := by have := Int.emod_add_mul_ediv n w; omega
            rw [e, Int.mul_tmod_right]
          have hgp : rngT (prs [(n, (i : Int))]) := fun r hr' v hv => by
            simp only [prs, List.map_cons, List.map_nil, List.mem_singleton] at hr'
            subst hr'
            simp only [List.mem_cons, List.not_mem_nil, or_false] at hv
            rcases hv with rfl | rfl
            · exact hr
            · show _ ≤ (i : Int) ∧ (i : Int) ≤ _; omega
          rw [if_neg (by simpa using hlow), Option.bind_some, pairs2, Option.bind_some, palign_eq (sz2 n i) hgp hw2, Option.bind_some, align2 n i hw]
          have r0 : ix (prs [(downS n w, (i : Int))]).Rows 0 = some [vI (downS n w), vI i] := rfl
          have r1 : ix [vI (downS n w), vI (i : Int)] 1 = some (vI i) := rfl
          have r2 : ix [vI (downS n w), vI (i : Int)] 0 = some (vI (downS n w)) := rfl
          rw [if_neg (show ¬ ((0 : Int) != 0) = true by decide), if_neg (by show ¬ ((1 : Int) != 1) = true; decide), r0, Option.bind_some, r1, Option.bind_some]
          have e1 : ((vI (i : Int)).N != (i : Int)) = false := by simp [vI]
          rw [e1]
          unfold law16_RowopsWidths.j3
          rw [if_neg (by decide), r0, Option.bind_some, r2, Option.bind_some, if_pos (by simp only [bne_iff_ne, ne_eq]; omega)]
          have e2 : (vI (downS n w)).N = n - n % w := hd
          rw [e2, if_neg (by simp [hdm]), ix_of hx, Option.bind_some, if_neg (by simp; omega), Option.bind_some, w64 (by omega) (by omega)]
          unfold law16_RowopsWidths.j4
          rw [if_neg (by simp; omega)]
          exact j2
      · rw [if_neg (by simpa using h100)]
    · rw [if_neg (dnl (by omega))]
      unfold law16_RowopsWidths.j1
      rw [if_neg (by decide)]
theorem RowopsWidths_pure (times : List Int) (ot : times.length * 8 ≤ 140737488351232 ∧ ∀ x ∈ times, (Lit.int .i64 x).wf = true) (w : Int) (ow : (Lit.int .i64 w).wf = true) : law16_RowopsWidths times w = some true := by
  have hw2 := (i64_range ow).2
  unfold law16_RowopsWidths
  rw [shown_ok, Option.bind_some]
  by_cases hw : w < 1
  · rw [if_pos (by simpa using hw)]
  · rw [if_neg (by simpa using hw), fuel_nat]
    exact widths_l0 (by omega) hw2 (by omega) (fun x hx => i64_range (ot.2 x hx)) _ 0 (Nat.zero_le _) (by omega)
end Go.Proofs.Ytjimddbbpjpgdaa.M
