/- Conditions: the reference, and the rows that are left. -/
import Derived.Test.YtjklfkiaebipnaaPure
import Derived.Test.YtjklfkiaebipnaaPLHd
import Derived.Test.YtjklfkiaebipnaaPLCl
namespace Go.Proofs.Ytjklfkiaebipnaa.M
open Go Go.Eng Go.Proofs Go.RowKit
set_option maxRecDepth 100000
set_option linter.unusedVariables false
set_option linter.unusedSimpArgs false

/-- What the reference does behind its look at what stands below. -/
def finR (kl1 : List Bool → Int → Option Bool) (q : Int) (cols : List api_Col) (row : List api_Value) (ok : List Bool) (k : Int) (n : api_Node) (b : Bool) : Option Bool :=
  ref15_Holds.j4 kl1 (fun _ _ => none) q cols row ok k n b 0 false
theorem below_l3 {kl1 : List Bool → Int → Option Bool} {q : Int} {cols : List api_Col} {row : List api_Value} {ok : List Bool} {k : Nat} {n : api_Node} (hn : n.L.length < 4611686018427387904) : ∀ (fuel i : Nat) (b : Bool), i ≤ n.L.length → n.L.length < i + fuel →
    ref15_Holds.l3 kl1 q cols row ok (k : Int) n fuel b (i : Int) = finR kl1 q cols row ok (k : Int) n (b && (n.L.drop i).all fun m => decide (0 ≤ m ∧ m < (k : Int)))
  | 0, i, b, _, h => by omega
  | fuel + 1, i, b, h1, h2 => by
    rw [ref15_Holds.l3]
    by_cases hi : i < n.L.length
    · obtain ⟨c, hc, ec⟩ := getE hi
      rw [if_pos (dlt hi), ec, List.all_cons]
      cases b with
      | false => rw [ref15_Holds.j4, if_neg (by decide)]; rfl
      | true =>
        rw [ref15_Holds.j4, if_pos rfl, ix_of hc, Option.bind_some]
        simp only [ref15_Holds.j5, w64_nat i (by omega), Option.bind_some]
        rw [below_l3 hn fuel (i + 1) _ (by omega) (by omega), below_l3 hn fuel (i + 1) _ (by omega) (by omega)]
        by_cases a1 : c ≥ 0
        · rw [if_pos (by simpa using a1)]
          congr 1
          by_cases a2 : c < (k : Int)
          · simp [a2, show 0 ≤ c from a1]
          · simp [a2]
        · rw [if_neg (by simpa using a1)]
          congr 1
          simp [show ¬ 0 ≤ c from a1]
    · rw [if_neg (dnl (by omega)), List.drop_of_length_le (by omega)]
      cases b <;> (rw [ref15_Holds.j4, if_neg (by decide)]; rfl)
theorem rholds_step {q0 : api_Query} {q : Int} {cols : List api_Col} {row : List api_Value} {ok : List Bool} {fuel k : Nat} {n : api_Node} (hc : cols.length < 4611686018427387904) (hr : smallR row) (hs : smallN q0.N) (hns : q0.N.length < 4611686018427387904) (hk : q0.N[k]? = some n) (hok : ok[k]? = some false) (hq : (k : Int) ≤ q) :
    ref15_Holds.l1 q0 q cols row (fuel + 1) ok (k : Int) = ref15_Holds.l1 q0 q cols row fuel (ok.set k (nodeS cols row ok k n)) ((k + 1 : Nat) : Int) := by
  have hkl := (List.getElem?_eq_some_iff.1 hk).1
  have hkok := (List.getElem?_eq_some_iff.1 hok).1
  obtain ⟨hL, hV⟩ := hs n (List.mem_of_getElem? hk)
  have hw := w64_nat k (show k < 9223372036854775807 by omega)
  have fin : ∀ b : Bool, (∀ w : Nat, (n.Kind = 13 → w = 1) → (n.Kind ≠ 13 → w = 2) → b = belowS w n.L k) → finR (ref15_Holds.l1 q0 q cols row fuel) q cols row ok (k : Int) n b = ref15_Holds.l1 q0 q cols row fuel (ok.set k (nodeS cols row ok k n)) ((k + 1 : Nat) : Int) := by
    intro b hb
    unfold finR
    rw [ref15_Holds.j4, if_neg (by decide), rfind_eq hc, Option.bind_some]
    have hcell : (if decide (findS cols n.S ≥ 0) = true then ref15_Holds.j6 (ref15_Holds.l1 q0 q cols row fuel) q row ok (k : Int) n b (findS cols n.S) (decide (findS cols n.S < (row.length : Int))) else ref15_Holds.j6 (ref15_Holds.l1 q0 q cols row fuel) q row ok (k : Int) n b (findS cols n.S) false) = ref15_Holds.j6 (ref15_Holds.l1 q0 q cols row fuel) q row ok (k : Int) n b (findS cols n.S) (cellS cols row n.S).isSome := by
      unfold cellS
      by_cases h0 : findS cols n.S ≥ 0
      · rw [if_pos (by simpa using h0), if_pos (show 0 ≤ findS cols n.S from h0)]
        congr 1
        by_cases h2 : findS cols n.S < (row.length : Int)
        · rw [List.getElem?_eq_getElem (by omega)]; simp [h2]
        · rw [List.getElem?_eq_none (by omega)]; simp [h2]
      · rw [if_neg (by simpa using h0), if_neg (show ¬ 0 ≤ findS cols n.S from h0)]; rfl
    rw [hcell, ref15_Holds.j6]
    simp only [ref15_Holds.j7, ref15_Holds.j8, ref15_Holds.j9, ref15_Holds.j10, ref15_Holds.j11, ref15_Holds.j12, ref15_Holds.j13, ref15_Holds.j14, ref15_Holds.j15, ref15_Holds.j16, ix_of hok, Option.bind_some, upd_set, hw]
    have hix : ∀ v, cellS cols row n.S = some v → ix row (findS cols n.S) = some v := fun v hv => by
      unfold cellS at hv
      split at hv
      · rename_i h0; unfold ix; rw [if_pos h0]; exact hv
      · cases hv
    unfold nodeS
    by_cases k14 : n.Kind = 14
    · rw [if_pos (by simpa using k14), if_pos k14]
      cases hce : cellS cols row n.S with
      | none => rfl
      | some v =>
        have hv := hr.2 v (cell_mem hce)
        rw [if_pos (by rfl), hix v hce, Option.bind_some, rholds_eq _ _ _ (by omega), Option.bind_some]
    · rw [if_neg (by simpa using k14), if_neg k14]
      by_cases k15 : n.Kind = 15
      · rw [if_pos (by simpa using k15), if_pos k15]
        cases hce : cellS cols row n.S with
        | none => rfl
        | some v =>
          have hv := hr.2 v (cell_mem hce)
          rw [if_pos (by rfl), hix v hce, Option.bind_some, Option.bind_some]
          by_cases hk2 : v.Kind = 2
          · rw [if_pos (by simpa using hk2), part_eq hV (by omega), Option.bind_some]
            simp [hk2]
          · rw [if_neg (by simpa using hk2)]
            simp [hk2]
      · rw [if_neg (by simpa using k15), if_neg k15]
        by_cases k13 : n.Kind = 13
        · rw [if_pos (by simpa using k13), if_pos k13]
          have hb := hb 1 (fun _ => rfl) (fun h => absurd k13 h)
          subst hb
          cases hb : belowS 1 n.L k with
          | false => simp
          | true =>
            obtain ⟨i1, i2⟩ := below_ix (j := 0) hb (by omega) hkok
            have i1' : ix n.L 0 = some (n.L.getD 0 0) := i1
            rw [if_pos rfl, i1', Option.bind_some, i2, Option.bind_some]
            simp
        · rw [if_neg (by simpa using k13), if_neg k13]
          have hb := hb 2 (fun h => absurd h k13) (fun _ => rfl)
          subst hb
          by_cases k11 : n.Kind = 11
          · rw [if_pos (by simpa using k11), if_pos k11]
            cases hb : belowS 2 n.L k with
            | false => simp
            | true =>
              obtain ⟨i1, i2⟩ := below_ix (j := 0) hb (by omega) hkok
              obtain ⟨i3, i4⟩ := below_ix (j := 1) hb (by omega) hkok
              have i1' : ix n.L 0 = some (n.L.getD 0 0) := i1
              have i3' : ix n.L 1 = some (n.L.getD 1 0) := i3
              rw [if_pos rfl, i1', Option.bind_some, i2, Option.bind_some]
              cases hg : getS ok n.L 0 with
              | false => simp
              | true => rw [if_pos rfl, i3', Option.bind_some, i4, Option.bind_some]; simp
          · rw [if_neg (by simpa using k11), if_neg k11]
            by_cases k12 : n.Kind = 12
            · rw [if_pos (by simpa using k12), if_pos k12]
              cases hb : belowS 2 n.L k with
              | false => simp
              | true =>
                obtain ⟨i1, i2⟩ := below_ix (j := 0) hb (by omega) hkok
                obtain ⟨i3, i4⟩ := below_ix (j := 1) hb (by omega) hkok
                have i1' : ix n.L 0 = some (n.L.getD 0 0) := i1
                have i3' : ix n.L 1 = some (n.L.getD 1 0) := i3
                rw [if_pos rfl, i1', Option.bind_some, i2, Option.bind_some]
                cases hg : getS ok n.L 0 with
                | true => simp
                | false => rw [if_neg (by decide), i3', Option.bind_some, i4, Option.bind_some]; simp
            · rw [if_neg (by simpa using k12), if_neg k12, set_same hok]
  have two : ∀ w : Nat, (n.Kind = 13 → w = 1) → (n.Kind ≠ 13 → w = 2) → ref15_Holds.j2 (ref15_Holds.l1 q0 q cols row fuel) q cols row ok (k : Int) n (w : Int) = ref15_Holds.l1 q0 q cols row fuel (ok.set k (nodeS cols row ok k n)) ((k + 1 : Nat) : Int) := by
    intro w h13 h2
    unfold ref15_Holds.j2
    rw [fuel_nat, show (0 : Int) = ((0 : Nat) : Int) from rfl, below_l3 hL (n.L.length + 1) 0 _ (Nat.zero_le _) (by omega), List.drop_zero]
    refine fin _ fun w' h13' h2' => ?_
    have : w' = w := by
      by_cases h : n.Kind = 13
      · rw [h13 h, h13' h]
      · rw [h2 h, h2' h]
    subst this
    unfold belowS
    congr 1
    by_cases h : n.L.length = w'
    · simp [h]
    · have : ¬ (n.L.length : Int) = (w' : Int) := by omega
      simp [h, this]
  rw [ref15_Holds.l1, if_pos (by simpa using hq), ix_of hk, Option.bind_some]
  by_cases k13 : n.Kind = 13
  · rw [if_pos (by simpa using k13)]
    exact two 1 (fun _ => rfl) (fun h => absurd k13 h)
  · rw [if_neg (by simpa using k13)]
    exact two 2 (fun h => absurd h k13) (fun _ => rfl)
theorem rholds_l1 {q0 : api_Query} {q : Nat} {cols : List api_Col} {row : List api_Value} (hc : cols.length < 4611686018427387904) (hr : smallR row) (hs : smallN q0.N) (hns : q0.N.length < 4611686018427387904) (hq : q < q0.N.length) : ∀ (fuel k : Nat), k ≤ q + 1 → q + 1 < k + fuel →
    ref15_Holds.l1 q0 (q : Int) cols row fuel (evS cols row q0.N (q + 1) k) (k : Int) = some ((evS cols row q0.N (q + 1) (q + 1)).getD q false)
  | 0, k, _, h => by omega
  | fuel + 1, k, h1, h2 => by
    by_cases hk : k < q + 1
    · obtain ⟨n, hn, _⟩ := getE (l := q0.N) (i := k) (by omega)
      rw [rholds_step hc hr hs hns hn (ev_false k k (Nat.le_refl _) (by omega)) (by omega), ← ev_step hn]
      exact rholds_l1 hc hr hs hns hq fuel (k + 1) (by omega) (by omega)
    · have : k = q + 1 := by omega
      subst this
      have hl : q < (evS cols row q0.N (q + 1) (q + 1)).length := by rw [ev_len]; omega
      rw [ref15_Holds.l1, if_neg (by simp; omega), ix_of (List.getElem?_eq_getElem hl), Option.bind_some, List.getD_eq_getElem?_getD, List.getElem?_eq_getElem hl]; rfl
theorem rholdsQ_eq {q : api_Query} {i : Int} {cols : List api_Col} {row : List api_Value} (hc : cols.length < 4611686018427387904) (hr : smallR row) (hs : smallN q.N) (hq : q.N.length ≤ 1000000) : ref15_Holds q i cols row = some (holdsQ q i cols row) := by
  unfold ref15_Holds ref15_Holds.j0 holdsQ
  by_cases h0 : i < 0
  · rw [if_pos (by simpa using h0), if_pos rfl, if_pos (Or.inl h0)]
  · rw [if_neg (by simpa using h0)]
    by_cases h1 : (q.N.length : Int) ≤ i
    · rw [if_pos (by simpa using h1), if_pos (Or.inr h1)]
    · rw [if_neg (by simp; omega), if_neg (by omega)]
      obtain ⟨k, rfl⟩ : ∃ k : Nat, i = (k : Int) := ⟨i.toNat, by omega⟩
      have hm : mkS 1 (((k + 1 : Nat)) : Int) false = some (List.replicate (k + 1) false) := by unfold mkS; rw [if_pos (by omega), if_pos (by omega), Int.toNat_natCast]
      rw [w64_nat k (by omega), hm, Option.bind_some]
      have hf : ((k : Int) - 0).toNat + 2 = k + 2 := by omega
      rw [hf]
      have := rholds_l1 (q0 := q) (q := k) (cols := cols) (row := row) hc hr hs (by omega) (by omega) (k + 2) 0 (Nat.zero_le _) (by omega)
      exact this
/-! rows that are left -/
def whereQ (t : api_Table) (q : api_Query) (i : Int) : api_Table := ⟨t.Cols, t.Rows.filter (holdsQ q i t.Cols)⟩
theorem szT.where {t : api_Table} (h : szT t) (q : api_Query) (i : Int) : szT (whereQ t q i) := h.sub rfl (List.length_filter_le _ _) (fun r hr => (List.mem_filter.1 hr).1)
theorem pwhere_l0 {t : api_Table} {q : api_Query} {i : Int} {cols : List api_Col} (ht : szT t) (hr : ∀ r ∈ t.Rows, smallR r) (hs : smallN q.N) (hq : q.N.length ≤ 1000000) : ∀ (fuel k : Nat), k ≤ t.Rows.length → t.Rows.length < k + fuel →
    pred_Where.l0 t q i cols fuel ((t.Rows.take k).filter (holdsQ q i t.Cols)) (k : Int) = some ⟨cols, t.Rows.filter (holdsQ q i t.Cols)⟩
  | 0, k, _, h => by omega
  | fuel + 1, k, h1, h2 => by
    have hrl := ht.r
    rw [pred_Where.l0]
    by_cases hk : k < t.Rows.length
    · obtain ⟨r, hx, ex⟩ := getE hk
      have hm := List.mem_of_getElem? hx
      have hw := ht.w r hm
      have hfl := List.length_filter_le (holdsQ q i t.Cols) (t.Rows.take k)
      rw [List.length_take] at hfl
      rw [if_pos (dlt hk), ix_of hx, Option.bind_some, pholds_eq ht.cols.1 (hr r hm) hs hq, Option.bind_some]
      have e : (t.Rows.take (k + 1)).filter (holdsQ q i t.Cols) = (t.Rows.take k).filter (holdsQ q i t.Cols) ++ (if holdsQ q i t.Cols r = true then [r] else []) := by
        rw [List.take_add_one, hx, List.filter_append]
        congr 1
        simp only [Option.toList_some, List.filter_cons, List.filter_nil]
      simp only [pred_Where.j1, w64_nat k (by omega)]
      by_cases hh : holdsQ q i t.Cols r = true
      · rw [if_pos hh] at e
        rw [if_pos hh, clone_eq (by omega), Option.bind_some, apd_of (by simp only [List.length_singleton]; omega), Option.bind_some, ← e]
        exact pwhere_l0 ht hr hs hq fuel (k + 1) (by omega) (by omega)
      · rw [if_neg hh, List.append_nil] at e
        rw [if_neg hh, ← e]
        exact pwhere_l0 ht hr hs hq fuel (k + 1) (by omega) (by omega)
    · rw [if_neg (dnl (by omega)), List.take_of_length_le (by omega)]
theorem pwhere_eq {t : api_Table} {q : api_Query} {i : Int} (ht : szT t) (hr : ∀ r ∈ t.Rows, smallR r) (hs : smallN q.N) (hq : q.N.length ≤ 1000000) : pred_Where t q i = some (whereQ t q i) := by
  unfold pred_Where
  rw [cloneC_eq (by have := ht.c; omega), Option.bind_some, fuel_nat]
  exact pwhere_l0 ht hr hs hq _ 0 (Nat.zero_le _) (by omega)
/-- The rows of a table that may be are small. -/
theorem small_of_ok : ∀ {r : List api_Value} {cs : List api_Col}, rowOk r cs = true → ∀ v ∈ r, v.S.size ≤ 64
  | [], _, _, v, hv => by cases hv
  | u :: r, [], h, v, hv => by simp [rowOk] at h
  | u :: r, c :: cs, h, v, hv => by
    simp only [rowOk, Bool.and_eq_true] at h
    obtain ⟨⟨_, h2⟩, h3⟩ := h
    rcases List.mem_cons.1 hv with rfl | hv
    · unfold validS at h2
      split at h2
      · simp at h2; rw [h2.1]; decide
      · split at h2
        · simp at h2; exact h2.2.2
        · split at h2
          · simp at h2; rw [h2.2.1]; decide
          · split at h2
            · simp at h2; rw [h2.2]; decide
            · cases h2
    · exact small_of_ok h3 v hv
theorem small_check {t : api_Table} (ht : szT t) (h : checkS t = 0) : ∀ r ∈ t.Rows, smallR r := fun r hr =>
  ⟨by have := ht.w r hr; omega, fun v hv => by have := small_of_ok ((checkS_zero.1 h).2 r hr) v hv; omega⟩
theorem smallN_of {q : api_Query} (h : ok_api_Query q) : smallN q.N := fun n hn => by
  have hq := h.2 n hn
  refine ⟨?_, hq.2.2.2.2.2.1.2.2.1⟩
  have := hq.2.2.2.2.2.2.1.1
  omega
end Go.Proofs.Ytjklfkiaebipnaa.M
