/- Conditions: which rows they hold for: the program and the reference. -/
import Derived.Test.YtjklfkiaebipnaaPure
import Derived.Test.YtjklfkiaebipnaaPLTs
import Derived.Test.YtjklfkiaebipnaaPLFd
import Derived.Test.YtjklfkiaebipnaaPLVc
import Derived.Test.YtjklfkiaebipnaaPLTe
import Derived.Lib.IndexMore
namespace Go.Proofs.Ytjklfkiaebipnaa.M
open Go Go.Eng Go.Proofs Go.RowKit
set_option maxRecDepth 100000
set_option linter.unusedVariables false
set_option linter.unusedSimpArgs false

theorem index_iff (sub : List UInt8) : ∀ s : List UInt8, 0 ≤ Lib.index s sub ↔ sub <:+: s
  | [] => by
    unfold Lib.index
    cases sub with
    | nil => simp
    | cons a r => simp
  | b :: l => by
    have ih := index_iff sub l
    have hg := Lib.index_ge l sub
    unfold Lib.index
    rw [List.infix_cons_iff]
    by_cases h : sub.isPrefixOf (b :: l) = true
    · rw [if_pos h]
      exact ⟨fun _ => Or.inl (List.isPrefixOf_iff_prefix.1 h), fun _ => by omega⟩
    · rw [if_neg h]
      have hp : ¬ sub <+: b :: l := fun hp => h (List.isPrefixOf_iff_prefix.2 hp)
      by_cases h1 : Lib.index l sub = -1
      · rw [if_pos (by simp [h1])]
        have : ¬ sub <:+: l := fun hi => by have := ih.2 hi; omega
        constructor
        · intro h; omega
        · rintro (h | h)
          · exact absurd h hp
          · exact absurd h this
      · rw [if_neg (by simpa using h1)]
        constructor
        · intro _; exact Or.inr (ih.1 (by omega))
        · rintro (h | h)
          · exact absurd h hp
          · have := ih.2 h; omega
theorem contains_iff (s sub : List UInt8) : Lib.contains s sub = true ↔ sub <:+: s := by
  unfold Lib.contains
  rw [decide_eq_true_eq]; exact index_iff sub s
def holdsS (k : Int) (a b : api_Value) : Bool := if (a.Kind != b.Kind) = true then false else if (k == 1) = true then cmpV a b == 0 else if (k == 2) = true then cmpV a b != 0 else if (k == 3) = true then decide (cmpV a b < 0) else if (k == 4) = true then decide (cmpV a b ≤ 0) else if (k == 5) = true then decide (cmpV a b > 0) else if (k == 6) = true then decide (cmpV a b ≥ 0) else false
theorem holds_eq (k : Int) (a b : api_Value) : value_Holds k a b = some (holdsS k a b) := by
  unfold value_Holds holdsS
  rw [cmpV_eq, Option.bind_some]
  simp only [apply_ite some]
theorem rholds_eq (k : Int) (a b : api_Value) (ha : a.S.size < 4611686018427387904) : ref01_Holds k a b = some (holdsS k a b) := by
  unfold ref01_Holds holdsS
  rw [refV_eq ha, Option.bind_some]
  simp only [apply_ite some]
def cellS (cols : List api_Col) (row : List api_Value) (name : ByteArray) : Option api_Value := if 0 ≤ findS cols name then row[(findS cols name).toNat]? else none
def belowS (want : Nat) (l : List Int) (k : Nat) : Bool := decide (l.length = want) && l.all fun m => decide (0 ≤ m ∧ m < (k : Int))
def getS (ok : List Bool) (l : List Int) (j : Nat) : Bool := ok.getD (l.getD j 0).toNat false
def nodeS (cols : List api_Col) (row : List api_Value) (ok : List Bool) (k : Nat) (n : api_Node) : Bool :=
  if n.Kind = 14 then (match cellS cols row n.S with | some v => holdsS n.N v n.V | none => false)
  else if n.Kind = 15 then (match cellS cols row n.S with | some v => decide (v.Kind = 2) && Lib.contains v.S.data.toList n.V.S.data.toList | none => false)
  else if n.Kind = 13 then belowS 1 n.L k && !getS ok n.L 0
  else if n.Kind = 11 then belowS 2 n.L k && (getS ok n.L 0 && getS ok n.L 1)
  else if n.Kind = 12 then belowS 2 n.L k && (getS ok n.L 0 || getS ok n.L 1)
  else false
def evS (cols : List api_Col) (row : List api_Value) (ns : List api_Node) (m : Nat) : Nat → List Bool
  | 0 => List.replicate m false
  | k + 1 => match ns[k]? with
    | some n => (evS cols row ns m k).set k (nodeS cols row (evS cols row ns m k) k n)
    | none => evS cols row ns m k
def holdsQ (q : api_Query) (i : Int) (cols : List api_Col) (row : List api_Value) : Bool :=
  if i < 0 ∨ (q.N.length : Int) ≤ i then false else (evS cols row q.N (i.toNat + 1) (i.toNat + 1)).getD i.toNat false
section
variable {cols : List api_Col} {row : List api_Value} {ns : List api_Node} {m : Nat}
theorem ev_len : ∀ k, (evS cols row ns m k).length = m
  | 0 => by simp [evS]
  | k + 1 => by
    rw [evS]
    split
    · rw [List.length_set]; exact ev_len k
    · exact ev_len k
theorem ev_false : ∀ k j, k ≤ j → j < m → (evS cols row ns m k)[j]? = some false
  | 0, j, _, hj => by simp [evS, hj]
  | k + 1, j, hk, hj => by
    rw [evS]
    split
    · rw [List.getElem?_set_ne (by omega)]; exact ev_false k j (by omega) hj
    · exact ev_false k j (by omega) hj
theorem ev_step {k : Nat} {n : api_Node} (h : ns[k]? = some n) : evS cols row ns m (k + 1) = (evS cols row ns m k).set k (nodeS cols row (evS cols row ns m k) k n) := by rw [evS, h]
end
theorem set_same {α : Type} {xs : List α} {k : Nat} {x : α} (h : xs[k]? = some x) : xs.set k x = xs := by
  refine List.ext_getElem? fun j => ?_
  rw [List.getElem?_set]
  by_cases e : k = j
  · subst e
    rw [if_pos rfl, if_pos (List.getElem?_eq_some_iff.1 h).1, h]
  · rw [if_neg e]
/-! what stands below -/
theorem below_l0 {l : List Int} {k : Int} (hn : l.length < 4611686018427387904) : ∀ (fuel i : Nat), i ≤ l.length → l.length < i + fuel →
    ∃ y, slices_IndexFunc_int_int_f_pred_Holds_2_1p.l0 l k fuel (i : Int) = some y ∧ (0 ≤ y ↔ ¬ (l.drop i).all (fun m => decide (0 ≤ m ∧ m < k)) = true)
  | 0, i, _, h => by omega
  | fuel + 1, i, h1, h2 => by
    rw [slices_IndexFunc_int_int_f_pred_Holds_2_1p.l0]
    by_cases hi : i < l.length
    · obtain ⟨c, hc, ec⟩ := getE hi
      obtain ⟨y, hy, hy2⟩ := below_l0 (k := k) hn fuel (i + 1) (by omega) (by omega)
      rw [if_pos (dlt hi), ix_of hc, Option.bind_some]
      unfold pred_Holds_2_1_cp
      rw [ec, List.all_cons]
      by_cases a1 : c < 0
      · rw [if_pos (by simpa using a1), Option.bind_some, if_pos rfl]
        exact ⟨_, rfl, by simp [show ¬ (0 ≤ c) by omega]⟩
      · rw [if_neg (by simpa using a1), Option.bind_some]
        by_cases a2 : c ≥ k
        · rw [if_pos (by simpa using a2)]
          exact ⟨_, rfl, by simp [show ¬ (c < k) by omega]⟩
        · rw [if_neg (by simpa using a2), w64_nat i (by omega), hy]
          exact ⟨_, rfl, by rw [hy2]; simp [show 0 ≤ c by omega, show c < k by omega]⟩
    · rw [if_neg (dnl (by omega)), List.drop_of_length_le (by omega)]
      exact ⟨_, rfl, by simp⟩
theorem below_eq {w : Nat} {n : api_Node} {k : Nat} (hn : n.L.length < 4611686018427387904) : pred_Holds_2_cp_cp (w : Int) n (k : Int) = some (belowS w n.L k) := by
  unfold pred_Holds_2_cp_cp belowS
  by_cases h : n.L.length = w
  · rw [if_pos (by simp; omega)]
    unfold slices_ContainsFunc_int_int_f_pred_Holds_2_1p slices_IndexFunc_int_int_f_pred_Holds_2_1p
    obtain ⟨y, hy, hy2⟩ := below_l0 (k := (k : Int)) hn (n.L.length + 1) 0 (Nat.zero_le _) (by omega)
    rw [fuel_nat, show (0 : Int) = ((0 : Nat) : Int) from rfl, hy, Option.bind_some, Option.bind_some]
    rw [List.drop_zero] at hy2
    congr 1
    cases hb : n.L.all (fun m => decide (0 ≤ m ∧ m < (k : Int))) with
    | true =>
      have : ¬ 0 ≤ y := fun h0 => hy2.1 h0 hb
      simp [h, show ¬ y ≥ 0 from this]
    | false =>
      have : 0 ≤ y := hy2.2 (by rw [hb]; decide)
      simp [show y ≥ 0 from this]
  · rw [if_neg (by simp; omega)]
    simp [h]
theorem below_ix {w : Nat} {l : List Int} {k j : Nat} {ok : List Bool} (h : belowS w l k = true) (hj : j < w) (hk : k < ok.length) : ix l (j : Int) = some (l.getD j 0) ∧ ix ok (l.getD j 0) = some (getS ok l j) := by
  unfold belowS at h
  simp only [Bool.and_eq_true, decide_eq_true_eq, List.all_eq_true] at h
  obtain ⟨h1, h2⟩ := h
  have hjl : j < l.length := by omega
  have e : l.getD j 0 = l[j] := by simp [hjl]
  have h3 := h2 l[j] (List.getElem_mem hjl)
  refine ⟨by rw [ix_of (List.getElem?_eq_getElem hjl), e], ?_⟩
  have e2 : l.getD j 0 = ((l.getD j 0).toNat : Int) := by rw [e]; omega
  have h4 : (l.getD j 0).toNat < ok.length := by rw [e]; omega
  have e3 : getS ok l j = ok[(l.getD j 0).toNat] := by unfold getS; rw [List.getD_eq_getElem?_getD, List.getElem?_eq_getElem h4]; rfl
  rw [e3]
  unfold ix
  rw [if_pos (by omega), List.getElem?_eq_getElem h4]
/-! cells -/
theorem cell_eq {n : api_Node} {cols : List api_Col} {row : List api_Value} (hn : cols.length < 4611686018427387904) : pred_Holds_1_cp_cp n cols row = some (match cellS cols row n.S with | some v => (v, true) | none => (⟨0, 0, ⟨#[]⟩, H0⟩, false)) := by
  unfold pred_Holds_1_cp_cp pred_Holds_1_cp_cp.j0 cellS
  rw [find_eq hn, Option.bind_some]
  by_cases h : findS cols n.S < 0
  · rw [if_pos (by simpa using h), if_pos rfl, if_neg (show ¬ 0 ≤ findS cols n.S by omega)]; rfl
  · rw [if_neg (by simpa using h), if_pos (show 0 ≤ findS cols n.S by omega)]
    by_cases h2 : findS cols n.S ≥ (row.length : Int)
    · rw [if_pos (show decide (findS cols n.S ≥ (row.length : Int)) = true from decide_eq_true h2), List.getElem?_eq_none (by omega)]; rfl
    · have hl : (findS cols n.S).toNat < row.length := by omega
      rw [if_neg (show ¬ decide (findS cols n.S ≥ (row.length : Int)) = true by simpa using h2), List.getElem?_eq_getElem hl]
      have : ix row (findS cols n.S) = some row[(findS cols n.S).toNat] := by
        unfold ix; rw [if_pos (by omega), List.getElem?_eq_getElem hl]
      rw [this]; rfl
/-- A row's texts are not too long to be looked through. -/
def smallR (row : List api_Value) : Prop := row.length < 4611686018427387904 ∧ ∀ v ∈ row, v.S.size < 4294967281
def smallN (ns : List api_Node) : Prop := ∀ n ∈ ns, n.L.length < 4611686018427387904 ∧ n.V.S.size ≤ 140737488351232
theorem cell_mem {cols : List api_Col} {row : List api_Value} {s : ByteArray} {v : api_Value} (h : cellS cols row s = some v) : v ∈ row := by
  unfold cellS at h
  split at h
  · exact List.mem_of_getElem? h
  · cases h
theorem upd_set {α : Type} (xs : List α) (k : Nat) (x : α) : upd xs (k : Int) x = xs.set k x := rfl
theorem pholds_step {q : Int} {cols : List api_Col} {row : List api_Value} {ns : List api_Node} {ok : List Bool} {fuel k : Nat} {n : api_Node} (hc : cols.length < 4611686018427387904) (hr : smallR row) (hs : smallN ns) (hns : ns.length < 4611686018427387904) (hk : ns[k]? = some n) (hok : ok[k]? = some false) :
    pred_Holds.l1 q cols row ns (fuel + 1) ok (k : Int) = pred_Holds.l1 q cols row ns fuel (ok.set k (nodeS cols row ok k n)) ((k + 1 : Nat) : Int) := by
  have hkl := (List.getElem?_eq_some_iff.1 hk).1
  have hkok := (List.getElem?_eq_some_iff.1 hok).1
  obtain ⟨hL, hV⟩ := hs n (List.mem_of_getElem? hk)
  have b1 := below_eq (w := 1) (n := n) (k := k) hL
  have b2 := below_eq (w := 2) (n := n) (k := k) hL
  have hw := w64_nat k (show k < 9223372036854775807 by omega)
  rw [pred_Holds.l1, if_pos (dlt hkl), ix_of hk, Option.bind_some]
  simp only [pred_Holds.j2, pred_Holds.j3, pred_Holds.j4, pred_Holds.j5, pred_Holds.j6, pred_Holds.j7, pred_Holds.j8, pred_Holds.j9, pred_Holds.j10, pred_Holds.j11, ix_of hok, Option.bind_some, upd_set, hw, cell_eq hc]
  unfold nodeS
  by_cases k14 : n.Kind = 14
  · rw [if_pos (by simpa using k14), if_pos k14]
    cases hce : cellS cols row n.S with
    | none => rfl
    | some v => simp only [if_true, holds_eq, Option.bind_some]
  · rw [if_neg (by simpa using k14), if_neg k14]
    by_cases k15 : n.Kind = 15
    · rw [if_pos (by simpa using k15), if_pos k15]
      cases hce : cellS cols row n.S with
      | none => rfl
      | some v =>
        simp only [if_true]
        by_cases hk2 : v.Kind = 2
        · have hv := hr.2 v (cell_mem hce)
          rw [if_pos (by simpa using hk2)]
          unfold strings_Contains
          rw [if_pos hv, Option.bind_some]
          simp [hk2]
        · rw [if_neg (by simpa using hk2)]
          simp [hk2]
    · rw [if_neg (by simpa using k15), if_neg k15]
      by_cases k13 : n.Kind = 13
      · rw [if_pos (by simpa using k13), if_pos k13, show (1 : Int) = ((1 : Nat) : Int) from rfl, b1, Option.bind_some]
        cases hb : belowS 1 n.L k with
        | false => simp
        | true =>
          obtain ⟨i1, i2⟩ := below_ix (j := 0) hb (by omega) hkok
          have i1' : ix n.L 0 = some (n.L.getD 0 0) := i1
          rw [if_pos rfl, i1', Option.bind_some, i2, Option.bind_some]
          simp
      · rw [if_neg (by simpa using k13), if_neg k13]
        by_cases k11 : n.Kind = 11
        · rw [if_pos (by simpa using k11), if_pos k11, show (2 : Int) = ((2 : Nat) : Int) from rfl, b2, Option.bind_some]
          cases hb : belowS 2 n.L k with
          | false => simp
          | true =>
            obtain ⟨i1, i2⟩ := below_ix (j := 0) hb (by omega) hkok
            obtain ⟨i3, i4⟩ := below_ix (j := 1) hb (by omega) hkok
            have i1' : ix n.L 0 = some (n.L.getD 0 0) := i1
            have i3' : ix n.L 1 = some (n.L.getD 1 0) := i3
            rw [if_pos rfl, i1', Option.bind_some, i2, Option.bind_some]
            cases hg : getS ok n.L 0 with
            | false => simp
            | true => rw [if_pos rfl, i3', Option.bind_some, i4, Option.bind_some]; simp
        · rw [if_neg (by simpa using k11), if_neg k11]
          by_cases k12 : n.Kind = 12
          · rw [if_pos (by simpa using k12), if_pos k12, show (2 : Int) = ((2 : Nat) : Int) from rfl, b2, Option.bind_some]
            cases hb : belowS 2 n.L k with
            | false => simp
            | true =>
              obtain ⟨i1, i2⟩ := below_ix (j := 0) hb (by omega) hkok
              obtain ⟨i3, i4⟩ := below_ix (j := 1) hb (by omega) hkok
              have i1' : ix n.L 0 = some (n.L.getD 0 0) := i1
              have i3' : ix n.L 1 = some (n.L.getD 1 0) := i3
              rw [if_pos rfl, i1', Option.bind_some, i2, Option.bind_some]
              cases hg : getS ok n.L 0 with
              | true => simp
              | false => rw [if_neg (by decide), i3', Option.bind_some, i4, Option.bind_some]; simp
          · rw [if_neg (by simpa using k12), if_neg k12, set_same hok]
theorem pholds_l1 {q : Nat} {cols : List api_Col} {row : List api_Value} {ns : List api_Node} (hc : cols.length < 4611686018427387904) (hr : smallR row) (hs : smallN ns) (hns : ns.length < 4611686018427387904) (hq : ns.length = q + 1) : ∀ (fuel k : Nat), k ≤ ns.length → ns.length < k + fuel →
    pred_Holds.l1 (q : Int) cols row ns fuel (evS cols row ns (q + 1) k) (k : Int) = some ((evS cols row ns (q + 1) (q + 1)).getD q false)
  | 0, k, _, h => by omega
  | fuel + 1, k, h1, h2 => by
    by_cases hk : k < ns.length
    · obtain ⟨n, hn, _⟩ := getE hk
      rw [pholds_step hc hr hs hns hn (ev_false k k (Nat.le_refl _) (by omega)), ← ev_step hn]
      exact pholds_l1 hc hr hs hns hq fuel (k + 1) (by omega) (by omega)
    · have : k = q + 1 := by omega
      subst this
      have hl : q < (evS cols row ns (q + 1) (q + 1)).length := by rw [ev_len]; omega
      rw [pred_Holds.l1, if_neg (dnl (by omega)), ix_of (List.getElem?_eq_getElem hl), Option.bind_some]
      simp [hl]
theorem ev_take {cols : List api_Col} {row : List api_Value} {ns : List api_Node} {m p : Nat} : ∀ k, k ≤ p → evS cols row (ns.take p) m k = evS cols row ns m k
  | 0, _ => rfl
  | k + 1, h => by
    rw [evS, evS, ev_take k (by omega), List.getElem?_take, if_pos (by omega)]
theorem pholds_eq {q : api_Query} {i : Int} {cols : List api_Col} {row : List api_Value} (hc : cols.length < 4611686018427387904) (hr : smallR row) (hs : smallN q.N) (hq : q.N.length ≤ 1000000) : pred_Holds q i cols row = some (holdsQ q i cols row) := by
  unfold pred_Holds pred_Holds.j0 holdsQ
  by_cases h0 : i < 0
  · rw [if_pos (by simpa using h0), if_pos rfl, if_pos (Or.inl h0)]
  · rw [if_neg (by simpa using h0)]
    by_cases h1 : (q.N.length : Int) ≤ i
    · rw [if_pos (by simpa using h1), if_pos (Or.inr h1)]
    · rw [if_neg (by simp; omega), if_neg (by omega)]
      obtain ⟨k, rfl⟩ : ∃ k : Nat, i = (k : Int) := ⟨i.toNat, by omega⟩
      have hm : mkS 1 (((k + 1 : Nat)) : Int) false = some (List.replicate (k + 1) false) := by unfold mkS; rw [if_pos (by omega), if_pos (by omega), Int.toNat_natCast]
      rw [w64_nat k (by omega), hm, Option.bind_some, cut_of (by omega) (by omega) (by omega), Option.bind_some]
      have e : (q.N.drop (0 : Int).toNat).take ((((k + 1 : Nat)) : Int).toNat - (0 : Int).toNat) = q.N.take (k + 1) := rfl
      have hl : (q.N.take (k + 1)).length = k + 1 := by simp; omega
      rw [e, fuel_nat]
      have := pholds_l1 (q := k) (cols := cols) (row := row) (ns := q.N.take (k + 1)) hc hr (fun n hn => hs n (List.mem_of_mem_take hn)) (by omega) hl ((q.N.take (k + 1)).length + 1) 0 (Nat.zero_le _) (by omega)
      refine Eq.trans this ?_
      rw [ev_take (k + 1) (Nat.le_refl _)]
      simp
/-! the reference -/
theorem cuts_of {s : ByteArray} {l h : Nat} (h1 : l ≤ h) (h2 : h ≤ s.size) : ∃ t, cuts s (l : Int) (h : Int) = some t ∧ t.data.toList = (s.data.toList.drop l).take (h - l) := by
  unfold cuts
  rw [if_pos (by omega), if_pos (by omega), if_pos (by omega)]
  refine ⟨_, rfl, ?_⟩
  rw [ByteArray.data_extract, Array.toList_extract]; rfl
theorem bytes_eq {a b : ByteArray} : a = b ↔ a.data.toList = b.data.toList := by
  constructor
  · rintro rfl; rfl
  · intro h
    cases a; cases b
    simp only at h
    congr 1
    exact Array.toList_inj.1 h
theorem infix_drop {sub s : List UInt8} {i : Nat} (hi : i + sub.length ≤ s.length) : sub <:+: s.drop i ↔ (s.drop i).take sub.length = sub ∨ sub <:+: s.drop (i + 1) := by
  cases hs : s.drop i with
  | nil =>
    have : s.length ≤ i := by have := congrArg List.length hs; simp at this; omega
    have h0 : sub.length = 0 := by omega
    have : sub = [] := List.eq_nil_of_length_eq_zero h0
    subst this
    simp
  | cons b r =>
    have hr : s.drop (i + 1) = r := by rw [← List.drop_drop, hs]; rfl
    rw [List.infix_cons_iff, hr, List.prefix_iff_eq_take]
    constructor
    · rintro (h | h)
      · exact Or.inl h.symm
      · exact Or.inr h
    · rintro (h | h)
      · exact Or.inl h.symm
      · exact Or.inr h
theorem part_l0 {a b : ByteArray} (ha : a.size ≤ 140737488351232) (hb : b.size < 4611686018427387904) : ∀ (fuel i : Nat), i ≤ b.size + 1 → b.size + 1 < i + fuel + a.size →
    1 ≤ fuel → (a.size = 0 → i ≤ b.size) → ref15_part.l0 a b fuel (i : Int) = some (decide (a.data.toList <:+: b.data.toList.drop i))
  | 0, i, _, _, h, _ => by omega
  | fuel + 1, i, h1, h2, _, hz => by
    have sa : a.data.toList.length = a.size := rfl
    have sb : b.data.toList.length = b.size := rfl
    have e : ((i : Int) + (a.size : Int)) = ((i + a.size : Nat) : Int) := by omega
    rw [ref15_part.l0, w64 (x := (i : Int) + (a.size : Int)) (by omega) (by omega)]
    by_cases hi : i + a.size ≤ b.size
    · obtain ⟨t, ht, ht2⟩ := cuts_of (s := b) (l := i) (h := i + a.size) (by omega) hi
      rw [if_pos (by simp; omega), e, ht, Option.bind_some, w64_nat i (by omega), str_eq]
      have key := infix_drop (sub := a.data.toList) (s := b.data.toList) (i := i) (by omega)
      have hta : t = a ↔ (b.data.toList.drop i).take a.data.toList.length = a.data.toList := by
        rw [bytes_eq, ht2, show i + a.size - i = a.size by omega]; rfl
      by_cases hteq : t = a
      · rw [if_pos (by simpa using hteq)]
        have := key.2 (Or.inl (hta.1 hteq))
        simp [this]
      · rw [if_neg (by simpa using hteq), part_l0 ha hb fuel (i + 1) (by omega) (by omega) (by omega) (fun h0 => by
          exfalso
          have h0' : a.data.toList = [] := List.eq_nil_of_length_eq_zero (by omega)
          exact hteq (hta.2 (by rw [h0']; rfl)))]
        congr 1
        rw [decide_eq_decide, key]
        exact ⟨Or.inr, fun h => h.elim (fun h => absurd (hta.2 h) hteq) id⟩
    · rw [if_neg (by simp; omega)]
      have : ¬ a.data.toList <:+: b.data.toList.drop i := fun h => by
        have := h.length_le
        simp only [List.length_drop, sa, sb] at this
        omega
      simp [this]
theorem part_eq {a b : ByteArray} (ha : a.size ≤ 140737488351232) (hb : b.size < 4611686018427387904) : ref15_part a b = some (Lib.contains b.data.toList a.data.toList) := by
  unfold ref15_part
  rw [show (0 : Int) + (a.size : Int) = (a.size : Int) by omega, w64 (x := (a.size : Int)) (by omega) (by omega)]
  have := part_l0 ha hb (((b.size : Int) - (a.size : Int)).toNat + 2) 0 (by omega) (by omega) (by omega) (fun _ => by omega)
  refine Eq.trans this ?_
  congr 1
  rw [List.drop_zero]
  have := contains_iff b.data.toList a.data.toList
  cases h : Lib.contains b.data.toList a.data.toList with
  | true => simp [this.1 h]
  | false =>
    have : ¬ a.data.toList <:+: b.data.toList := fun h2 => by rw [this.2 h2] at h; cases h
    simp [this]
end Go.Proofs.Ytjklfkiaebipnaa.M
