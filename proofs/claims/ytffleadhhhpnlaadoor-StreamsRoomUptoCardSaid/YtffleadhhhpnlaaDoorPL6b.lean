/- Streams: what the other functions answer; the document's examples. -/
import Derived.Test.YtffleadhhhpnlaaDoorPure
import Derived.Test.YtffleadhhhpnlaaDoorPL6a
namespace Go.Proofs.YtffleadhhhpnlaaDoor.M
open Go Go.Eng Go.Proofs Go.RowKit
set_option maxRecDepth 100000
set_option linter.unusedVariables false
set_option linter.unusedSimpArgs false

def ofF (n : ByteArray) : Nat → List Stm → List Int
  | _, [] => []
  | i, p :: r => if p.1 = n then (i : Int) :: ofF n (i + 1) r else ofF n (i + 1) r
theorem ofF_len (n : ByteArray) : ∀ (S : List Stm) (i : Nat), (ofF n i S).length ≤ S.length
  | [], _ => by simp [ofF]
  | p :: r, i => by
    have := ofF_len n r (i + 1)
    simp only [ofF]
    split <;> simp <;> omega
theorem map_get {α β : Type} {f : α → β} {l : List α} {i : Nat} {x : α} (h : l[i]? = some x) : (l.map f)[i]? = some (f x) := by simp [h]
theorem of_l0 {most : Int} {S : List Stm} (hS : S.length ≤ 1000) (n : ByteArray) : ∀ (fuel i : Nat) (acc : List Int), i ≤ S.length → S.length < i + fuel → acc.length ≤ i →
    streams_Dict_Of.l0 (DS most S) n fuel acc (i : Int) = some (acc ++ ofF n i (S.drop i))
  | 0, i, _, _, h, _ => by omega
  | fuel + 1, i, acc, h1, h2, h3 => by
    have hl : (DS most S).l.length = S.length := by simp [DS]
    rw [streams_Dict_Of.l0, hl]
    by_cases hi : i < S.length
    · obtain ⟨x, hx, ex⟩ := getE hi
      rw [if_pos (dlt hi), ix_of (show (DS most S).l[i]? = some ⟨x.1, x.2⟩ from map_get hx), Option.bind_some, ex]
      simp only [str_eq, decide_eq_true_eq, streams_Dict_Of.j1, ofF]
      by_cases hn : x.1 = n
      · rw [if_pos hn, if_pos hn, apd_of (by simp; omega), Option.bind_some, w64_nat i (by omega), of_l0 hS n fuel (i + 1) _ (by omega) (by omega) (by simp; omega)]
        simp
      · rw [if_neg hn, if_neg hn, w64_nat i (by omega), of_l0 hS n fuel (i + 1) _ (by omega) (by omega) (by omega)]
    · rw [if_neg (dnl (by omega)), List.drop_of_length_le (by omega)]
      simp [ofF]
theorem of_eq {most : Int} {S : List Stm} (hS : S.length ≤ 1000) (n : ByteArray) : streams_Dict_Of (DS most S) n = some (ofF n 0 S) := by
  unfold streams_Dict_Of
  rw [show (DS most S).l.length = S.length by simp [DS], fuel_nat]
  exact of_l0 hS n _ 0 [] (Nat.zero_le _) (by omega) (by simp)
theorem rof_l0 {most : Int} {S : List Stm} (hS : S.length ≤ 1000) (n : ByteArray) : ∀ (fuel i : Nat) (acc : List Int), i ≤ S.length → S.length < i + fuel → acc.length ≤ i →
    ref06_Dict_Of.l0 (RS most S) n fuel acc (i : Int) = some (acc ++ ofF n i (S.drop i))
  | 0, i, _, _, h, _ => by omega
  | fuel + 1, i, acc, h1, h2, h3 => by
    have hl : (RS most S).L.length = S.length := by simp [RS]
    rw [ref06_Dict_Of.l0, hl]
    by_cases hi : i < S.length
    · obtain ⟨x, hx, ex⟩ := getE hi
      rw [if_pos (dlt hi), ix_of (show (RS most S).L[i]? = some ⟨x.1, x.2⟩ from map_get hx), Option.bind_some, ex]
      simp only [str_eq, decide_eq_true_eq, ref06_Dict_Of.j1, ofF]
      by_cases hn : x.1 = n
      · rw [if_pos hn, if_pos hn, apd_of (by simp; omega), Option.bind_some, w64_nat i (by omega), rof_l0 hS n fuel (i + 1) _ (by omega) (by omega) (by simp; omega)]
        simp
      · rw [if_neg hn, if_neg hn, w64_nat i (by omega), rof_l0 hS n fuel (i + 1) _ (by omega) (by omega) (by omega)]
    · rw [if_neg (dnl (by omega)), List.drop_of_length_le (by omega)]
      simp [ofF]
theorem rof_eq {most : Int} {S : List Stm} (hS : S.length ≤ 1000) (n : ByteArray) : ref06_Dict_Of (RS most S) n = some (ofF n 0 S) := by
  unfold ref06_Dict_Of
  rw [show (RS most S).L.length = S.length by simp [RS], fuel_nat]
  exact rof_l0 hS n _ 0 [] (Nat.zero_le _) (by omega) (by simp)
theorem len_eq (most : Int) (S : List Stm) : streams_Dict_Len (DS most S) = some (S.length : Int) := by unfold streams_Dict_Len; simp [DS]
theorem clone_eq {most : Int} {S : List Stm} (hS : S.length ≤ 1000) : streams_Dict_Clone (DS most S) = some (DS most S) := by
  unfold streams_Dict_Clone slices_Clone_streams_stream_streams_stream maps_Clone_map_string_int_string_int
  rw [apd_of (by simp [DS]; omega)]
  simp
theorem keys_in {most : Int} {S : List Stm} (hS : OkS S) {i : Nat} {x : Stm} (hx : S[i]? = some x) : streams_Dict_Keys (DS most S) (i : Int) = some (x.1, x.2, true) := by
  have hi := (List.getElem?_eq_some_iff.1 hx).1
  have hg := (hS.good x (List.mem_of_getElem? hx)).1
  unfold streams_Dict_Keys streams_Dict_Keys.j0 slices_Clone_api_Value_api_Value
  rw [if_neg (by simp), show (DS most S).l.length = S.length by simp [DS], if_neg (dng hi), ix_of (show (DS most S).l[i]? = some ⟨x.1, x.2⟩ from map_get hx), Option.bind_some, Option.bind_some, apd_of (by have := hg.2.1; simp; omega)]
  simp
theorem keys_out {most : Int} {S : List Stm} {i : Int} (h : i < 0 ∨ (S.length : Int) ≤ i) : streams_Dict_Keys (DS most S) i = some ((⟨#[]⟩ : ByteArray), [], false) := by
  unfold streams_Dict_Keys streams_Dict_Keys.j0
  by_cases h0 : i < 0
  · rw [if_pos (by simpa using h0), if_pos rfl]
  · rw [if_neg (by simpa using h0), show (DS most S).l.length = S.length by simp [DS], if_pos (by simp; omega)]

/-! ### the reference -/
theorem rfind_l2 {most : Int} {S : List Stm} {kl0 : Int → Option (Int × Bool)} {i : Nat} {p : Stm} (hp : S[i]? = some p) {ks : List api_Value} (hl : ks.length ≤ 1048576) : ∀ (fuel j : Nat) (b : Bool), j ≤ ks.length → ks.length < j + fuel → (b = true → p.2.length = ks.length) →
    ref06_Dict_Find.l2 kl0 (RS most S) ks (i : Int) fuel b (j : Int) = if b = true ∧ p.2.drop j = ks.drop j then some ((i : Int), true) else kl0 (IntKind.i64.wrap ((i : Int) + 1))
  | 0, j, _, _, h, _ => by omega
  | fuel + 1, j, b, h1, h2, h3 => by
    have hpL : (RS most S).L[i]? = some ⟨p.1, p.2⟩ := map_get hp
    rw [ref06_Dict_Find.l2]
    by_cases hj : j < ks.length
    · obtain ⟨x, hx, ex⟩ := getE hj
      rw [if_pos (dlt hj)]
      cases b with
      | true =>
        have hpl := h3 rfl
        obtain ⟨y, hy, ey⟩ := getE (l := p.2) (i := j) (by omega)
        rw [ref06_Dict_Find.j3, if_pos rfl, ix_of hpL, Option.bind_some, ix_of (show p.2[j]? = some y from hy), Option.bind_some, ix_of hx, Option.bind_some, w64_nat j (by omega), rfind_l2 hp hl fuel (j + 1) _ (by omega) (by omega) (fun _ => hpl), ex, ey]
        simp only [decide_eq_true_eq, List.cons.injEq, true_and]
      | false =>
        rw [ref06_Dict_Find.j3, if_neg (by simp), if_neg (by simp), if_neg (by simp)]
    · rw [if_neg (dnl (by omega)), ref06_Dict_Find.j3, if_neg (by simp)]
      have e2 : ks.drop j = [] := List.drop_of_length_le (by omega)
      cases b with
      | true =>
        have hpl := h3 rfl
        rw [if_pos rfl, e2, List.drop_of_length_le (by omega), if_pos ⟨rfl, rfl⟩]
      | false => rw [if_neg (by simp), if_neg (by simp)]
theorem ieq {a b : Nat} (h : ((a : Int) == (b : Int)) = true) : a = b := by have := eq_of_beq h; omega
theorem rfind_l0 {most : Int} {S : List Stm} (hS : S.length ≤ 1000) {n : ByteArray} {ks : List api_Value} (hl : ks.length ≤ 1048576) (hk : ∀ p ∈ S, p.2.length ≤ 1048576) : ∀ (fuel i : Nat), i ≤ S.length → S.length < i + fuel →
    ref06_Dict_Find.l0 (RS most S) n ks fuel (i : Int) = some ((posF i (S.drop i) (n, ks)).getD 0, (posF i (S.drop i) (n, ks)).isSome)
  | 0, i, _, h => by omega
  | fuel + 1, i, h1, h2 => by
    have hlL : (RS most S).L.length = S.length := by simp [RS]
    rw [ref06_Dict_Find.l0, hlL]
    by_cases hi : i < S.length
    · obtain ⟨p, hp, ex⟩ := getE hi
      have hpL : (RS most S).L[i]? = some ⟨p.1, p.2⟩ := map_get hp
      have hpk := hk p (List.mem_of_getElem? hp)
      rw [if_pos (dlt hi), ix_of hpL, Option.bind_some, ex]
      simp only [str_eq, decide_eq_true_eq, posF]
      have ih := rfind_l0 (most := most) (n := n) hS hl hk fuel (i + 1) (by omega) (by omega)
      by_cases hn : p.1 = n
      · rw [if_pos hn, Option.bind_some, ref06_Dict_Find.j1, fuel_nat, show (0 : Int) = ((0 : Nat) : Int) from rfl, rfind_l2 hp hl _ 0 _ (Nat.zero_le _) (by omega) (fun h => ieq h)]
        by_cases he : p.2 = ks
        · have : p = (n, ks) := Prod.ext hn he
          rw [if_pos ⟨by rw [he]; simp, by rw [he]⟩, if_pos this]
          rfl
        · rw [if_neg (by rintro ⟨_, h⟩; exact he (by simpa using h)), if_neg (by rintro h; exact he (by rw [h])), w64_nat i (by omega), ih]; rfl
      · rw [if_neg hn, ref06_Dict_Find.j1, fuel_nat, show (0 : Int) = ((0 : Nat) : Int) from rfl, rfind_l2 hp hl _ 0 _ (Nat.zero_le _) (by omega) (fun h => by cases h), if_neg (by simp), if_neg (by rintro h; exact hn (by rw [h])), w64_nat i (by omega), ih]; rfl
    · rw [if_neg (dnl (by omega)), List.drop_of_length_le (by omega)]
      rfl
theorem rfind_eq {most : Int} {S : List Stm} (hS : OkS S) {n : ByteArray} {ks : List api_Value} (h : okQ (n, ks)) : ref06_Dict_Find (RS most S) n ks = some (findA S (n, ks)) := by
  unfold ref06_Dict_Find
  rw [show (RS most S).L.length = S.length by simp [RS], fuel_nat]
  exact rfind_l0 hS.len h.2.1 (fun p hp => (hS.good p hp).1.2.1) _ 0 (Nat.zero_le _) (by omega)
theorem radd_l0 {most : Int} {S : List Stm} (hS : OkS S) {n : ByteArray} {ks : List api_Value} (h : okQ (n, ks)) : ∀ (fuel i : Nat), i ≤ ks.length → ks.length < i + fuel →
    ref06_Dict_Add.l0 (RS most S) n ks fuel (i : Int) = some (if allV (ks.drop i) = true then (match pos S (n, ks) with
      | some k => ((k, (0 : Int), RS most S) : Int × Int × catchmentref06_Dict)
      | none => if (S.length : Int) ≥ most then (0, 80, RS most S) else ((S.length : Int), 0, RS most (S ++ [(n, ks)]))) else (0, 10, RS most S))
  | 0, i, _, h => by omega
  | fuel + 1, i, h1, h2 => by
    have hkl : ks.length ≤ 1048576 := h.2.1
    rw [ref06_Dict_Add.l0]
    by_cases hi : i < ks.length
    · obtain ⟨x, hx, ex⟩ := getE hi
      rw [if_pos (dlt hi), ix_of hx, Option.bind_some, rvalid_eq, Option.bind_some, ex]
      by_cases hv : validS x = true
      · have ea : allV (x :: ks.drop (i + 1)) = allV (ks.drop (i + 1)) := by simp [allV, hv]
        rw [if_neg (by simp [hv]), w64_nat i (by omega), radd_l0 hS h fuel (i + 1) (by omega) (by omega), ea]
      · have ea : allV (x :: ks.drop (i + 1)) = false := by simp [allV, hv]
        rw [if_pos (by simpa using hv), ea]
        rfl
    · rw [if_neg (dnl (by omega)), List.drop_of_length_le (by omega), rfind_eq hS h, Option.bind_some, if_pos (show allV [] = true from rfl)]
      unfold findA
      cases hp : pos S (n, ks) with
      | some k => rfl
      | none =>
        have hlen := hS.len
        have el : ((RS most S).L.length : Int) = (S.length : Int) := by simp [RS]
        rw [if_neg (by simp), el]
        by_cases hm : (S.length : Int) ≥ most
        · rw [if_pos (by simpa [RS] using hm)]
          simp only [if_pos hm]
        · rw [if_neg (by simpa [RS] using hm), apd_of (by simp; omega), Option.bind_some, apd_of (by simp [RS]; omega), Option.bind_some]
          simp only [if_neg hm, List.nil_append]
          congr 1
          refine Prod.ext ?_ (Prod.ext rfl ?_)
          · simp only [RS, List.length_append, List.length_map, List.length_cons, List.length_nil]
            rw [w64 (by omega) (by omega)]; omega
          · simp [RS]
theorem radd_eq {most : Int} {S : List Stm} (hS : OkS S) {n : ByteArray} {ks : List api_Value} (h : okQ (n, ks)) :
    ref06_Dict_Add (RS most S) n ks = some ((addA most S (n, ks)).1, (addA most S (n, ks)).2.1, RS most (addA most S (n, ks)).2.2) := by
  unfold ref06_Dict_Add
  rw [fuel_nat, show (0 : Int) = ((0 : Nat) : Int) from rfl, radd_l0 hS h _ 0 (Nat.zero_le _) (by omega), List.drop_zero]
  unfold addA
  by_cases hv : allV ks = true
  · simp only [if_pos hv]
    cases hp : pos S (n, ks) with
    | some k => rfl
    | none =>
      by_cases hm : (S.length : Int) ≥ most
      · simp only [if_pos hm]
      · simp only [if_neg hm]
  · simp only [if_neg hv]
theorem same_l0 {a b : List api_Value} (hl : a.length = b.length) (hb : b.length ≤ 1048576) : ∀ (fuel i : Nat), i ≤ a.length → a.length < i + fuel → law06_same.l0 a b fuel (i : Int) = some (decide (a.drop i = b.drop i))
  | 0, i, _, h => by omega
  | fuel + 1, i, h1, h2 => by
    rw [law06_same.l0]
    by_cases hi : i < a.length
    · obtain ⟨x, hx, ex⟩ := getE hi
      obtain ⟨y, hy, ey⟩ := getE (l := b) (i := i) (by omega)
      rw [if_pos (dlt hi), ix_of hx, Option.bind_some, ix_of hy, Option.bind_some, ex, ey]
      by_cases e : x = y
      · rw [if_neg (by simp [e]), w64_nat i (by omega), same_l0 hl hb fuel (i + 1) (by omega) (by omega)]
        simp [e]
      · rw [if_pos (by simp [e])]
        simp [e]
    · rw [if_neg (dnl (by omega)), List.drop_of_length_le (by omega), List.drop_of_length_le (by omega)]
      simp
theorem same_eq {a b : List api_Value} (hb : b.length ≤ 1048576) : law06_same a b = some (decide (a = b)) := by
  unfold law06_same
  by_cases hl : a.length = b.length
  · rw [if_neg (by simp [hl]), fuel_nat, show (0 : Int) = ((0 : Nat) : Int) from rfl, same_l0 hl hb _ 0 (Nat.zero_le _) (by omega)]
    simp
  · rw [if_pos (by simpa using fun e => hl (by omega))]
    have : a ≠ b := fun e => hl (by rw [e])
    simp [this]

/-! ### the document's examples -/
def oneK (n : Int) : List api_Value := [⟨1, n, ⟨#[]⟩, ⟨0, 0, 0, 0, 0, 0, 0, 0⟩⟩]
def nA : ByteArray := ⟨#[97]⟩
def nB : ByteArray := ⟨#[98]⟩
theorem okQ_one {n : ByteArray} (hn : n.size = 1) {k : Int} (h0 : 0 ≤ k) (h1 : k ≤ 3) : okQ (n, oneK k) := by
  refine ⟨by show n.size ≤ _; omega, by simp [oneK], fun v hv => ?_⟩
  simp only [oneK, List.mem_singleton] at hv
  subst hv
  refine ⟨⟨by show _ ≤ k; omega, by show k ≤ _; omega⟩, fun x hx => ?_⟩
  have : x = 0 := by simpa [Arr8.list] using hx
  subst this
  exact ⟨by omega, by omega⟩
theorem one_eq (n : Int) : law06_one n = some (oneK n) := rfl
theorem step {S S' : List Stm} {q : Stm} {a e : Int} (h : addA 2 S q = (a, e, S')) (hS : OkS S) (hq : okQ q) (hl : S.length < 1000) : streams_Dict_Add (DS 2 S) q.1 q.2 = some (a, e, DS 2 S') ∧ OkS S' := by
  have h1 := add_eq (most := 2) hS (n := q.1) (ks := q.2) hq
  have h2 := addA_ok (most := 2) hS hl hq
  have h' : addA 2 S (q.1, q.2) = (a, e, S') := h
  rw [h'] at h1
  rw [h] at h2
  exact ⟨h1, h2⟩
theorem shown_eq : law06_shown = some true := by
  have q1 := okQ_one (n := nA) rfl (k := 1) (by omega) (by omega)
  have q2 := okQ_one (n := nA) rfl (k := 2) (by omega) (by omega)
  have q3 := okQ_one (n := nA) rfl (k := 3) (by omega) (by omega)
  have q4 := okQ_one (n := nB) rfl (k := 1) (by omega) (by omega)
  obtain ⟨e1, s1⟩ := step (S' := [(nA, oneK 1)]) (a := 0) (e := 0) (q := (nA, oneK 1)) (by decide) okS_nil q1 (by simp)
  obtain ⟨e2, s2⟩ := step (S' := [(nA, oneK 1), (nA, oneK 2)]) (a := 1) (e := 0) (q := (nA, oneK 2)) (by decide) s1 q2 (by simp)
  obtain ⟨e3, s3⟩ := step (S' := [(nA, oneK 1), (nA, oneK 2)]) (a := 0) (e := 0) (q := (nA, oneK 1)) (by decide) s2 q1 (by simp)
  obtain ⟨e4, s4⟩ := step (S' := [(nA, oneK 1), (nA, oneK 2)]) (a := 0) (e := 80) (q := (nB, oneK 1)) (by decide) s3 q4 (by simp)
  have f1 := find_eq (most := 2) s4 (n := nA) (ks := oneK 2) q2
  have f2 := find_eq (most := 2) s4 (n := nA) (ks := oneK 3) q3
  have g1 : findA [(nA, oneK 1), (nA, oneK 2)] (nA, oneK 2) = (1, true) := by decide
  have g2 : findA [(nA, oneK 1), (nA, oneK 2)] (nA, oneK 3) = (0, false) := by decide
  have o1 := of_eq (most := 2) s4.len nA
  have g3 : ofF nA 0 [(nA, oneK 1), (nA, oneK 2)] = [0, 1] := by decide
  have k1 := keys_in (most := 2) s4 (i := 1) (x := (nA, oneK 2)) rfl
  have l1 := len_eq 2 [(nA, oneK 1), (nA, oneK 2)]
  rw [g1] at f1
  rw [g2] at f2
  rw [g3] at o1
  unfold law06_shown
  rw [new_eq, Option.bind_some, one_eq, Option.bind_some]
  rw [show streams_Dict_Add (DS 2 []) (⟨#[97]⟩ : ByteArray) (oneK 1) = _ from e1, Option.bind_some, one_eq, Option.bind_some]
  rw [show streams_Dict_Add _ (⟨#[97]⟩ : ByteArray) (oneK 2) = _ from e2, Option.bind_some, Option.bind_some]
  rw [show streams_Dict_Add _ (⟨#[97]⟩ : ByteArray) (oneK 1) = _ from e3, Option.bind_some, Option.bind_some]
  rw [show streams_Dict_Add _ (⟨#[98]⟩ : ByteArray) (oneK 1) = _ from e4, Option.bind_some, Option.bind_some]
  rw [show streams_Dict_Find _ (⟨#[97]⟩ : ByteArray) (oneK 2) = _ from f1, Option.bind_some, one_eq, Option.bind_some]
  rw [show streams_Dict_Find _ (⟨#[97]⟩ : ByteArray) (oneK 3) = _ from f2, Option.bind_some]
  rw [show streams_Dict_Of _ (⟨#[97]⟩ : ByteArray) = _ from o1, Option.bind_some]
  rw [show streams_Dict_Keys _ 1 = _ from k1, Option.bind_some]
  simp only [l1, Option.bind_some, str_eq]
  rfl
end Go.Proofs.YtffleadhhhpnlaaDoor.M
