/- Streams: the law of room. -/
import Derived.Test.YtffleadhhhpnlaaDoorPure
import Derived.Test.YtffleadhhhpnlaaDoorPL6c
namespace Go.Proofs.YtffleadhhhpnlaaDoor.M
open Go Go.Eng Go.Proofs Go.RowKit
set_option maxRecDepth 100000
set_option linter.unusedVariables false
set_option linter.unusedSimpArgs false

theorem ofF_get (n : ByteArray) : ∀ (S : List Stm) (i m : Nat) (c : Int), (ofF n i S)[m]? = some c → ∃ j p, c = ((i + j : Nat) : Int) ∧ S[j]? = some p ∧ p.1 = n
  | [], _, _, _, h => by simp [ofF] at h
  | p :: r, i, m, c, h => by
    simp only [ofF] at h
    have next : ∀ m, (ofF n (i + 1) r)[m]? = some c → ∃ j q, c = ((i + j : Nat) : Int) ∧ (p :: r)[j]? = some q ∧ q.1 = n := fun m h => by
      obtain ⟨j, q, h1, h2, h3⟩ := ofF_get n r (i + 1) m c h
      exact ⟨j + 1, q, by rw [h1]; congr 1; omega, by simpa using h2, h3⟩
    split at h
    · rename_i hn
      cases m with
      | zero =>
        simp only [List.getElem?_cons_zero, Option.some.injEq] at h
        exact ⟨0, p, by rw [← h]; rfl, rfl, hn⟩
      | succ m => exact next m (by simpa using h)
    · exact next m h
theorem ofF_ge (n : ByteArray) (S : List Stm) (i : Nat) : ∀ c ∈ ofF n i S, (i : Int) ≤ c := fun c hc => by
  obtain ⟨m, hm, e⟩ := List.getElem_of_mem hc
  obtain ⟨j, p, h1, _⟩ := ofF_get n S i m c (by rw [List.getElem?_eq_getElem hm, e])
  omega
theorem ofF_asc (n : ByteArray) : ∀ (S : List Stm) (i : Nat), (ofF n i S).Pairwise (· < ·)
  | [], _ => List.Pairwise.nil
  | p :: r, i => by
    simp only [ofF]
    split
    · exact List.Pairwise.cons (fun c hc => by have := ofF_ge n r (i + 1) c hc; omega) (ofF_asc n r (i + 1))
    · exact ofF_asc n r (i + 1)
theorem ofF_count (n : ByteArray) : ∀ (S : List Stm) (i : Nat), (ofF n i S).length = S.countP (fun p => decide (p.1 = n))
  | [], _ => rfl
  | p :: r, i => by
    simp only [ofF]
    rw [List.countP_cons]
    by_cases h : p.1 = n
    · rw [if_pos h, List.length_cons, ofF_count n r (i + 1)]; simp [h]
    · rw [if_neg h, ofF_count n r (i + 1)]; simp [h]
def cntS (S : List Stm) (N : List ByteArray) : Nat := (N.map fun n => S.countP (fun p => decide (p.1 = n))).sum
open Classical in
theorem cntS_eq (S : List Stm) : ∀ (N : List ByteArray), N.Nodup → cntS S N = S.countP (fun p => decide (p.1 ∈ N))
  | [], _ => by simp [cntS]
  | n :: N, h => by
    rw [List.nodup_cons] at h
    have ih := cntS_eq S N h.2
    unfold cntS at *
    rw [List.map_cons, List.sum_cons, ih]
    clear ih
    induction S with
    | nil => rfl
    | cons p r ihs =>
      simp only [List.countP_cons]
      have e1 : (if decide (p.1 = n) = true then 1 else 0) + (if decide (p.1 ∈ N) = true then 1 else 0) = (if decide (p.1 ∈ n :: N) = true then 1 else 0) := by
        by_cases hn : p.1 = n
        · simp [hn, h.1]
        · simp [hn]
      omega
open Classical in
theorem cntS_le (S : List Stm) {N : List ByteArray} (h : N.Nodup) : cntS S N ≤ S.length := by rw [cntS_eq S N h]; exact List.countP_le_length
open Classical in
theorem cntS_all {S : List Stm} {N : List ByteArray} (h : N.Nodup) (ha : ∀ p ∈ S, p.1 ∈ N) : cntS S N = S.length := by
  rw [cntS_eq S N h]
  exact List.countP_eq_length.2 fun p hp => by simpa using ha p hp
theorem cntS_take {S : List Stm} {N : List ByteArray} {k : Nat} {n : ByteArray} (hn : N[k]? = some n) : cntS S (N.take (k + 1)) = cntS S (N.take k) + S.countP (fun p => decide (p.1 = n)) := by
  unfold cntS
  rw [List.take_add_one, hn]
  simp

theorem room_l8 {kl7 : Int → Int → Option Bool} {most : Int} {S : List Stm} (hS : OkS S) {N : List ByteArray} {t : Int} {k : Nat} {n : ByteArray} (hn : N[k]? = some n) : ∀ (fuel m : Nat), m ≤ (ofF n 0 S).length → (ofF n 0 S).length < m + fuel →
    law06_StreamsRoom.l8 kl7 most (DS most S).l (DS most S).ids N t (k : Int) (ofF n 0 S) fuel (m : Int) = kl7 (IntKind.i64.wrap (t + ((ofF n 0 S).length : Int))) (IntKind.i64.wrap ((k : Int) + 1))
  | 0, m, _, h => by omega
  | fuel + 1, m, h1, h2 => by
    have hlen := ofF_len n S 0
    have hSl := hS.len
    rw [law06_StreamsRoom.l8]
    by_cases hm : m < (ofF n 0 S).length
    · obtain ⟨c, hc, _⟩ := getE hm
      obtain ⟨j, p, e1, e2, e3⟩ := ofF_get n S 0 m c hc
      rw [Nat.zero_add] at e1
      subst e1
      have ih := room_l8 (kl7 := kl7) (most := most) hS (t := t) hn fuel (m + 1) (by omega) (by omega)
      rw [if_pos (dlt hm), ix_of hc, Option.bind_some, ds_eta, keys_in hS e2, Option.bind_some, if_neg (by simp), ix_of hn, Option.bind_some]
      simp only [str_eq]
      rw [if_neg (by simp [e3])]
      unfold law06_StreamsRoom.j9
      rw [w64_nat m (by omega), ih]
      by_cases h0 : m = 0
      · subst h0
        rw [if_neg (by simp), if_neg (by simp)]
      · obtain ⟨m', rfl⟩ : ∃ m', m = m' + 1 := ⟨m - 1, by omega⟩
        obtain ⟨d, hd, _⟩ := getE (l := ofF n 0 S) (i := m') (by omega)
        have hlt : d < (j : Int) := by
          have := List.pairwise_iff_getElem.1 (ofF_asc n S 0) m' (m' + 1) (by omega) hm (by omega)
          rw [List.getElem?_eq_getElem (by omega)] at hd hc
          have h3 := Option.some.inj hd
          have h4 := Option.some.inj hc
          omega
        rw [if_pos (by simp <;> omega), Option.bind_some, w64 (by omega) (by omega), show ((m' + 1 : Nat) : Int) - 1 = (m' : Int) by omega, ix_of hd, Option.bind_some, if_neg (by simp; omega)]
    · rw [if_neg (dnl (by omega))]
theorem room_l7 {most : Int} {S : List Stm} (hS : OkS S) {N : List ByteArray} (hN : N.Nodup) (hNl : N.length ≤ 1000) (ha : ∀ p ∈ S, p.1 ∈ N) : ∀ (fuel k : Nat), k ≤ N.length → N.length < k + fuel →
    law06_StreamsRoom.l7 most (DS most S).l (DS most S).ids N fuel (cntS S (N.take k) : Int) (k : Int) = some true
  | 0, k, _, h => by omega
  | fuel + 1, k, h1, h2 => by
    have hSl := hS.len
    rw [law06_StreamsRoom.l7]
    by_cases hk : k < N.length
    · obtain ⟨n, hn, _⟩ := getE hk
      have hle := cntS_le S (hN.sublist (List.take_sublist (k + 1) N))
      have hst := cntS_take (S := S) hn
      have hcount := ofF_count n S 0
      have hol := ofF_len n S 0
      rw [if_pos (dlt hk), ix_of hn, Option.bind_some, ds_eta, of_eq hS.len, Option.bind_some, fuel_nat, show (0 : Int) = ((0 : Nat) : Int) from rfl, room_l8 hS hn _ 0 (Nat.zero_le _) (by omega), w64_nat k (by omega), w64 (by omega) (by omega)]
      have := room_l7 (most := most) hS hN hNl ha fuel (k + 1) (by omega) (by omega)
      rw [hst, ← hcount] at this
      rw [Int.natCast_add] at this
      exact this
    · rw [if_neg (dnl (by omega)), ds_eta, len_eq, Option.bind_some, List.take_of_length_le (by omega), cntS_all hN ha]
      simp
open Classical in
theorem room_l4 {kl1 : Int → List streams_stream → List (ByteArray × Int) → List ByteArray → Int → Option Bool} {a1 : List catchmentlaw06_Stream} {N : List ByteArray} (hNl : N.length ≤ 1000) {i : Nat} {x : catchmentlaw06_Stream} (hx : a1[i]? = some x) {y : Int × Int × streams_Dict} : ∀ (fuel k : Nat) (b : Bool), k ≤ N.length → N.length < k + fuel →
    law06_StreamsRoom.l4 kl1 a1 N (i : Int) y fuel b (k : Int) = law06_StreamsRoom.j6 kl1 a1 (i : Int) y (if b = true ∨ x.Name ∈ N.drop k then N else N ++ [x.Name])
  | 0, k, _, _, h => by omega
  | fuel + 1, k, b, h1, h2 => by
    rw [law06_StreamsRoom.l4]
    by_cases hk : k < N.length
    · obtain ⟨n, hn, en⟩ := getE hk
      rw [if_pos (dlt hk), en]
      cases b with
      | true =>
        rw [if_pos rfl, law06_StreamsRoom.j5, w64_nat k (by omega), room_l4 hNl hx fuel (k + 1) true (by omega) (by omega)]
        simp
      | false =>
        rw [if_neg (by simp), ix_of hn, Option.bind_some, ix_of hx, Option.bind_some]
        simp only [str_eq]
        rw [law06_StreamsRoom.j5, w64_nat k (by omega), room_l4 hNl hx fuel (k + 1) _ (by omega) (by omega)]
        by_cases e : n = x.Name
        · simp [e]
        · have : ¬ x.Name = n := fun h => e h.symm
          simp [e, this]
    · rw [if_neg (dnl (by omega)), List.drop_of_length_le (by omega)]
      cases b with
      | true => simp
      | false =>
        rw [if_pos (by simp), ix_of hx, Option.bind_some, apd_of (by simp; omega), Option.bind_some]
        simp
theorem room_l1 {a0 : Int} {a1 : List catchmentlaw06_Stream} (ha : okL a1) : ∀ (fuel i : Nat) (S : List Stm) (N : List ByteArray), i ≤ a1.length → a1.length < i + fuel → i ≤ 100 → OkS S → S.length ≤ i → (S.length : Int) ≤ max 0 (min a0 100) → N.length ≤ i → N.Nodup → (∀ p ∈ S, p.1 ∈ N) →
    law06_StreamsRoom.l1 a0 a1 fuel (min a0 100) (DS (min a0 100) S).l (DS (min a0 100) S).ids N (i : Int) = some true
  | 0, i, _, _, _, h, _, _, _, _, _, _, _ => by omega
  | fuel + 1, i, S, N, h1, h2, h3, hS, hl, hm, hNl, hN, hNS => by
    have hal := ha.1
    have hend : law06_StreamsRoom.j2 (law06_StreamsRoom.l1 a0 a1 fuel) a0 a1 (min a0 100) (DS (min a0 100) S).l (DS (min a0 100) S).ids N (i : Int) false = some true := by
      unfold law06_StreamsRoom.j2
      rw [if_neg (by simp), fuel_nat]
      exact room_l7 hS hN (by omega) hNS _ 0 (Nat.zero_le _) (by omega)
    rw [law06_StreamsRoom.l1]
    by_cases hi : i < a1.length
    · rw [if_pos (dlt hi)]
      by_cases hc : i < 100
      · obtain ⟨x, hx, _⟩ := getE hi
        have hxq := ha.2 x (List.mem_of_getElem? hx)
        have hok := addA_ok (most := min a0 100) hS (by omega) hxq
        have hlen := addA_len (min a0 100) S (qOf x)
        -- what is added
        have hadd : ((addA (min a0 100) S (qOf x)).2.1 = 0 ∧ (((addA (min a0 100) S (qOf x)).2.2.length : Int) = (S.length : Int) + 1 ↔ (pos S (qOf x)).isSome = false) ∨ (addA (min a0 100) S (qOf x)).2.1 ≠ 0 ∧ (addA (min a0 100) S (qOf x)).2.2.length = S.length) ∧
            ((addA (min a0 100) S (qOf x)).2.2 = S ∨ (addA (min a0 100) S (qOf x)).2.2 = S ++ [qOf x] ∧ (S.length : Int) < min a0 100) := by
          unfold addA
          by_cases hv : allV (qOf x).2 = true
          · rw [if_pos hv]
            cases hp : pos S (qOf x) with
            | some c => exact ⟨Or.inl ⟨rfl, by simp; omega⟩, Or.inl rfl⟩
            | none =>
              simp only
              by_cases hr : (S.length : Int) ≥ min a0 100
              · rw [if_pos hr]; exact ⟨Or.inr ⟨by simp, rfl⟩, Or.inl rfl⟩
              · rw [if_neg hr]; exact ⟨Or.inl ⟨rfl, by simp⟩, Or.inr ⟨rfl, by omega⟩⟩
          · rw [if_neg hv]; exact ⟨Or.inr ⟨by simp, rfl⟩, Or.inl rfl⟩
        generalize hA : addA (min a0 100) S (qOf x) = A at *
        have hA' : addA (min a0 100) S (x.Name, x.Keys) = A := hA
        have hm2 : (A.2.2.length : Int) ≤ max 0 (min a0 100) := by
          rcases hadd.2 with h | ⟨h, h'⟩
          · rw [h]; exact hm
          · rw [h]; simp only [List.length_append, List.length_cons, List.length_nil]; omega
        have hNS2 : ∀ N2 : List ByteArray, (∀ n ∈ N, n ∈ N2) → x.Name ∈ N2 → ∀ p ∈ A.2.2, p.1 ∈ N2 := fun N2 hsub hx2 p hp => by
          rcases hadd.2 with h | ⟨h, _⟩
          · rw [h] at hp; exact hsub _ (hNS p hp)
          · rw [h] at hp
            rcases List.mem_append.1 hp with hp | hp
            · exact hsub _ (hNS p hp)
            · simp only [List.mem_singleton] at hp
              rw [hp]; exact hx2
        have hj3 : law06_StreamsRoom.j3 (law06_StreamsRoom.l1 a0 a1 fuel) a1 N (i : Int) (A.1, A.2.1, DS (min a0 100) A.2.2) false = some true := by
          unfold law06_StreamsRoom.j3
          rw [if_neg (by simp), fuel_nat, show (0 : Int) = ((0 : Nat) : Int) from rfl, room_l4 (by omega) hx _ 0 false (Nat.zero_le _) (by omega), List.drop_zero]
          unfold law06_StreamsRoom.j6
          simp only [ds_most]
          rw [w64_nat i (by omega)]
          by_cases hmem : x.Name ∈ N
          · rw [if_pos (Or.inr hmem)]
            exact room_l1 ha fuel (i + 1) A.2.2 N (by omega) (by omega) (by omega) hok (by omega) hm2 (by omega) hN (hNS2 N (fun _ h => h) hmem)
          · rw [if_neg (by simp [hmem])]
            refine room_l1 ha fuel (i + 1) A.2.2 (N ++ [x.Name]) (by omega) (by omega) (by omega) hok (by omega) hm2 (by simp; omega) ?_ (hNS2 _ (fun _ h => List.mem_append_left _ h) (by simp))
            exact List.nodup_append.2 ⟨hN, by simp, fun a ha' b hb => by
              simp only [List.mem_singleton] at hb
              subst hb
              rintro rfl
              exact hmem ha'⟩
        rw [law06_StreamsRoom.j2, if_pos (by simp; omega), ds_eta, len_eq, Option.bind_some, ix_of hx, Option.bind_some, Option.bind_some, find_eq hS hxq, Option.bind_some, Option.bind_some, Option.bind_some, add_eq hS hxq, hA', Option.bind_some, len_eq, Option.bind_some]
        have hw : IntKind.i64.wrap ((S.length : Int) + 1) = (S.length : Int) + 1 := w64 (by omega) (by omega)
        have hgt : decide ((A.2.2.length : Int) > max 0 (min a0 100)) = false := by simp only [decide_eq_false_iff_not]; omega
        rw [hw]
        have hfind : (findA S (x.Name, x.Keys)).2 = (pos S (qOf x)).isSome := rfl
        rcases hadd.1 with ⟨he, hb⟩ | ⟨he, hb⟩
        · rw [if_pos (by simpa using he), hfind, if_neg (by
            by_cases hp : (pos S (qOf x)).isSome = false
            · rw [hp, hb.2 hp]; simp
            · have h1' : (pos S (qOf x)).isSome = true := by
                cases h : (pos S (qOf x)).isSome with
                | true => rfl
                | false => exact absurd h hp
              have h2' : ¬ (A.2.2.length : Int) = (S.length : Int) + 1 := fun h => hp (hb.1 h)
              rw [h1']; simp [h2']), Option.bind_some, hgt]
          exact hj3
        · rw [if_neg (by simpa using he), if_neg (by rw [hb]; simp; omega), Option.bind_some, hgt]
          exact hj3
      · rw [show decide ((i : Int) < 100) = false by simp; omega]
        exact hend
    · rw [if_neg (dnl (by omega))]
      exact hend
theorem StreamsRoom_core (a0 : Int) (a1 : List catchmentlaw06_Stream) (ha : okL a1) : law06_StreamsRoom a0 a1 = some true := by
  unfold law06_StreamsRoom law06_StreamsRoom.j0
  rw [shown_eq, Option.bind_some, new_eq, Option.bind_some, if_neg (by simp), if_neg (by simp), fuel_nat]
  exact room_l1 ha _ 0 [] [] (Nat.zero_le _) (by omega) (by omega) okS_nil (by simp) (by simp; omega) (by simp) List.nodup_nil (fun p h => by cases h)
end Go.Proofs.YtffleadhhhpnlaaDoor.M
