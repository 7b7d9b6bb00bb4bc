/- Streams: the laws: numbers stay; any calls. -/
import Derived.Test.YtffleadhhhpnlaaDoorPure
import Derived.Test.YtffleadhhhpnlaaDoorPL6b
namespace Go.Proofs.YtffleadhhhpnlaaDoor.M
open Go Go.Eng Go.Proofs Go.RowKit
set_option maxRecDepth 100000
set_option linter.unusedVariables false
set_option linter.unusedSimpArgs false

abbrev qOf (x : catchmentlaw06_Stream) : Stm := (x.Name, x.Keys)
def okL (l : List catchmentlaw06_Stream) : Prop := l.length ≤ 1048576 ∧ ∀ x ∈ l, okQ (qOf x)
theorem ds_eta (most : Int) (S : List Stm) : (⟨most, (DS most S).l, (DS most S).ids⟩ : streams_Dict) = DS most S := rfl
theorem rs_eta (most : Int) (S : List Stm) : (⟨most, (RS most S).L⟩ : catchmentref06_Dict) = RS most S := rfl
theorem ds_most (most : Int) (S : List Stm) : (DS most S).most = most := rfl
theorem rs_most (most : Int) (S : List Stm) : (RS most S).Most = most := rfl
theorem pos_ge {S : List Stm} {q : Stm} {c : Int} (h : pos S q = some c) : 0 ≤ c := by
  obtain ⟨j, h1, _⟩ := posF_some S 0 h
  omega
theorem pos_inj {S : List Stm} {p q : Stm} {c : Int} (hp : pos S p = some c) (hq : pos S q = some c) : p = q := by
  obtain ⟨j, h1, h2⟩ := posF_some S 0 hp
  obtain ⟨k, h3, h4⟩ := posF_some S 0 hq
  have : j = k := by omega
  subst this
  rw [h2] at h4
  exact Option.some.inj h4

/-! ### StreamsStay -/
/-- What is known of a stream's number. -/
def Told (S : List Stm) (x : catchmentlaw06_Stream) (c : Int) : Prop := (allV x.Keys = true ∧ pos S (qOf x) = some c) ∨ (¬ allV x.Keys = true ∧ c = -1)
theorem Told.app {S T : List Stm} {x : catchmentlaw06_Stream} {c : Int} (h : Told S x c) : Told (S ++ T) x c := by
  rcases h with ⟨h1, h2⟩ | h
  · exact Or.inl ⟨h1, posF_app S 0 h2⟩
  · exact Or.inr h
theorem addA_told {S : List Stm} {x : catchmentlaw06_Stream} (hl : (S.length : Int) < 100) : ∃ c T, (addA 100 S (qOf x)).2.2 = S ++ T ∧ Told (S ++ T) x c ∧ c = (if (addA 100 S (qOf x)).2.1 ≠ 0 then -1 else (addA 100 S (qOf x)).1) := by
  unfold addA
  by_cases hv : allV x.Keys = true
  · rw [if_pos (show allV (qOf x).2 = true from hv)]
    cases hp : pos S (qOf x) with
    | some c =>
      exact ⟨c, [], by simp, by rw [List.append_nil]; exact Or.inl ⟨hv, hp⟩, rfl⟩
    | none =>
      simp only
      rw [if_neg (by omega)]
      refine ⟨(S.length : Int), [qOf x], rfl, Or.inl ⟨hv, ?_⟩, by simp⟩
      have := posF_new S 0 hp
      rw [Nat.zero_add] at this
      exact this
  · rw [if_neg (show ¬ allV (qOf x).2 = true from hv)]
    exact ⟨-1, [], by simp, by rw [List.append_nil]; exact Or.inr ⟨hv, rfl⟩, rfl⟩
theorem stay_l6 {kl4 : Int → Option Bool} {a0 : List catchmentlaw06_Stream} (ha : okL a0) {S : List Stm} {I : List Int} {i : Nat} (hi : i < I.length) (hl : I.length ≤ 100) (hI : ∀ k x, a0[k]? = some x → k < I.length → ∃ c, I[k]? = some c ∧ Told S x c) (hla : I.length ≤ a0.length) :
    ∀ (fuel k : Nat), k ≤ i → i < k + fuel → law06_StreamsStay.l6 kl4 a0 I (i : Int) fuel (k : Int) = kl4 (IntKind.i64.wrap ((i : Int) + 1))
  | 0, k, _, h => by omega
  | fuel + 1, k, h1, h2 => by
    rw [law06_StreamsStay.l6]
    by_cases hk : k < i
    · obtain ⟨x, hx, _⟩ := getE (l := a0) (i := k) (by omega)
      obtain ⟨y, hy, _⟩ := getE (l := a0) (i := i) (by omega)
      obtain ⟨c, hc, tc⟩ := hI k x hx (by omega)
      obtain ⟨d, hd, td⟩ := hI i y hy (by omega)
      have hyq := ha.2 y (List.mem_of_getElem? hy)
      have hj7 : law06_StreamsStay.j7 (law06_StreamsStay.l6 kl4 a0 I (i : Int) fuel) I (i : Int) (k : Int) (decide (qOf x = qOf y)) = kl4 (IntKind.i64.wrap ((i : Int) + 1)) := by
        have ih := stay_l6 (kl4 := kl4) ha hi hl hI hla fuel (k + 1) (by omega) (by omega)
        unfold law06_StreamsStay.j7 law06_StreamsStay.j8
        rw [ix_of hd, Option.bind_some, w64_nat k (by omega), ih]
        by_cases d0 : d ≥ 0
        · rw [if_pos (by simpa using d0), ix_of hc, Option.bind_some]
          by_cases c0 : c ≥ 0
          · rw [if_pos (by simpa using c0), Option.bind_some, Option.bind_some]
            have hxv : pos S (qOf x) = some c := by rcases tc with ⟨_, h⟩ | ⟨_, h⟩; exact h; omega
            have hyv : pos S (qOf y) = some d := by rcases td with ⟨_, h⟩ | ⟨_, h⟩; exact h; omega
            have : (d == c) = decide (qOf x = qOf y) := by
              by_cases e : qOf x = qOf y
              · rw [e, hyv] at hxv
                simp [e, Option.some.inj hxv]
              · simp only [e, decide_false]
                simp only [beq_eq_false_iff_ne]
                rintro rfl
                exact e (pos_inj hxv hyv)
            rw [this, if_neg (by simp)]
          · rw [if_neg (by simpa using c0), if_neg (by simp)]
        · rw [if_neg (by simpa using d0), if_neg (by simp)]
      rw [if_pos (by simpa using hk), ix_of hx, Option.bind_some, ix_of hy, Option.bind_some]
      simp only [str_eq, decide_eq_true_eq]
      by_cases hn : x.Name = y.Name
      · rw [if_pos hn, Option.bind_some, Option.bind_some, same_eq hyq.2.1, Option.bind_some]
        have e : decide (x.Keys = y.Keys) = decide (qOf x = qOf y) := by simp [qOf, hn]
        rw [e]; exact hj7
      · rw [if_neg hn]
        have e : false = decide (qOf x = qOf y) := by simp [qOf, hn]
        rw [e]; exact hj7
    · rw [if_neg (by simpa using Nat.le_of_not_lt hk)]
theorem stay_l4 {a0 : List catchmentlaw06_Stream} (ha : okL a0) {S : List Stm} (hS : OkS S) {I : List Int} (hl : I.length ≤ 100) (hI : ∀ k x, a0[k]? = some x → k < I.length → ∃ c, I[k]? = some c ∧ Told S x c) (hla : I.length ≤ a0.length) :
    ∀ (fuel i : Nat), i ≤ I.length → I.length < i + fuel → law06_StreamsStay.l4 a0 100 (DS 100 S).l (DS 100 S).ids I fuel (i : Int) = some true
  | 0, i, _, h => by omega
  | fuel + 1, i, h1, h2 => by
    rw [law06_StreamsStay.l4]
    by_cases hi : i < I.length
    · obtain ⟨x, hx, _⟩ := getE (l := a0) (i := i) (by omega)
      obtain ⟨c, hc, tc⟩ := hI i x hx hi
      have hxq := ha.2 x (List.mem_of_getElem? hx)
      have hj5 : law06_StreamsStay.j5 (law06_StreamsStay.l4 a0 100 (DS 100 S).l (DS 100 S).ids I fuel) a0 I (i : Int) false = some true := by
        unfold law06_StreamsStay.j5
        rw [if_neg (by simp), fuel_nat, show (0 : Int) = ((0 : Nat) : Int) from rfl, stay_l6 ha hi hl hI hla _ 0 (Nat.zero_le _) (by omega), w64_nat i (by omega)]
        exact stay_l4 ha hS hl hI hla fuel (i + 1) (by omega) (by omega)
      rw [if_pos (dlt hi), ix_of hx, Option.bind_some, Option.bind_some, ds_eta, find_eq hS hxq, Option.bind_some, ix_of hc, Option.bind_some]
      by_cases c0 : c ≥ 0
      · have hp : pos S (qOf x) = some c := by rcases tc with ⟨_, h⟩ | ⟨_, h⟩; exact h; omega
        have hf : findA S (x.Name, x.Keys) = (c, true) := by unfold findA; rw [show pos S (x.Name, x.Keys) = some c from hp]; rfl
        rw [if_pos (by simpa using c0), hf, if_neg (by simp), Option.bind_some]
        rw [show ((c, true).1 != c) = false by simp]
        exact hj5
      · rw [if_neg (by simpa using c0)]
        exact hj5
    · rw [if_neg (dnl (by omega))]
theorem stay_l1 {a0 : List catchmentlaw06_Stream} (ha : okL a0) : ∀ (fuel i : Nat) (S : List Stm) (I : List Int), i ≤ a0.length → a0.length < i + fuel → i ≤ 100 → OkS S → S.length ≤ i → I.length = i → (∀ k x, a0[k]? = some x → k < I.length → ∃ c, I[k]? = some c ∧ Told S x c) →
    law06_StreamsStay.l1 a0 fuel 100 (DS 100 S).l (DS 100 S).ids I (i : Int) = some true
  | 0, i, _, _, _, h, _, _, _, _, _ => by omega
  | fuel + 1, i, S, I, h1, h2, h3, hS, hl, hil, hI => by
    have hal := ha.1
    have hend : law06_StreamsStay.j2 (law06_StreamsStay.l1 a0 fuel) a0 100 (DS 100 S).l (DS 100 S).ids I (i : Int) false = some true := by
      unfold law06_StreamsStay.j2
      rw [if_neg (by simp), fuel_nat]
      exact stay_l4 ha hS (by omega) hI (by omega) _ 0 (Nat.zero_le _) (by omega)
    rw [law06_StreamsStay.l1]
    by_cases hi : i < a0.length
    · rw [if_pos (dlt hi)]
      by_cases hc : i < 100
      · obtain ⟨x, hx, _⟩ := getE hi
        have hxq := ha.2 x (List.mem_of_getElem? hx)
        obtain ⟨c, T, e1, e2, e3⟩ := addA_told (S := S) (x := x) (by omega)
        have hok := addA_ok (most := 100) hS (by omega) hxq
        have hlen := addA_len 100 S (qOf x)
        rw [e1] at hok hlen
        have ih := stay_l1 ha fuel (i + 1) (S ++ T) (I ++ [c]) (by omega) (by omega) (by omega) hok (by omega) (by simp [hil]) (fun k y hy hk => by
          by_cases hki : k < I.length
          · obtain ⟨d, hd, td⟩ := hI k y hy hki
            exact ⟨d, by rw [List.getElem?_append_left hki]; exact hd, td.app⟩
          · have : k = i := by simp at hk; omega
            subst this
            rw [hx] at hy
            cases hy
            exact ⟨c, by rw [← hil]; simp, e2⟩)
        have hj3 : law06_StreamsStay.j3 (law06_StreamsStay.l1 a0 fuel) a0 I (i : Int) ((addA 100 S (qOf x)).1, (addA 100 S (qOf x)).2.1, DS 100 (addA 100 S (qOf x)).2.2) c = some true := by
          unfold law06_StreamsStay.j3
          rw [apd_of (by simp; omega), Option.bind_some, w64_nat i (by omega)]
          simp only [e1, ds_most]
          exact ih
        rw [law06_StreamsStay.j2, if_pos (by simp; omega), ix_of hx, Option.bind_some, Option.bind_some, ds_eta, add_eq hS hxq, Option.bind_some]
        by_cases he : (addA 100 S (qOf x)).2.1 = 0
        · rw [if_neg (by simpa using he)]
          rw [if_neg (by simpa using he)] at e3
          rw [e3] at hj3
          exact hj3
        · rw [if_pos (by simpa using he)]
          rw [if_pos (by simpa using he)] at e3
          rw [e3] at hj3
          exact hj3
      · rw [show decide ((i : Int) < 100) = false by simp; omega]
        exact hend
    · rw [if_neg (dnl (by omega))]
      exact hend
theorem StreamsStay_core (a0 : List catchmentlaw06_Stream) (ha : okL a0) : law06_StreamsStay a0 = some true := by
  unfold law06_StreamsStay law06_StreamsStay.j0
  rw [shown_eq, Option.bind_some, new_eq, Option.bind_some, if_neg (by simp), if_neg (by simp), fuel_nat]
  exact stay_l1 ha _ 0 [] [] (Nat.zero_le _) (by omega) (by omega) okS_nil (by simp) rfl (fun k x _ h => by simp at h)

/-! ### StreamsPlays -/
theorem plays_l7 {most : Int} {S : List Stm} (hS : OkS S) : ∀ (fuel k : Nat), k ≤ S.length + 2 → S.length + 2 < k + fuel → law06_StreamsPlays.l7 most (DS most S).l (DS most S).ids (RS most S).L fuel ((k : Int) - 1) = some true
  | 0, k, _, h => by omega
  | fuel + 1, k, h1, h2 => by
    have hlen := hS.len
    have hL : ((RS most S).L.length : Int) = (S.length : Int) := by simp [RS]
    have hw : IntKind.i64.wrap ((k : Int) - 1 + 1) = ((k + 1 : Nat) : Int) - 1 := by rw [w64 (by omega) (by omega)]; omega
    rw [law06_StreamsPlays.l7, hL]
    by_cases hk : k = S.length + 2
    · rw [if_neg (by simp; omega)]
    · have ih := plays_l7 (most := most) hS fuel (k + 1) (by omega) (by omega)
      have hj10 : law06_StreamsPlays.j10 (law06_StreamsPlays.l7 most (DS most S).l (DS most S).ids (RS most S).L fuel) (RS most S).L ((k : Int) - 1) = some true := by
        unfold law06_StreamsPlays.j10
        rw [hw]; exact ih
      rw [if_pos (by simp; omega), ds_eta]
      have hout : ∀ z, z = ((⟨#[]⟩ : ByteArray), ([] : List api_Value), false) → law06_StreamsPlays.j8 (law06_StreamsPlays.l7 most (DS most S).l (DS most S).ids (RS most S).L fuel) (RS most S).L ((k : Int) - 1) z false = some true := by
        rintro z rfl
        unfold law06_StreamsPlays.j8 law06_StreamsPlays.j9
        simp only [str_eq]
        exact hj10
      by_cases h0 : k = 0
      · subst h0
        rw [keys_out (Or.inl (by omega)), Option.bind_some, if_neg (by simp)]
        exact hout _ rfl
      · rw [show decide ((k : Int) - 1 ≥ 0) = true by simp; omega]
        simp only [if_true]
        by_cases hk2 : k - 1 < S.length
        · obtain ⟨x, hx, _⟩ := getE hk2
          have hkk : (k : Int) - 1 = ((k - 1 : Nat) : Int) := by omega
          have hxq := (hS.good x (List.mem_of_getElem? hx)).1
          have hxL : (RS most S).L[k - 1]? = some ⟨x.1, x.2⟩ := map_get hx
          rw [hkk, keys_in hS hx, Option.bind_some, show decide (((k - 1 : Nat) : Int) < (S.length : Int)) = true by simp; omega]
          unfold law06_StreamsPlays.j8 law06_StreamsPlays.j9 law06_StreamsPlays.j11
          rw [← hkk]
          simp only [str_eq]
          rw [hkk, ix_of hxL, Option.bind_some]
          simp only [Option.bind_some, same_eq hxq.2.1, ← hkk]
          simpa using hj10
        · rw [keys_out (Or.inr (by omega)), Option.bind_some, show decide ((k : Int) - 1 < (S.length : Int)) = false by simp; omega]
          exact hout _ rfl
theorem plays_l6 {kl1 : Int → List streams_stream → List (ByteArray × Int) → Int → List catchmentref06_Stream → Int → Option Bool} {a1 : List catchmentlaw06_Stream} {i : Int} {y : Int × Int × streams_Dict} {z : Int × Int × catchmentref06_Dict} {l : List Int} (hl : l.length ≤ 1000) : ∀ (fuel k : Nat), k ≤ l.length → l.length < k + fuel →
    law06_StreamsPlays.l6 kl1 a1 i y z l l fuel (k : Int) = kl1 y.2.2.most y.2.2.l y.2.2.ids z.2.2.Most z.2.2.L (IntKind.i64.wrap (i + 1))
  | 0, k, _, h => by omega
  | fuel + 1, k, h1, h2 => by
    rw [law06_StreamsPlays.l6]
    by_cases hk : k < l.length
    · obtain ⟨x, hx, _⟩ := getE hk
      rw [if_pos (dlt hk), ix_of hx, Option.bind_some, Option.bind_some, if_neg (by simp), w64_nat k (by omega)]
      exact plays_l6 hl fuel (k + 1) (by omega) (by omega)
    · rw [if_neg (dnl (by omega))]
theorem plays_l4 {kl1 : Int → List streams_stream → List (ByteArray × Int) → Int → List catchmentref06_Stream → Int → Option Bool} {a1 : List catchmentlaw06_Stream} {i : Int} {y928 : List api_Value} {f g : Int × Bool} {y : Int × Int × streams_Dict} {z : Int × Int × catchmentref06_Dict} (hf : f = g) (h1 : y.1 = z.1) (h2 : y.2.1 = z.2.1) (h3 : streams_Dict_Len y.2.2 = some (z.2.2.L.length : Int)) :
    ∀ (fuel k : Nat) (xs : List api_Value), k ≤ xs.length → xs.length < k + fuel → xs.length ≤ 1048576 → law06_StreamsPlays.l4 kl1 a1 i y928 f g y z fuel xs (k : Int) = law06_StreamsPlays.j5 kl1 a1 i y z false
  | 0, k, _, _, h, _ => by omega
  | fuel + 1, k, xs, k1, k2, k3 => by
    rw [law06_StreamsPlays.l4]
    by_cases hk : k < xs.length
    · obtain ⟨x, hx, _⟩ := getE hk
      rw [if_pos (dlt hk), ix_of hx, Option.bind_some, w64_nat k (by omega)]
      exact plays_l4 hf h1 h2 h3 fuel (k + 1) _ (by rw [upd_length]; omega) (by rw [upd_length]; omega) (by rw [upd_length]; omega)
    · subst hf
      rw [if_neg (dnl (by omega)), if_neg (by simp [h1]), if_neg (by simp [h2]), if_neg (by simp), if_neg (by simp), h3, Option.bind_some, show ((z.2.2.L.length : Int) != (z.2.2.L.length : Int)) = false by simp]
theorem okQ_another : okQ ((⟨#[97, 110, 111, 116, 104, 101, 114]⟩ : ByteArray), []) := ⟨by decide, by simp, fun _ h => by cases h⟩
theorem plays_l1 {a1 : List catchmentlaw06_Stream} (ha : okL a1) {most : Int} : ∀ (fuel i : Nat) (S : List Stm), i ≤ a1.length → a1.length < i + fuel → i ≤ 100 → OkS S → S.length ≤ i →
    law06_StreamsPlays.l1 a1 fuel most (DS most S).l (DS most S).ids most (RS most S).L (i : Int) = some true
  | 0, i, _, _, h, _, _, _ => by omega
  | fuel + 1, i, S, h1, h2, h3, hS, hl => by
    have hal := ha.1
    have hend : law06_StreamsPlays.j2 (law06_StreamsPlays.l1 a1 fuel) a1 most (DS most S).l (DS most S).ids most (RS most S).L (i : Int) false = some true := by
      unfold law06_StreamsPlays.j2
      rw [if_neg (by simp), show ((((RS most S).L.length : Int) - (-1)).toNat + 2) = S.length + 3 by simp [RS]]
      exact plays_l7 hS _ 0 (Nat.zero_le _) (by omega)
    rw [law06_StreamsPlays.l1]
    by_cases hi : i < a1.length
    · rw [if_pos (dlt hi)]
      by_cases hc : i < 100
      · obtain ⟨x, hx, _⟩ := getE hi
        have hxq := ha.2 x (List.mem_of_getElem? hx)
        have hkl : x.Keys.length ≤ 1048576 := hxq.2.1
        have hok := addA_ok (most := most) hS (by omega) hxq
        have hlen := addA_len most S (qOf x)
        have ih := plays_l1 ha (most := most) fuel (i + 1) _ (by omega) (by omega) (by omega) hok (by omega)
        have hj3 : law06_StreamsPlays.j3 (law06_StreamsPlays.l1 a1 fuel) a1 most (RS most S).L (i : Int) x.Keys most (DS most S).l (DS most S).ids = some true := by
          unfold law06_StreamsPlays.j3
          rw [ix_of hx, Option.bind_some, ds_eta, rs_eta, find_eq hS hxq, Option.bind_some, Option.bind_some, Option.bind_some, rfind_eq hS hxq, Option.bind_some, Option.bind_some, add_eq hS hxq, Option.bind_some, Option.bind_some, Option.bind_some, radd_eq hS hxq, Option.bind_some, fuel_nat]
          rw [show (0 : Int) = ((0 : Nat) : Int) from rfl, plays_l4 rfl rfl rfl (by simp [len_eq, RS]) _ 0 _ (Nat.zero_le _) (by omega) hkl]
          unfold law06_StreamsPlays.j5
          rw [if_neg (by simp), ix_of hx, Option.bind_some]
          simp only []
          have hlen2 : (addA most S (x.Name, x.Keys)).2.2.length ≤ 1000 := hok.len
          rw [of_eq hlen2, Option.bind_some, Option.bind_some, rof_eq hlen2, Option.bind_some, if_neg (by simp), fuel_nat]
          have := ofF_len x.Name (addA most S (x.Name, x.Keys)).2.2 0
          rw [show (0 : Int) = ((0 : Nat) : Int) from rfl, plays_l6 (by omega) _ 0 (Nat.zero_le _) (by omega), w64_nat i (by omega)]
          exact ih
        rw [law06_StreamsPlays.j2, if_pos (by simp; omega), ix_of hx, Option.bind_some, apd_of (by simp; omega), Option.bind_some, List.nil_append]
        by_cases h5 : ((i : Int).tmod 5 == 4) = true
        · rw [if_pos h5, ds_eta, clone_eq (by omega), Option.bind_some, add_eq hS okQ_another, Option.bind_some]
          exact hj3
        · rw [if_neg h5]
          exact hj3
      · rw [show decide ((i : Int) < 100) = false by simp; omega]
        exact hend
    · rw [if_neg (dnl (by omega))]
      exact hend
theorem StreamsPlays_core (a0 : Int) (a1 : List catchmentlaw06_Stream) (ha : okL a1) : law06_StreamsPlays a0 a1 = some true := by
  unfold law06_StreamsPlays law06_StreamsPlays.j0
  rw [shown_eq, Option.bind_some, new_eq, Option.bind_some, if_neg (by simp), if_neg (by simp), fuel_nat]
  exact plays_l1 ha _ 0 [] (Nat.zero_le _) (by omega) (by omega) okS_nil (by simp)
end Go.Proofs.YtffleadhhhpnlaaDoor.M
