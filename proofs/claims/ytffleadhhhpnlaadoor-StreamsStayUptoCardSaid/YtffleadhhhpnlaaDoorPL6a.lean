/- Streams: the marks; what the single functions answer. -/
import Derived.Test.YtffleadhhhpnlaaDoorPure
import Derived.Test.YtffleadhhhpnlaaDoorPL6p
import Derived.Test.YtffleadhhhpnlaaDoorPL6i
namespace Go.Proofs.YtffleadhhhpnlaaDoor.M
open Go Go.Eng Go.Proofs Go.RowKit
set_option maxRecDepth 100000
set_option linter.unusedVariables false
set_option linter.unusedSimpArgs false

/-- A stream: a name, and keys. -/
abbrev Stm := ByteArray × List api_Value
def digB (n : Nat) : ByteArray := ⟨(Lib.itoa (n : Int)).toArray⟩
def keyB (k : api_Value) : List Int := k.Kind :: valS k
def keysB (ks : List api_Value) : List Int := ks.flatMap keyB
def headB (n : ByteArray) : List Int := sbytes ((digB n.size ++ (⟨#[32]⟩ : ByteArray)) ++ n)
def markB (q : Stm) : ByteArray := bstr (headB q.1 ++ keysB q.2)
def allV (ks : List api_Value) : Bool := ks.all validS
def okQ (q : Stm) : Prop := q.1.size ≤ 1048576 ∧ q.2.length ≤ 1048576 ∧ ∀ v ∈ q.2, wfV v
theorem itoa_len {n : Int} (h1 : 0 ≤ n) (h2 : n ≤ 9223372036854775807) : (Lib.itoa n).length ≤ 21 := by
  have hd : ∀ (k u : Nat), u < 10 ^ k → (Lib.decDigits u).length ≤ k + 1 := by
    intro k
    induction k with
    | zero => intro u hu; rw [Lib.decDigits, dif_pos (by omega)]; simp
    | succ k ih =>
      intro u hu
      rw [Lib.decDigits]
      split
      · simp
      · have := ih (u / 10) (by rw [Nat.pow_succ] at hu; omega)
        simp; omega
  unfold Lib.itoa
  rw [if_neg (by omega)]
  have := hd 19 n.toNat (by
    have : (10 : Nat) ^ 19 = 10000000000000000000 := by decide
    omega)
  omega
theorem sbytes_app (a b : ByteArray) : sbytes (a ++ b) = sbytes a ++ sbytes b := by
  simp [sbytes, ByteArray.data_append]
theorem kind_u8 {v : api_Value} (h : validS v = true) : IntKind.u8.wrap v.Kind = v.Kind := by
  rw [u8w]; have := validS_kind h; omega
theorem byts_keyB {v : api_Value} (h : validS v = true) : Byts (keyB v) := Byts.cons.2 ⟨by have := validS_kind h; omega, byts_valS h⟩
theorem byts_keysB {ks : List api_Value} (h : allV ks = true) : Byts (keysB ks) := by
  intro x hx
  obtain ⟨v, hv, hx⟩ := List.mem_flatMap.1 hx
  exact byts_keyB (List.all_eq_true.1 h v hv) x hx
theorem keysB_len {ks : List api_Value} (h : allV ks = true) : (keysB ks).length ≤ ks.length * 66 := by
  induction ks with
  | nil => simp [keysB]
  | cons v r ih =>
    unfold allV at h
    rw [List.all_cons, Bool.and_eq_true] at h
    have := ih h.2
    have := valS_len h.1
    simp only [keysB, List.flatMap_cons, List.length_append, keyB, List.length_cons] at *
    omega
theorem digB_size (n : Nat) : (digB n).size = (Lib.itoa (n : Int)).length := by
  show (Lib.itoa (n : Int)).toArray.size = _
  exact List.size_toArray ..
theorem headB_len (n : ByteArray) (h : n.size ≤ 1048576) : (headB n).length ≤ 1048576 + 22 := by
  have := itoa_len (n := (n.size : Int)) (by omega) (by omega)
  have e : (digB n.size).size = (Lib.itoa (n.size : Int)).length := digB_size n.size
  have e1 : (⟨#[32]⟩ : ByteArray).size = 1 := rfl
  simp only [headB, sbytes_app, List.length_append, sbytes_len]
  omega

theorem mark_l0 {ks : List api_Value} (hl : ks.length ≤ 1048576) : ∀ (fuel i : Nat) (acc : List Int), i ≤ ks.length → ks.length < i + fuel → acc.length + 66 * (ks.length - i) ≤ 140000000 →
    streams_mark.l0 ks fuel acc (i : Int) = some (if allV (ks.drop i) = true then (bstr (acc ++ keysB (ks.drop i)), true) else ((⟨#[]⟩ : ByteArray), false))
  | 0, i, _, _, h, _ => by omega
  | fuel + 1, i, acc, h1, h2, h3 => by
    rw [streams_mark.l0]
    by_cases hi : i < ks.length
    · obtain ⟨x, hx, ex⟩ := getE hi
      rw [if_pos (dlt hi), ix_of hx, Option.bind_some, wPut_eq (Nat.le_of_ble_eq_true rfl), Option.bind_some, ex]
      unfold putS
      by_cases hv : validS x = true
      · have := valS_len hv
        have ea : allV (x :: ks.drop (i + 1)) = allV (ks.drop (i + 1)) := by simp [allV, hv]
        rw [if_pos hv, if_neg (by simp), kind_u8 hv, apd_of (by simp; omega), Option.bind_some]
        simp only [List.nil_append]
        rw [apd_of (by simp; omega), Option.bind_some, w64_nat i (by omega), mark_l0 hl fuel (i + 1) _ (by omega) (by omega) (by simp; omega), ea]
        simp [keysB, keyB]
      · have ea : allV (x :: ks.drop (i + 1)) = false := by simp [allV, hv]
        rw [if_neg hv, if_pos (by simp), ea]
        rfl
    · rw [if_neg (dnl (by omega)), List.drop_of_length_le (by omega)]
      simp [allV, keysB]
theorem mark_eq {n : ByteArray} {ks : List api_Value} (h : okQ (n, ks)) : streams_mark n ks = some (if allV ks = true then (markB (n, ks), true) else ((⟨#[]⟩ : ByteArray), false)) := by
  obtain ⟨h1, h2, h3⟩ := h
  simp only at h1 h2 h3
  have hlen := itoa_len (n := (n.size : Int)) (by omega) (by omega)
  have e : (digB n.size).size = (Lib.itoa (n.size : Int)).length := digB_size n.size
  have e1 : (⟨#[32]⟩ : ByteArray).size = 1 := rfl
  have hd : strconv_Itoa (n.size : Int) = some (digB n.size) := by unfold strconv_Itoa; rw [if_pos (by omega)]; rfl
  have hh := headB_len n h1
  unfold streams_mark
  rw [hd, Option.bind_some, if_pos (by rw [decide_eq_true_eq]; omega), if_pos (by rw [decide_eq_true_eq, ByteArray.size_append]; omega)]
  rw [if_pos (by rw [decide_eq_true_eq]; show (headB n).length * 1 ≤ _; omega), fuel_nat]
  exact mark_l0 h2 _ 0 _ (Nat.zero_le _) (by omega) (by show (headB n).length + _ ≤ _; omega)

theorem word_injI {p : Int → Bool} : ∀ {a a' : List Int} {s s' : Int} {r r' : List Int}, (∀ b ∈ a, p b = true) → (∀ b ∈ a', p b = true) → p s = false → p s' = false → a ++ s :: r = a' ++ s' :: r' → a = a' ∧ s = s' ∧ r = r'
  | [], [], s, s', r, r', _, _, _, _, h => by
    simp only [List.nil_append, List.cons.injEq] at h
    exact ⟨rfl, h.1, h.2⟩
  | [], b :: a', s, s', r, r', _, h2, h3, _, h => by
    simp only [List.nil_append, List.cons_append, List.cons.injEq] at h
    have := h2 b (List.mem_cons_self ..)
    rw [← h.1, h3] at this; cases this
  | b :: a, [], s, s', r, r', h1, _, _, h4, h => by
    simp only [List.nil_append, List.cons_append, List.cons.injEq] at h
    have := h1 b (List.mem_cons_self ..)
    rw [h.1, h4] at this; cases this
  | b :: a, c :: a', s, s', r, r', h1, h2, h3, h4, h => by
    simp only [List.cons_append, List.cons.injEq] at h
    obtain ⟨e1, e2, e3⟩ := word_injI (fun x hx => h1 x (List.mem_cons_of_mem _ hx)) (fun x hx => h2 x (List.mem_cons_of_mem _ hx)) h3 h4 h.2
    exact ⟨by rw [h.1, e1], e2, e3⟩
def inN (b : Int) : Bool := decide (b = 45 ∨ (48 ≤ b ∧ b ≤ 57))
theorem dig_in (n : Nat) : ∀ b ∈ sbytes (digB n), inN b = true := by
  intro b hb
  simp only [sbytes, digB, List.mem_map] at hb
  obtain ⟨c, hc, rfl⟩ := hb
  have := itoa_mem (n : Int) c (by simpa using hc)
  simp only [inN, decide_eq_true_eq]
  omega
theorem keysB_inj : ∀ {a b : List api_Value}, allV a = true → allV b = true → (∀ v ∈ a, wfV v) → (∀ v ∈ b, wfV v) → keysB a = keysB b → a = b
  | [], [], _, _, _, _, _ => rfl
  | [], _ :: _, _, _, _, _, h => by simp [keysB, keyB] at h
  | _ :: _, [], _, _, _, _, h => by simp [keysB, keyB] at h
  | v :: a, w :: b, h1, h2, h3, h4, h => by
    unfold allV at h1 h2
    rw [List.all_cons, Bool.and_eq_true] at h1 h2
    simp only [keysB, List.flatMap_cons, keyB, List.cons_append, List.cons.injEq] at h
    have e1 := take_put h1.1 (h3 v (List.mem_cons_self ..)) (a.flatMap keyB)
    have e2 := take_put h2.1 (h4 w (List.mem_cons_self ..)) (b.flatMap keyB)
    have hk := h.1
    have hr := h.2
    have hr' : valS v ++ a.flatMap keyB = valS w ++ b.flatMap keyB := hr
    rw [hr', hk, e2] at e1
    simp only [Option.some.injEq, Prod.mk.injEq] at e1
    rw [e1.1, keysB_inj h1.2 h2.2 (fun x hx => h3 x (List.mem_cons_of_mem _ hx)) (fun x hx => h4 x (List.mem_cons_of_mem _ hx)) e1.2.symm]
/-- A stream that may be. -/
def good (q : Stm) : Prop := okQ q ∧ allV q.2 = true
theorem headB_eq (n : ByteArray) : headB n = sbytes (digB n.size) ++ 32 :: sbytes n := by
  simp only [headB, sbytes_app, List.append_assoc]; rfl
theorem markB_inj {p q : Stm} (hp : good p) (hq : good q) (h : markB p = markB q) : p = q := by
  have hb : ∀ r : Stm, good r → Byts (headB r.1 ++ keysB r.2) := fun r hr => Byts.append.2 ⟨byts_sbytes _, byts_keysB hr.2⟩
  have e := bstr_inj (hb p hp) (hb q hq) h
  rw [headB_eq, headB_eq, List.append_assoc, List.append_assoc] at e
  obtain ⟨e1, _, e2⟩ := word_injI (p := inN) (dig_in _) (dig_in _) rfl rfl e
  have e3 := sbytes_inj e1
  have e4 : p.1.size = q.1.size := by
    have : Lib.itoa (p.1.size : Int) = Lib.itoa (q.1.size : Int) := by
      have := congrArg (fun b : ByteArray => b.data.toList) e3
      simpa [digB] using this
    have := itoa_inj this
    omega
  obtain ⟨e5, e6⟩ := List.append_inj e2 (by rw [sbytes_len, sbytes_len, e4])
  exact Prod.ext (sbytes_inj e5) (keysB_inj hp.2 hq.2 hp.1.2.2 hq.1.2.2 e6)

/-! ### where a stream stands -/
def posF (i : Nat) : List Stm → Stm → Option Int
  | [], _ => none
  | p :: r, q => if p = q then some (i : Int) else posF (i + 1) r q
def pos (S : List Stm) (q : Stm) : Option Int := posF 0 S q
def idsF (i : Nat) : List Stm → List (ByteArray × Int)
  | [] => []
  | p :: r => (markB p, (i : Int)) :: idsF (i + 1) r
theorem mget_ids {q : Stm} (hq : good q) : ∀ (S : List Stm) (i : Nat), (∀ p ∈ S, good p) → mget (idsF i S) (markB q) = posF i S q
  | [], i, _ => rfl
  | p :: r, i, h => by
    simp only [idsF, mget, posF]
    by_cases e : p = q
    · rw [if_pos (by rw [e]), if_pos e]
    · rw [if_neg (fun hm => e (markB_inj (h p (List.mem_cons_self ..)) hq hm)), if_neg e]
      exact mget_ids hq r (i + 1) (fun x hx => h x (List.mem_cons_of_mem _ hx))
theorem mset_ids {q : Stm} (hq : good q) : ∀ (S : List Stm) (i : Nat), (∀ p ∈ S, good p) → posF i S q = none → mset (idsF i S) (markB q) ((i + S.length : Nat) : Int) = idsF i (S ++ [q])
  | [], i, _, _ => by simp [idsF, mset]
  | p :: r, i, h, hn => by
    simp only [posF] at hn
    by_cases e : p = q
    · rw [if_pos e] at hn; cases hn
    · rw [if_neg e] at hn
      have := mset_ids hq r (i + 1) (fun x hx => h x (List.mem_cons_of_mem _ hx)) hn
      simp only [idsF, mset, List.cons_append]
      rw [if_neg (fun hm => e (markB_inj (h p (List.mem_cons_self ..)) hq hm))]
      rw [← this]
      simp only [List.length_cons]
      rw [show i + (r.length + 1) = i + 1 + r.length by omega]
theorem posF_app {q : Stm} {T : List Stm} : ∀ (S : List Stm) (i : Nat) {k : Int}, posF i S q = some k → posF i (S ++ T) q = some k
  | [], _, _, h => by cases h
  | p :: r, i, k, h => by
    simp only [posF, List.cons_append] at h ⊢
    by_cases e : p = q
    · rw [if_pos e] at h ⊢; exact h
    · rw [if_neg e] at h ⊢; exact posF_app r (i + 1) h
theorem posF_new {q : Stm} : ∀ (S : List Stm) (i : Nat), posF i S q = none → posF i (S ++ [q]) q = some ((i + S.length : Nat) : Int)
  | [], i, _ => by simp [posF]
  | p :: r, i, h => by
    simp only [posF, List.cons_append] at h ⊢
    by_cases e : p = q
    · rw [if_pos e] at h; cases h
    · rw [if_neg e] at h ⊢
      rw [posF_new r (i + 1) h]
      simp only [List.length_cons]
      congr 2; omega
theorem posF_some {q : Stm} : ∀ (S : List Stm) (i : Nat) {k : Int}, posF i S q = some k → ∃ j : Nat, k = ((i + j : Nat) : Int) ∧ S[j]? = some q
  | [], _, _, h => by cases h
  | p :: r, i, k, h => by
    simp only [posF] at h
    by_cases e : p = q
    · rw [if_pos e] at h
      cases h
      exact ⟨0, rfl, by rw [e]; rfl⟩
    · rw [if_neg e] at h
      obtain ⟨j, h1, h2⟩ := posF_some r (i + 1) h
      exact ⟨j + 1, by rw [h1]; congr 1; omega, by simpa using h2⟩
theorem posF_none {q : Stm} : ∀ (S : List Stm) (i : Nat), posF i S q = none ↔ q ∉ S
  | [], _ => by simp [posF]
  | p :: r, i => by
    simp only [posF]
    by_cases e : p = q
    · rw [if_pos e]; simp [e]
    · rw [if_neg e, posF_none r (i + 1)]
      simp [Ne.symm e]
/-! ### a dictionary, the program's and the reference's -/
def DS (most : Int) (S : List Stm) : streams_Dict := ⟨most, S.map fun p => ⟨p.1, p.2⟩, idsF 0 S⟩
def RS (most : Int) (S : List Stm) : catchmentref06_Dict := ⟨most, S.map fun p => ⟨p.1, p.2⟩⟩
structure OkS (S : List Stm) : Prop where
  len : S.length ≤ 1000
  good : ∀ p ∈ S, good p
def findA (S : List Stm) (q : Stm) : Int × Bool := ((pos S q).getD 0, (pos S q).isSome)
def addA (most : Int) (S : List Stm) (q : Stm) : Int × Int × List Stm :=
  if allV q.2 = true then (match pos S q with
    | some i => (i, 0, S)
    | none => if (S.length : Int) ≥ most then (0, 80, S) else ((S.length : Int), 0, S ++ [q])) else (0, 10, S)
theorem pos_bad {S : List Stm} (hS : OkS S) {q : Stm} (h : ¬ allV q.2 = true) : pos S q = none := (posF_none S 0).2 fun hm => h (hS.good q hm).2
theorem find1_eq (v : api_Value) : streams_Dict_Find_1 v = some (!validS v) := by unfold streams_Dict_Find_1; rw [valid_eq, Option.bind_some]
theorem idx_l0 {ks : List api_Value} (hl : ks.length ≤ 1048576) : ∀ (fuel i : Nat), i ≤ ks.length → ks.length < i + fuel →
    ∃ r, slices_IndexFunc_api_Value_api_Value_f_streams_Dict_Find_1.l0 ks fuel (i : Int) = some r ∧ decide (r ≥ 0) = !allV (ks.drop i)
  | 0, i, _, h => by omega
  | fuel + 1, i, h1, h2 => by
    rw [slices_IndexFunc_api_Value_api_Value_f_streams_Dict_Find_1.l0]
    by_cases hi : i < ks.length
    · obtain ⟨x, hx, ex⟩ := getE hi
      rw [if_pos (dlt hi), ix_of hx, Option.bind_some, find1_eq, Option.bind_some, ex]
      by_cases hv : validS x = true
      · obtain ⟨r, e1, e2⟩ := idx_l0 hl fuel (i + 1) (by omega) (by omega)
        refine ⟨r, by rw [if_neg (by simp [hv]), w64_nat i (by omega), e1], ?_⟩
        rw [e2]; simp [allV, hv]
      · refine ⟨(i : Int), by rw [if_pos (by simpa using hv)], ?_⟩
        simp [allV, hv]
    · refine ⟨-1, by rw [if_neg (dnl (by omega))], ?_⟩
      rw [List.drop_of_length_le (by omega)]
      simp [allV]
theorem contains_eq {ks : List api_Value} (hl : ks.length ≤ 1048576) : slices_ContainsFunc_api_Value_api_Value_f_streams_Dict_Find_1 ks = some (!allV ks) := by
  unfold slices_ContainsFunc_api_Value_api_Value_f_streams_Dict_Find_1 slices_IndexFunc_api_Value_api_Value_f_streams_Dict_Find_1
  rw [fuel_nat]
  obtain ⟨r, e1, e2⟩ := idx_l0 hl (ks.length + 1) 0 (Nat.zero_le _) (by omega)
  rw [show ((0 : Nat) : Int) = 0 from rfl] at e1
  rw [e1, Option.bind_some, e2]
  rfl
theorem find_eq {most : Int} {S : List Stm} (hS : OkS S) {n : ByteArray} {ks : List api_Value} (h : okQ (n, ks)) : streams_Dict_Find (DS most S) n ks = some (findA S (n, ks)) := by
  unfold streams_Dict_Find
  rw [contains_eq h.2.1, Option.bind_some]
  by_cases hv : allV ks = true
  · rw [if_neg (by simp [hv]), mark_eq h, if_pos hv, Option.bind_some]
    show some ((mget (idsF 0 S) (markB (n, ks))).getD 0, (mget (idsF 0 S) (markB (n, ks))).isSome) = _
    rw [mget_ids ⟨h, hv⟩ S 0 hS.good]
    rfl
  · rw [if_pos (by simpa using hv)]
    unfold findA
    rw [pos_bad hS (q := (n, ks)) hv]
    rfl
theorem cpy_rep {α : Type} (z : α) (ys : List α) : cpy (List.replicate ys.length z) ys = ys := by
  unfold cpy
  rw [List.length_replicate, Nat.min_self, List.take_of_length_le (Nat.le_refl _), List.drop_of_length_le (by simp), List.append_nil]
theorem add_eq {most : Int} {S : List Stm} (hS : OkS S) {n : ByteArray} {ks : List api_Value} (h : okQ (n, ks)) :
    streams_Dict_Add (DS most S) n ks = some ((addA most S (n, ks)).1, (addA most S (n, ks)).2.1, DS most (addA most S (n, ks)).2.2) := by
  unfold streams_Dict_Add
  rw [mark_eq h, Option.bind_some]
  unfold addA
  simp only
  by_cases hv : allV ks = true
  · rw [if_pos hv, if_pos hv, if_neg (by simp)]
    show (if (mget (idsF 0 S) (markB (n, ks))).isSome = true then _ else _) = _
    rw [mget_ids ⟨h, hv⟩ S 0 hS.good]
    show (if (pos S (n, ks)).isSome = true then _ else _) = _
    cases hp : pos S (n, ks) with
    | some i =>
      rw [if_pos (show (some i).isSome = true from rfl)]
      show some ((mget (idsF 0 S) (markB (n, ks))).getD 0, 0, _) = _
      rw [mget_ids ⟨h, hv⟩ S 0 hS.good, show posF 0 S (n, ks) = some i from hp]
      rfl
    | none =>
      have hlen := hS.len
      rw [if_neg (by simp)]
      have el : ((DS most S).l.length : Int) = (S.length : Int) := by simp [DS]
      rw [el]
      by_cases hm : (S.length : Int) ≥ most
      · rw [if_pos (by simpa [DS] using hm)]
        simp only [if_pos hm]
      · rw [if_neg (by simpa [DS] using hm)]
        have h2 : ks.length ≤ 1048576 := h.2.1
        have emk : ∀ z : api_Value, mkS 96 (ks.length : Int) z = some (List.replicate ks.length z) := fun z => by
          unfold mkS
          rw [if_pos (by omega), if_pos (by omega)]
          simp
        rw [emk, Option.bind_some, cpy_rep, apd_of (by simp [DS]; omega), Option.bind_some]
        simp only [if_neg hm]
        congr 1
        refine Prod.ext ?_ (Prod.ext rfl ?_)
        · simp only [DS, List.length_append, List.length_map, List.length_cons, List.length_nil]
          rw [w64 (by omega) (by omega)]; omega
        · simp only [DS, streams_Dict.mk.injEq, List.map_append, List.map_cons, List.map_nil, true_and]
          have := mset_ids (q := (n, ks)) ⟨h, hv⟩ S 0 hS.good hp
          rw [Nat.zero_add] at this
          rw [this]
  · rw [if_neg hv, if_neg hv, if_pos (by simp)]
theorem addA_ok {most : Int} {S : List Stm} (hS : OkS S) (hl : S.length < 1000) {q : Stm} (h : okQ q) : OkS (addA most S q).2.2 := by
  unfold addA
  split
  · rename_i hv
    split
    · exact hS
    · split
      · exact hS
      · exact ⟨by simp; omega, fun p hp => by
          rcases List.mem_append.1 hp with hp | hp
          · exact hS.good p hp
          · simp only [List.mem_singleton] at hp
            subst hp
            exact ⟨h, hv⟩⟩
  · exact hS
theorem addA_len (most : Int) (S : List Stm) (q : Stm) : S.length ≤ (addA most S q).2.2.length ∧ (addA most S q).2.2.length ≤ S.length + 1 := by
  unfold addA
  split
  · split
    · simp
    · split <;> simp
  · simp
theorem okS_nil : OkS [] := ⟨by simp, fun _ h => by cases h⟩
theorem new_eq (most : Int) : streams_New most = some (DS most []) := rfl
end Go.Proofs.YtffleadhhhpnlaaDoor.M
