/- Wire: what the program answers: numbers, values. -/
import Derived.Test.YtifijboegibchaaPure
import Derived.Test.YtifijboegibchaaPLVv
import Derived.Test.YtifijboegibchaaPLVw
import Derived.Test.YtifijboegibchaaPLWs
namespace Go.Proofs.Ytifijboegibchaa.M
open Go Go.Eng Go.Proofs Go.RowKit
set_option maxRecDepth 100000
set_option linter.unusedVariables false
set_option linter.unusedSimpArgs false

theorem pw2 : ∀ {i : Nat}, i < 8 → (2 : Int) ^ (min (8 * i) 64) = pw i
  | 0, _ => rfl
  | 1, _ => rfl
  | 2, _ => rfl
  | 3, _ => rfl
  | 4, _ => rfl
  | 5, _ => rfl
  | 6, _ => rfl
  | 7, _ => rfl
theorem u8w (x : Int) : IntKind.u8.wrap x = x % 256 := by
  simp only [IntKind.wrap, IntKind.bits, IntKind.signed, Bool.false_and, Bool.false_eq_true, if_false]
  rfl
theorem byte_eq (n : Int) (k : Nat) (h : k < 8) : IntKind.u8.wrap (n.fdiv (2 ^ (min (8 * (k : Int)).toNat 64))) = byteAt n k := by
  rw [show (8 * (k : Int)).toNat = 8 * k by omega, pw2 h, u8w, Int.fdiv_eq_ediv_of_nonneg _ (by have := pw_pos k; omega)]
  rfl

/-! numbers, by wire_big -/
theorem wire_big_l0 (n a2 : Int) : ∀ (k fuel : Nat) (acc : List Int), k ≤ 8 → k < fuel → acc.length + k ≤ 140737488355328 → wire_big.l0 n a2 fuel acc ((k : Int) - 1) = some (acc ++ bigS n k)
  | 0, fuel + 1, acc, _, _, _ => by rw [wire_big.l0, if_neg (by simp)]; simp [bigS]
  | k + 1, fuel + 1, acc, h, hf, hl => by
    have e : ((k + 1 : Nat) : Int) - 1 = (k : Int) := by omega
    have e2 : IntKind.i64.wrap (8 * (k : Int)) = 8 * (k : Int) := w64 (by omega) (by omega)
    have e3 : IntKind.i64.wrap ((k : Int) - 1) = (k : Int) - 1 := w64 (by omega) (by omega)
    rw [e, wire_big.l0, if_pos (by simp), e2, if_pos (by simp; omega), byte_eq n k (by omega), apd_of (by simp; omega), Option.bind_some, e3, wire_big_l0 n a2 k fuel _ (by omega) (by omega) (by simp; omega)]
    simp [bigS]
theorem wire_big_eq (b : List Int) (n : Int) {k : Nat} (hk : k ≤ 8) (hl : b.length + k ≤ 140737488355328) : wire_big b n (k : Int) = some (b ++ bigS n k) := by
  unfold wire_big
  rw [w64 (by omega) (by omega)]
  exact wire_big_l0 n _ k _ b hk (by omega) hl
theorem wire_small_l0 {b : List Int} (hl : b.length < 4611686018427387904) : ∀ (fuel i : Nat) (a : Int), i ≤ b.length → b.length < i + fuel → wire_small.l0 b fuel a (i : Int) = some ((b.drop i).foldl shl8 a)
  | 0, i, a, _, h => by omega
  | fuel + 1, i, a, h1, h2 => by
    rw [wire_small.l0]
    by_cases hi : i < b.length
    · obtain ⟨x, hx, ex⟩ := getE hi
      rw [if_pos (dlt hi), ix_of hx, Option.bind_some, w64_nat i (by omega), wire_small_l0 hl fuel (i + 1) _ (by omega) (by omega), ex]
      rfl
    · rw [if_neg (dnl (by omega)), List.drop_of_length_le (by omega)]; rfl
theorem wire_small_eq {b : List Int} (hl : b.length < 4611686018427387904) : wire_small b = some (smallS b) := by
  unfold wire_small
  rw [fuel_nat]
  exact wire_small_l0 hl _ 0 0 (Nat.zero_le _) (by omega)

/-! numbers, by ref04_big -/
theorem ref04_big_l0 (n a2 : Int) : ∀ (k fuel : Nat) (acc : List Int), k ≤ 8 → k < fuel → acc.length + k ≤ 140737488355328 → ref04_big.l0 n a2 fuel acc ((k : Int) - 1) = some (acc ++ bigS n k)
  | 0, fuel + 1, acc, _, _, _ => by rw [ref04_big.l0, if_neg (by simp)]; simp [bigS]
  | k + 1, fuel + 1, acc, h, hf, hl => by
    have e : ((k + 1 : Nat) : Int) - 1 = (k : Int) := by omega
    have e2 : IntKind.i64.wrap (8 * (k : Int)) = 8 * (k : Int) := w64 (by omega) (by omega)
    have e3 : IntKind.i64.wrap ((k : Int) - 1) = (k : Int) - 1 := w64 (by omega) (by omega)
    rw [e, ref04_big.l0, if_pos (by simp), e2, if_pos (by simp; omega), byte_eq n k (by omega), apd_of (by simp; omega), Option.bind_some, e3, ref04_big_l0 n a2 k fuel _ (by omega) (by omega) (by simp; omega)]
    simp [bigS]
theorem ref04_big_eq (b : List Int) (n : Int) {k : Nat} (hk : k ≤ 8) (hl : b.length + k ≤ 140737488355328) : ref04_big b n (k : Int) = some (b ++ bigS n k) := by
  unfold ref04_big
  rw [w64 (by omega) (by omega)]
  exact ref04_big_l0 n _ k _ b hk (by omega) hl
theorem ref04_small_l0 {b : List Int} (hl : b.length < 4611686018427387904) : ∀ (fuel i : Nat) (a : Int), i ≤ b.length → b.length < i + fuel → ref04_small.l0 b fuel a (i : Int) = some ((b.drop i).foldl shl8 a)
  | 0, i, a, _, h => by omega
  | fuel + 1, i, a, h1, h2 => by
    rw [ref04_small.l0]
    by_cases hi : i < b.length
    · obtain ⟨x, hx, ex⟩ := getE hi
      rw [if_pos (dlt hi), ix_of hx, Option.bind_some, w64_nat i (by omega), ref04_small_l0 hl fuel (i + 1) _ (by omega) (by omega), ex]
      rfl
    · rw [if_neg (dnl (by omega)), List.drop_of_length_le (by omega)]; rfl
theorem ref04_small_eq {b : List Int} (hl : b.length < 4611686018427387904) : ref04_small b = some (smallS b) := by
  unfold ref04_small
  rw [fuel_nat]
  exact ref04_small_l0 hl _ 0 0 (Nat.zero_le _) (by omega)

theorem histB_list (h : Arr8) : histB h = h.list.flatMap (bigS · 8) := by simp [histB, Arr8.list]
theorem sz1 (n : Nat) (h : n < 256) : IntKind.u8.wrap (n : Int) = (n : Int) := by rw [u8w]; omega
/-! values: put -/
theorem wput_l0 (v : api_Value) : ∀ (d i fuel : Nat) (acc : List Int), i + d = 8 → d < fuel → acc.length + 8 * d ≤ 140737488355328 → wire_put.l0 v fuel acc (i : Int) = some (acc ++ (v.H.list.drop i).flatMap (bigS · 8))
  | 0, i, fuel + 1, acc, h, _, hl => by
    rw [wire_put.l0, if_neg (by simp; omega), List.drop_of_length_le (by simp [Arr8.list]; omega)]; simp
  | d + 1, i, fuel + 1, acc, h, hf, hl => by
    have hlen : v.H.list.length = 8 := rfl
    obtain ⟨x, hx, ex⟩ := getE (l := v.H.list) (i := i) (by omega)
    have e8 : wire_big acc x 8 = some (acc ++ bigS x 8) := wire_big_eq acc x (k := 8) (Nat.le_refl _) (by omega)
    rw [wire_put.l0, if_pos (by simp; omega), Arr8.ix, ix_of hx, Option.bind_some, e8, Option.bind_some, w64_nat i (by omega), wput_l0 v d (i + 1) fuel _ (by omega) (by omega) (by simp [bigS_len]; omega), ex]
    simp

theorem wput_eq {b : List Int} {v : api_Value} (h : validS v = true) (hl : b.length + 65 ≤ 140737488355328) : wire_put b v = some (b ++ valS v) := by
  unfold wire_put valS
  have hv := h
  unfold validS at hv
  have e8 : wire_big b v.N 8 = some (b ++ bigS v.N 8) := wire_big_eq b v.N (k := 8) (Nat.le_refl _) (by omega)
  by_cases h1 : v.Kind = 1
  · rw [if_pos (by simpa using h1), if_pos h1, e8]; rfl
  · rw [if_neg (by simpa using h1), if_neg h1]
    rw [if_neg h1] at hv
    by_cases h2 : v.Kind = 2
    · rw [if_pos h2] at hv
      simp only [decide_eq_true_eq] at hv
      have := sbytes_len v.S
      rw [if_pos (by simpa using h2), if_pos h2, sz1 _ (by omega), apd_of (by simp; omega), Option.bind_some, apd_of (by simp; omega), Option.bind_some]
      simp
    · rw [if_neg (by simpa using h2), if_neg h2]
      rw [if_neg h2] at hv
      by_cases h3 : v.Kind = 3
      · rw [if_pos h3] at hv
        simp only [decide_eq_true_eq] at hv
        rw [if_pos (by simpa using h3), if_pos h3, apd_of (by simp; omega), Option.bind_some, u8w]
        have : v.N % 256 = v.N := by omega
        rw [this]
      · rw [if_neg (by simpa using h3), if_neg h3, histB_list]
        exact wput_l0 v 8 0 _ b rfl (by decide) (by omega)
def putS (b : List Int) (v : api_Value) : List Int × Int := if validS v = true then (b ++ valS v, 0) else ([], 10)
theorem wPut_eq {b : List Int} {v : api_Value} (hl : b.length + 65 ≤ 140737488355328) : wire_Put b v = some (putS b v) := by
  unfold wire_Put putS slices_Clone_byte_byte
  rw [valid_eq, Option.bind_some]
  by_cases h : validS v = true
  · rw [if_neg (by simp [h]), if_pos h, apd_of (by simp; omega), Option.bind_some, Option.bind_some, List.nil_append, wput_eq h hl]; rfl
  · rw [if_pos (by simpa using h), if_neg h]

theorem rput_l1 (v : api_Value) : ∀ (d i fuel : Nat) (acc : List Int), i + d = 8 → d < fuel → acc.length + 8 * d ≤ 140737488355328 → ref04_Put.l1 v fuel acc (i : Int) = some ((acc ++ (v.H.list.drop i).flatMap (bigS · 8), 0))
  | 0, i, fuel + 1, acc, h, _, hl => by
    rw [ref04_Put.l1, if_neg (by simp; omega), List.drop_of_length_le (by simp [Arr8.list]; omega)]; simp
  | d + 1, i, fuel + 1, acc, h, hf, hl => by
    have hlen : v.H.list.length = 8 := rfl
    obtain ⟨x, hx, ex⟩ := getE (l := v.H.list) (i := i) (by omega)
    have e8 : ref04_big acc x 8 = some (acc ++ bigS x 8) := ref04_big_eq acc x (k := 8) (Nat.le_refl _) (by omega)
    rw [ref04_Put.l1, if_pos (by simp; omega), Arr8.ix, ix_of hx, Option.bind_some, e8, Option.bind_some, w64_nat i (by omega), rput_l1 v d (i + 1) fuel _ (by omega) (by omega) (by simp [bigS_len]; omega), ex]
    simp

theorem rPut_eq {b : List Int} {v : api_Value} (hl : b.length + 65 ≤ 140737488355328) : ref04_Put b v = some (putS b v) := by
  unfold ref04_Put putS
  rw [rvalid_eq, Option.bind_some]
  by_cases h : validS v = true
  · rw [if_neg (by simp [h]), if_pos h, apd_of (by simp; omega), Option.bind_some, List.nil_append]
    unfold valS ref04_Put.j0
    have hv := h
    unfold validS at hv
    have e8 : ref04_big b v.N 8 = some (b ++ bigS v.N 8) := ref04_big_eq b v.N (k := 8) (Nat.le_refl _) (by omega)
    by_cases h1 : v.Kind = 1
    · rw [if_pos (by simpa using h1), if_pos h1, e8]; rfl
    · rw [if_neg (by simpa using h1), if_neg h1]
      rw [if_neg h1] at hv
      by_cases h2 : v.Kind = 2
      · rw [if_pos h2] at hv
        simp only [decide_eq_true_eq] at hv
        have := sbytes_len v.S
        rw [if_pos (by simpa using h2), if_pos h2, sz1 _ (by omega), apd_of (by simp; omega), Option.bind_some, apd_of (by simp; omega), Option.bind_some]
        simp
      · rw [if_neg (by simpa using h2), if_neg h2]
        rw [if_neg h2] at hv
        by_cases h3 : v.Kind = 3
        · rw [if_pos h3] at hv
          simp only [decide_eq_true_eq] at hv
          rw [if_pos (by simpa using h3), if_pos h3, apd_of (by simp; omega), Option.bind_some, u8w]
          have : v.N % 256 = v.N := by omega
          rw [this]
        · rw [if_neg (by simpa using h3), if_neg h3, histB_list]
          exact rput_l1 v 8 0 _ b rfl (by decide) (by omega)
  · rw [if_pos (by simpa using h), if_neg h]
/-! values: taken -/
theorem rtake_eq {b : List Int} {n : Int} (h0 : 0 ≤ n) (hl : b.length < 4611686018427387904) : wire_reader_take ⟨b⟩ n = some (if n ≤ b.length then some (b.take n.toNat, ⟨b.drop n.toNat⟩) else none) := by
  unfold wire_reader_take
  by_cases h : n ≤ b.length
  · rw [if_neg (by simpa using h), if_pos h, cut_of (by omega) h0 h, Option.bind_some, cut_of h0 h (Int.le_refl _), Option.bind_some]
    have : List.take (b.length - n.toNat) (b.drop n.toNat) = b.drop n.toNat := List.take_of_length_le (by simp)
    simp [this]
  · rw [if_pos (by simpa using h), if_neg h]
theorem tb_ok {α β : Type} (x : α) (f : α → Option (Option β)) : tb (some (some x)) f = f x := rfl
theorem tb_no {α β : Type} (f : α → Option (Option β)) : tb (some none) f = some none := rfl
theorem tc_ok {α β : Type} (x : α) (g : Option β) (f : α → Option β) : tc (some (some x)) g f = f x := rfl
theorem tc_no {α β : Type} (g : Option β) (f : α → Option β) : tc (some none) g f = g := rfl
theorem rnum_eq {b : List Int} {n : Int} (h0 : 0 ≤ n) (hl : b.length < 4611686018427387904) : wire_reader_number ⟨b⟩ n = some (if n ≤ b.length then some (smallS (b.take n.toNat), ⟨b.drop n.toNat⟩) else none) := by
  unfold wire_reader_number
  rw [rtake_eq h0 hl]
  by_cases h : n ≤ b.length
  · rw [if_pos h, if_pos h, tb_ok, wire_small_eq (by simp; omega)]; rfl
  · rw [if_neg h, if_neg h, tb_no]
theorem small1 {c : Int} (h : 0 ≤ c ∧ c < 256) : smallS [c] = c := by
  rw [small_nat (l := [c]) (Byts.cons.2 ⟨h, fun x hx => by cases hx⟩) (by simp)]
  simp [natV, pw]
def rd (x : Option (api_Value × List Int)) : Option (api_Value × wire_reader) := x.map fun p => (p.1, ⟨p.2⟩)
theorem kinds {v : api_Value} {k : Int} (h : v.Kind = k) (h1 : 1 ≤ k) (h4 : k ≤ 4) : k = 1 ∨ k = 2 ∨ k = 3 ∨ k = 4 := by omega
theorem len_of {b : List Int} {n : Nat} (h : n ≤ b.length) : (b.take n).length = n := by simp; omega
/-- The eight numbers of a histogram, one by one. -/
def putsS : Nat → Arr8 → Nat → List Int → Option (Arr8 × List Int)
  | 0, h, _, b => some (h, b)
  | d + 1, h, i, b => if 8 ≤ b.length then (match Arr8.of (h.list.set i (smallS (b.take 8))) with
    | some h' => putsS d h' (i + 1) (b.drop 8)
    | none => none) else none
theorem wvalue_l4 (a1 : Int) : ∀ (d i fuel : Nat) (h : Arr8) (b : List Int), i + d = 8 → d < fuel → b.length < 4611686018427387904 → wire_reader_value.l4 a1 fuel b h (i : Int) = (match putsS d h i b with
    | some (h', b') => wire_reader_value.j3 a1 b' h'
    | none => some none)
  | 0, i, fuel + 1, h, b, e, _, _ => by
    rw [wire_reader_value.l4, if_neg (by simp; omega)]; rfl
  | d + 1, i, fuel + 1, h, b, e, hf, hl => by
    have hlen : h.list.length = 8 := rfl
    obtain ⟨x, hx, ex⟩ := getE (l := h.list) (i := i) (by omega)
    rw [wire_reader_value.l4, if_pos (by simp; omega), rnum_eq (by omega) hl, putsS]
    by_cases hb : 8 ≤ b.length
    · obtain ⟨h', hh'⟩ : ∃ h', Arr8.of (h.list.set i (smallS (b.take 8))) = some h' := by
        obtain ⟨i, rfl⟩ : ∃ j : Nat, i = j := ⟨i, rfl⟩
        match i, e with
        | 0, _ => exact ⟨_, rfl⟩
        | 1, _ => exact ⟨_, rfl⟩
        | 2, _ => exact ⟨_, rfl⟩
        | 3, _ => exact ⟨_, rfl⟩
        | 4, _ => exact ⟨_, rfl⟩
        | 5, _ => exact ⟨_, rfl⟩
        | 6, _ => exact ⟨_, rfl⟩
        | 7, _ => exact ⟨_, rfl⟩
        | n + 8, h => omega
      have hput : Arr8.put h (i : Int) (smallS (b.take 8)) = some h' := by
        unfold Arr8.put
        rw [if_pos (by omega), if_pos (by omega), Int.toNat_natCast, hh']
      rw [if_pos (by omega), if_pos hb, tb_ok, Arr8.ix, ix_of hx, Option.bind_some, show (8 : Int).toNat = 8 from rfl, hput, Option.bind_some, hh', w64_nat i (by omega), wvalue_l4 a1 d (i + 1) fuel h' (b.drop 8) (by omega) (by omega) (by simp; omega)]
    · rw [if_neg (by omega), if_neg hb, tb_no]
theorem puts8 (b : List Int) : putsS 8 H0 0 b = if 64 ≤ b.length then some (histS b, b.drop 64) else none := by
  by_cases h : 64 ≤ b.length
  · rw [if_pos h]
    simp only [putsS, List.length_drop, List.drop_drop, H0, Arr8.list, List.set, Arr8.of]
    repeat rw [if_pos (by omega)]
    rfl
  · rw [if_neg h]
    simp only [putsS, List.length_drop, List.drop_drop, H0, Arr8.list, List.set, Arr8.of]
    repeat (split <;> try rfl)
    omega
theorem wvalue_eq {b : List Int} {k : Int} (hb : Byts b) (hl : b.length < 4611686018427387904) (h1 : 1 ≤ k) (h4 : k ≤ 4) : wire_reader_value ⟨b⟩ k = some (rd (takeS k b)) := by
  have hk : k = 1 ∨ k = 2 ∨ k = 3 ∨ k = 4 := by omega
  unfold wire_reader_value takeS
  rcases hk with rfl | rfl | rfl | rfl
  · rw [if_pos (by decide), if_pos rfl, rnum_eq (by decide) hl]
    by_cases h : 8 ≤ b.length
    · rw [if_pos (by omega), if_pos h, tb_ok]
      unfold wire_reader_value.j0
      rw [valid_eq, Option.bind_some, if_neg (by simp [validS]; rfl)]
      rfl
    · rw [if_neg (by omega), if_neg h, tb_no]; rfl
  · rw [if_neg (by decide), if_pos (by decide), if_neg (by decide), if_pos rfl, rnum_eq (by decide) hl]
    cases b with
    | nil => rfl
    | cons c r =>
      obtain ⟨hc, hr⟩ := Byts.cons.1 hb
      simp only [List.length_cons] at hl
      rw [if_pos (by simp; omega), tb_ok]
      show tb (wire_reader_take ⟨r⟩ (smallS [c])) _ = _
      rw [small1 hc, rtake_eq hc.1 (by omega)]
      by_cases h : c ≤ r.length
      · rw [if_pos h, tb_ok]
        unfold wire_reader_value.j1 wire_reader_value.j0
        have hsz : (bstr (r.take c.toNat)).size = c.toNat := by rw [bstr_size]; simp; omega
        rw [valid_eq, Option.bind_some]
        by_cases hc2 : c ≤ 64
        · rw [if_neg (by simp [validS, hsz, H0]; omega)]
          simp only [h, hc2, and_self, if_true]
          rfl
        · rw [if_pos (by simp [validS, hsz, H0]; omega)]
          simp only [hc2, and_false, if_false]
          rfl
      · rw [if_neg h, tb_no]
        simp only [h, false_and, if_false]
        rfl
  · rw [if_neg (by decide), if_neg (by decide), if_pos (by decide), if_neg (by decide), if_neg (by decide), if_pos rfl, rnum_eq (by decide) hl]
    cases b with
    | nil => rfl
    | cons c r =>
      obtain ⟨hc, hr⟩ := Byts.cons.1 hb
      rw [if_pos (by simp; omega), tb_ok]
      unfold wire_reader_value.j2 wire_reader_value.j1 wire_reader_value.j0
      show (value_Valid ⟨3, smallS [c], _, _⟩).bind _ = _
      rw [small1 hc, valid_eq, Option.bind_some]
      by_cases h : c = 0 ∨ c = 1
      · rw [if_neg (by simp [validS, h]; rfl)]
        simp only [h, if_true]
        show some (some ((⟨3, smallS [c], E0, H0⟩ : api_Value), wire_reader.mk r)) = _
        rw [small1 hc]; rfl
      · rw [if_pos (by simp [validS, h])]
        simp only [h, if_false]
        rfl
  · rw [if_neg (by decide), if_neg (by decide), if_neg (by decide), if_pos (by decide), if_neg (by decide), if_neg (by decide), if_neg (by decide), if_pos rfl]
    have := wvalue_l4 4 8 0 (((8 : Int) - 0).toNat + 1) H0 b rfl (by decide) hl
    refine Eq.trans this ?_
    rw [puts8]
    by_cases h : 64 ≤ b.length
    · rw [if_pos h, if_pos h]
      simp only
      unfold wire_reader_value.j3 wire_reader_value.j2 wire_reader_value.j1 wire_reader_value.j0
      rw [valid_eq, Option.bind_some, if_neg (by simp [validS])]
      rfl
    · rw [if_neg h, if_neg h]; rfl
def tkS (b : List Int) (k : Int) : api_Value × List Int × Int := if 1 ≤ k ∧ k ≤ 4 then (match takeS k b with
  | some (v, r) => (v, r, 0)
  | none => (⟨0, 0, E0, H0⟩, [], 40)) else (⟨0, 0, E0, H0⟩, [], 10)
theorem takeS_len {b r : List Int} {k : Int} {v : api_Value} (h : takeS k b = some (v, r)) : r.length ≤ b.length := by
  unfold takeS at h
  split at h
  · split at h
    · cases h; simp
    · cases h
  · split at h
    · split at h
      · cases h
      · split at h
        · cases h; simp; omega
        · cases h
    · split at h
      · split at h
        · cases h
        · split at h
          · cases h; simp
          · cases h
      · split at h
        · split at h
          · cases h; simp
          · cases h
        · cases h
theorem wTake_eq {b : List Int} {k : Int} (hb : Byts b) (hl : b.length ≤ 140737488355328) : wire_Take b k = some (tkS b k) := by
  unfold wire_Take wire_Take.j0 tkS slices_Clone_byte_byte
  by_cases h1 : k < 1
  · rw [if_pos (by simpa using h1), if_pos rfl, if_neg (by omega)]; rfl
  · rw [if_neg (by simpa using h1)]
    by_cases h4 : 4 < k
    · rw [if_pos (by simpa using h4), if_neg (by omega)]; rfl
    · rw [if_neg (by simpa using h4), if_pos (by omega), wvalue_eq hb (by omega) (by omega) (by omega)]
      cases h : takeS k b with
      | none => rfl
      | some p =>
        have := takeS_len (r := p.2) (v := p.1) h
        show tc (some (some (p.1, wire_reader.mk p.2))) _ _ = _
        rw [tc_ok, apd_of (by simp; omega)]
        rfl
/-! the reference's -/
theorem arr_set {h : Arr8} {i : Nat} (x : Int) (hi : i < 8) : ∃ h', Arr8.of (h.list.set i x) = some h' := by
  match i, hi with
  | 0, _ => exact ⟨_, rfl⟩
  | 1, _ => exact ⟨_, rfl⟩
  | 2, _ => exact ⟨_, rfl⟩
  | 3, _ => exact ⟨_, rfl⟩
  | 4, _ => exact ⟨_, rfl⟩
  | 5, _ => exact ⟨_, rfl⟩
  | 6, _ => exact ⟨_, rfl⟩
  | 7, _ => exact ⟨_, rfl⟩
theorem rTake_l9 (b : List Int) (a1 x : Int) (h64 : 64 ≤ b.length) (hl : b.length < 4611686018427387904) : ∀ (d i fuel : Nat) (h : Arr8), i + d = 8 → d < fuel → ref04_Take.l9 b a1 x fuel h (i : Int) = (match putsS d h i (b.drop (8 * i)) with
    | some (h', _) => ref04_Take.j8 b a1 x h'
    | none => none)
  | 0, i, fuel + 1, h, e, _ => by
    rw [ref04_Take.l9, if_neg (by simp; omega)]; rfl
  | d + 1, i, fuel + 1, h, e, hf => by
    have hlen : h.list.length = 8 := rfl
    obtain ⟨y, hx, ex⟩ := getE (l := h.list) (i := i) (by omega)
    have e1 : IntKind.i64.wrap (8 * (i : Int)) = 8 * (i : Int) := w64 (by omega) (by omega)
    have e2 : IntKind.i64.wrap (8 * (i : Int) + 8) = 8 * (i : Int) + 8 := w64 (by omega) (by omega)
    have e3 : (8 * (i : Int)).toNat = 8 * i := by omega
    have e4 : (8 * (i : Int) + 8).toNat - 8 * i = 8 := by omega
    obtain ⟨h', hh'⟩ := arr_set (h := h) (smallS ((b.drop (8 * i)).take 8)) (show i < 8 by omega)
    have hput : Arr8.put h (i : Int) (smallS ((b.drop (8 * i)).take 8)) = some h' := by
      unfold Arr8.put
      rw [if_pos (by omega), if_pos (by omega), Int.toNat_natCast, hh']
    rw [ref04_Take.l9, if_pos (by simp; omega), e1, e2, cut_of (by omega) (by omega) (by omega), Option.bind_some, e3, e4, ref04_small_eq (by simp; omega), Option.bind_some, Arr8.ix, ix_of hx, Option.bind_some, hput, Option.bind_some, w64_nat i (by omega), rTake_l9 b a1 x h64 hl d (i + 1) fuel h' (by omega) (by omega), putsS, if_pos (by simp; omega), hh']
    simp only [List.drop_drop]
    rw [show 8 * (i + 1) = 8 * i + 8 by omega]
theorem rTake_j5 {b : List Int} {k : Int} {n : Int} {s : ByteArray} {h : Arr8} {x : Nat} (hx : x ≤ b.length) (hl : b.length ≤ 140737488355328) : ref04_Take.j5 b k (x : Int) n s h = some (if validS ⟨k, n, s, h⟩ = true then (⟨k, n, s, h⟩, b.drop x, 0) else (⟨0, 0, E0, H0⟩, [], 40)) := by
  unfold ref04_Take.j5
  rw [rvalid_eq, Option.bind_some]
  by_cases hv : validS ⟨k, n, s, h⟩ = true
  · rw [if_neg (by simp [hv]), if_pos hv, cut_of (by omega) (by omega) (Int.le_refl _), Option.bind_some]
    have : List.take ((b.length : Int).toNat - (x : Int).toNat) (b.drop (x : Int).toNat) = b.drop x := by
      simp only [Int.toNat_natCast]
      exact List.take_of_length_le (by simp)
    rw [this, apd_of (by simp; omega)]
    rfl
  · rw [if_pos (by simpa using hv), if_neg hv]; rfl
theorem rTake_eq {b : List Int} {k : Int} (hb : Byts b) (hl : b.length ≤ 140737488355328) : ref04_Take b k = some (tkS b k) := by
  unfold ref04_Take tkS
  by_cases h1 : k < 1
  · rw [if_pos (by simpa using h1), if_neg (by omega)]; rfl
  · rw [if_neg (by simpa using h1)]
    by_cases h4 : 4 < k
    · rw [show (decide (k > 4)) = true by simpa using h4, if_neg (by omega)]; rfl
    · rw [show (decide (k > 4)) = false by simpa using h4, if_pos (by omega)]
      have hk : k = 1 ∨ k = 2 ∨ k = 3 ∨ k = 4 := by omega
      unfold ref04_Take.j0 takeS
      rcases hk with rfl | rfl | rfl | rfl
      · simp only [Bool.false_eq_true, if_false, show ((1 : Int) == 3) = false from rfl, ref04_Take.j1, show ((1 : Int) == 4) = false from rfl, ref04_Take.j2, show ((1 : Int) == 2) = false from rfl, ref04_Take.j3, show ((1 : Int) == 1) = true from rfl, if_true]
        by_cases h : 8 ≤ b.length
        · rw [if_neg (by simp; omega), if_pos h, cut_of (by omega) (by omega) (by omega), Option.bind_some, ref04_small_eq (by simp; omega), Option.bind_some]
          have := rTake_j5 (b := b) (k := 1) (n := smallS (b.take 8)) (s := ⟨#[]⟩) (h := ⟨0, 0, 0, 0, 0, 0, 0, 0⟩) (x := 8) h hl
          refine Eq.trans this ?_
          rw [if_pos (by simp [validS]; rfl)]
          rfl
        · rw [if_pos (by simp; omega), if_neg h]; rfl
      · simp only [Bool.false_eq_true, if_false, show ((2 : Int) == 3) = false from rfl, ref04_Take.j1, show ((2 : Int) == 4) = false from rfl, ref04_Take.j2, show ((2 : Int) == 2) = true from rfl, if_true, ref04_Take.j4]
        cases b with
        | nil => rfl
        | cons c r =>
          obtain ⟨hc, hr⟩ := Byts.cons.1 hb
          simp only [List.length_cons] at hl
          rw [if_pos (by simp)]
          show ref04_Take.j3 (c :: r) 2 (IntKind.i64.wrap (1 + IntKind.i64.wrap c)) = _
          rw [w64 (x := c) (by omega) (by omega), w64 (by omega) (by omega)]
          unfold ref04_Take.j3
          by_cases h : c ≤ r.length
          · rw [if_neg (by simp; omega), if_neg (by decide), if_pos (by decide), cut_of (by omega) (by omega) (by simp; omega), Option.bind_some]
            have e : ((1 + c).toNat - (1 : Int).toNat) = c.toNat := by omega
            have e1 : (1 + c) = ((c.toNat + 1 : Nat) : Int) := by omega
            unfold ref04_Take.j6
            rw [e, show (List.drop (1 : Int).toNat (c :: r)) = r from rfl, e1, rTake_j5 (by simp; omega) (by simp; omega)]
            have hsz : (bstr (r.take c.toNat)).size = c.toNat := by rw [bstr_size]; simp; omega
            by_cases hc2 : c ≤ 64
            · rw [if_pos (by simp [validS, hsz, H0]; omega)]
              simp only [h, hc2, and_self, if_true]
              rfl
            · rw [if_neg (by simp [validS, hsz, H0]; omega)]
              simp only [hc2, and_false, if_false]
              rfl
          · rw [if_pos (by simp; omega)]
            simp only [h, false_and, if_false]
            rfl
      · simp only [Bool.false_eq_true, if_false, show ((3 : Int) == 3) = true from rfl, if_true, ref04_Take.j1, show ((3 : Int) == 4) = false from rfl, ref04_Take.j2, show ((3 : Int) == 2) = false from rfl, ref04_Take.j3, show ((3 : Int) == 1) = false from rfl]
        cases b with
        | nil => rfl
        | cons c r =>
          obtain ⟨hc, hr⟩ := Byts.cons.1 hb
          rw [if_neg (by simp; omega)]
          show ref04_Take.j7 (c :: r) 3 1 (IntKind.i64.wrap c) _ = _
          rw [w64 (x := c) (by omega) (by omega)]
          unfold ref04_Take.j7 ref04_Take.j6
          have := rTake_j5 (b := c :: r) (k := 3) (n := c) (s := ⟨#[]⟩) (h := ⟨0, 0, 0, 0, 0, 0, 0, 0⟩) (x := 1) (by simp) hl
          refine Eq.trans this ?_
          by_cases h : c = 0 ∨ c = 1
          · rw [if_pos (by simp [validS, h]; rfl)]
            simp only [h, if_true]
            rfl
          · rw [if_neg (by simp [validS, h])]
            simp only [h, if_false]
            rfl
      · simp only [Bool.false_eq_true, if_false, show ((4 : Int) == 3) = false from rfl, ref04_Take.j1, show ((4 : Int) == 4) = true from rfl, if_true, ref04_Take.j2, show ((4 : Int) == 2) = false from rfl, ref04_Take.j3, show ((4 : Int) == 1) = false from rfl]
        by_cases h : 64 ≤ b.length
        · rw [if_neg (by simp; omega), if_pos h]
          have := rTake_l9 b 4 64 h (by omega) 8 0 (((8 : Int) - 0).toNat + 1) H0 rfl (by decide)
          refine Eq.trans this ?_
          rw [show 8 * 0 = 0 from rfl, List.drop_zero, puts8, if_pos h]
          simp only
          unfold ref04_Take.j8 ref04_Take.j7 ref04_Take.j6
          have := rTake_j5 (b := b) (k := 4) (n := 0) (s := ⟨#[]⟩) (h := histS b) (x := 64) h hl
          refine Eq.trans this ?_
          rw [if_pos (by simp [validS])]
          rfl
        · rw [if_pos (by simp; omega), if_neg h]; rfl
end Go.Proofs.Ytifijboegibchaa.M
