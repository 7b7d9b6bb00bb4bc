/- Values: their texts. -/
import Derived.Test.YtmohocmmelaeaaaDoorPure
import Derived.Test.YtmohocmmelaeaaaDoorPL01
namespace Go.Proofs.YtmohocmmelaeaaaDoor.M
open Go Go.Eng Go.Proofs Go.RowKit
set_option maxRecDepth 100000
set_option linter.unusedVariables false
set_option linter.unusedSimpArgs false

def mkB (l : List UInt8) : ByteArray := ⟨l.toArray⟩
theorem mkB_append (a b : List UInt8) : mkB a ++ mkB b = mkB (a ++ b) := by
  apply sbytes_inj
  unfold sbytes mkB
  simp
theorem mkB_size (l : List UInt8) : (mkB l).size = l.length := by simp [mkB, ByteArray.size]
theorem digit1 {d : Nat} (h : d < 10) : bstr [IntKind.u8.wrap (IntKind.i64.wrap (48 + (d : Int)))] = mkB [UInt8.ofNat (48 + d)] := by
  rw [w64 (by omega) (by omega)]
  unfold bstr mkB
  have : IntKind.u8.wrap (48 + (d : Int)) = 48 + (d : Int) := by
    simp only [IntKind.wrap, IntKind.bits, IntKind.signed, Bool.false_and, Bool.false_eq_true, if_false]
    show (48 + (d : Int)) % 256 = _
    omega
  rw [this]
  have e : (48 + (d : Int)).toNat = 48 + d := by omega
  simp [e]
def sgn (a : Int) : List UInt8 := if a < 0 then [45] else []
theorem decD_len : ∀ (k u : Nat), u < 10 ^ k → 0 < k → (Lib.decDigits u).length ≤ k
  | 0, u, h, hk => by omega
  | k + 1, u, h, _ => by
    rw [Lib.decDigits]
    by_cases hu : u < 10
    · rw [dif_pos hu]; simp
    · rw [dif_neg hu]
      have hk : 0 < k := by
        cases k with
        | zero => simp at h; omega
        | succ k => omega
      have := decD_len k (u / 10) (by rw [Nat.pow_succ] at h; omega) hk
      simp; omega
theorem dig_l0 (a : Int) : ∀ (fuel : Nat) (x : Int) (acc : List UInt8), -9223372036854775808 ≤ x → x ≤ 9223372036854775807 → x.natAbs < 10 ^ fuel → acc.length ≤ 1000 - fuel → 0 < fuel → fuel ≤ 25 →
    ref01_Digits.l0 a fuel (mkB acc) x = some (mkB (sgn a ++ (Lib.decDigits x.natAbs ++ acc)))
  | 0, x, acc, _, _, _, _, h, _ => by omega
  | fuel + 1, x, acc, h1, h2, h3, h4, _, h5 => by
    have hb : (if decide (x < (-9)) = true then ref01_Digits.j1 (ref01_Digits.l0 a fuel) a (mkB acc) x true else ref01_Digits.j1 (ref01_Digits.l0 a fuel) a (mkB acc) x (decide (x > 9))) = ref01_Digits.j1 (ref01_Digits.l0 a fuel) a (mkB acc) x (decide (10 ≤ x.natAbs)) := by
      by_cases hx : x < -9
      · rw [if_pos (by simpa using hx)]; congr 1; simp; omega
      · rw [if_neg (by simpa using hx)]; congr 1; simp; omega
    rw [ref01_Digits.l0, hb]
    unfold ref01_Digits.j1 ref01_Digits.j2 ref01_Digits.j3
    have hsz := mkB_size acc
    by_cases hbig : 10 ≤ x.natAbs
    · rw [if_pos (by simpa using hbig)]
      have hm : (if decide (x.tmod 10 < 0) = true then IntKind.i64.wrap (0 - x.tmod 10) else x.tmod 10) = ((x.natAbs % 10 : Nat) : Int) := by
        have hq : (x.tmod 10).natAbs = x.natAbs % 10 := Int.natAbs_tmod x 10
        have hlt := Int.tmod_lt_of_pos x (show (0 : Int) < 10 by omega)
        by_cases hneg : x.tmod 10 < 0
        · rw [if_pos (by simpa using hneg)]
          rw [w64 (by omega) (by omega)]; omega
        · rw [if_neg (by simpa using hneg)]; omega
      have hd := digit1 (d := x.natAbs % 10) (by omega)
      have ht : (x.tdiv 10).natAbs = x.natAbs / 10 := Int.natAbs_tdiv x 10
      have hfk : 0 < fuel := by
        cases fuel with
        | zero => simp at h3; omega
        | succ k => omega
      have hi64 : -9223372036854775808 ≤ x.tdiv 10 ∧ x.tdiv 10 ≤ 9223372036854775807 := by omega
      have ih := dig_l0 a fuel (x.tdiv 10) ([UInt8.ofNat (48 + x.natAbs % 10)] ++ acc) hi64.1 hi64.2 (by rw [ht]; rw [Nat.pow_succ] at h3; omega) (by simp; omega) hfk (by omega)
      have fin : ∀ y : Int, y = ((x.natAbs % 10 : Nat) : Int) → (if (decide ((bstr [IntKind.u8.wrap (IntKind.i64.wrap (48 + y))]).size + (mkB acc).size ≤ 9223372036854775807)) = true then (ref01_Digits.l0 a fuel ((bstr [IntKind.u8.wrap (IntKind.i64.wrap (48 + y))]) ++ (mkB acc)) (IntKind.i64.wrap (x.tdiv 10))) else none) = some (mkB (sgn a ++ (Lib.decDigits x.natAbs ++ acc))) := by
        intro y hy
        subst hy
        rw [hd, mkB_size, hsz, if_pos (by simp; omega), mkB_append, w64 hi64.1 hi64.2, ih, ht]
        congr 2
        rw [Lib.decDigits.eq_1 x.natAbs, dif_neg (by omega)]
        simp
      by_cases hneg : x.tmod 10 < 0
      · rw [if_pos (by simpa using hneg)] at hm ⊢
        exact fin _ hm
      · rw [if_neg (by simpa using hneg)] at hm ⊢
        exact fin _ hm
    · rw [if_neg (by simpa using hbig)]
      have hd := digit1 (d := x.natAbs) (by omega)
      have fin : ∀ y : Int, y = ((x.natAbs : Nat) : Int) → (if (decide ((bstr [IntKind.u8.wrap (IntKind.i64.wrap (48 + y))]).size + (mkB acc).size ≤ 9223372036854775807)) = true then (if (decide (a < 0)) = true then (if (decide ((⟨#[45]⟩ : ByteArray).size + ((bstr [IntKind.u8.wrap (IntKind.i64.wrap (48 + y))]) ++ (mkB acc)).size ≤ 9223372036854775807)) = true then some ((⟨#[45]⟩ : ByteArray) ++ ((bstr [IntKind.u8.wrap (IntKind.i64.wrap (48 + y))]) ++ (mkB acc))) else none) else some ((bstr [IntKind.u8.wrap (IntKind.i64.wrap (48 + y))]) ++ (mkB acc))) else none) = some (mkB (sgn a ++ (Lib.decDigits x.natAbs ++ acc))) := by
        intro y hy
        subst hy
        rw [hd, mkB_size, hsz, if_pos (by simp; omega), mkB_append, Lib.decDigits.eq_1 x.natAbs, dif_pos (by omega)]
        unfold sgn
        by_cases ha : a < 0
        · rw [if_pos (by simpa using ha), if_pos ha, mkB_size, if_pos (by simp [ByteArray.size]; omega)]
          show some (mkB [45] ++ _) = _
          rw [mkB_append]
        · rw [if_neg (by simpa using ha), if_neg ha]; rfl
      by_cases hneg : x < 0
      · rw [if_pos (by simpa using hneg)]
        exact fin _ (by rw [w64 (by omega) (by omega)]; omega)
      · rw [if_neg (by simpa using hneg)]
        exact fin _ (by omega)
theorem digits_eq {n : Int} (h1 : -9223372036854775808 ≤ n) (h2 : n ≤ 9223372036854775807) : ref01_Digits n = some (mkB (Lib.itoa n)) := by
  unfold ref01_Digits
  have := dig_l0 n 25 n [] h1 h2 (by omega) (by simp) (by decide) (by decide)
  refine Eq.trans this ?_
  rw [List.append_nil]
  unfold sgn Lib.itoa
  by_cases h : n < 0
  · rw [if_pos h, if_pos h]; rfl
  · rw [if_neg h, if_neg h]
    congr 2
    have : n.natAbs = n.toNat := by omega
    rw [this]; rfl
theorem itoa_eq {n : Int} (h1 : -9223372036854775808 ≤ n) (h2 : n ≤ 9223372036854775807) : strconv_Itoa n = some (mkB (Lib.itoa n)) := by unfold strconv_Itoa; rw [if_pos ⟨h1, h2⟩]; rfl
theorem itoa_len {n : Int} (h1 : -9223372036854775808 ≤ n) (h2 : n ≤ 9223372036854775807) : (Lib.itoa n).length ≤ 21 := by
  unfold Lib.itoa
  split
  · have := decD_len 20 n.natAbs (by omega) (by decide)
    simp; omega
  · have := decD_len 20 n.toNat (by omega) (by decide)
    omega
def In64s (h : Arr8) : Prop := ∀ x ∈ h.list, -9223372036854775808 ≤ x ∧ x ≤ 9223372036854775807
def tl (l : List Int) : List UInt8 := l.flatMap fun x => 32 :: Lib.itoa x
theorem tl_len : ∀ (l : List Int), (∀ x ∈ l, -9223372036854775808 ≤ x ∧ x ≤ 9223372036854775807) → (tl l).length ≤ 22 * l.length
  | [], _ => by simp [tl]
  | x :: l, h => by
    have h1 := h x (List.mem_cons_self ..)
    have := itoa_len h1.1 h1.2
    have := tl_len l (fun y hy => h y (List.mem_cons_of_mem _ hy))
    unfold tl at *
    rw [List.flatMap_cons, List.length_append, List.length_cons, List.length_cons]
    omega
theorem join_tl (x : Int) (l : List Int) : Lib.join ((x :: l).map Lib.itoa) [32] = Lib.itoa x ++ tl l := by
  unfold Lib.join
  induction l generalizing x with
  | nil => simp [tl]
  | cons y l ih =>
    rw [List.map_cons, List.map_cons, List.intercalate_cons_cons, ← List.map_cons, ih y]
    simp [tl]
def finV (xs : List ByteArray) : Option ByteArray := (strings_Join xs (⟨#[32]⟩ : ByteArray)).bind fun y_57 => (if (decide ((⟨#[91]⟩ : ByteArray).size + y_57.size ≤ 9223372036854775807)) = true then (if (decide (((⟨#[91]⟩ : ByteArray) ++ y_57).size + (⟨#[93]⟩ : ByteArray).size ≤ 9223372036854775807)) = true then some (((⟨#[91]⟩ : ByteArray) ++ y_57) ++ (⟨#[93]⟩ : ByteArray)) else none) else none)
theorem vT_l0 {v : api_Value} (hH : In64s v.H) : ∀ (d i fuel : Nat) (acc : List ByteArray), i + d = 8 → d < fuel → acc.length = i → value_Text.l0 v fuel acc (i : Int) = finV (acc ++ (v.H.list.drop i).map fun x => mkB (Lib.itoa x))
  | 0, i, fuel + 1, acc, h, _, _ => by
    rw [value_Text.l0, if_neg (by simp; omega), List.drop_of_length_le (by simp [Arr8.list]; omega), List.map_nil, List.append_nil]
    rfl
  | d + 1, i, fuel + 1, acc, h, hf, ha => by
    have hlen : v.H.list.length = 8 := rfl
    obtain ⟨x, hx, ex⟩ := getE (l := v.H.list) (i := i) (by omega)
    have hx64 := hH x (List.mem_of_getElem? hx)
    rw [value_Text.l0, if_pos (by simp; omega), Arr8.ix, ix_of hx, Option.bind_some, itoa_eq hx64.1 hx64.2, Option.bind_some, apd_of (by simp; omega), Option.bind_some, w64_nat i (by omega), vT_l0 hH d (i + 1) fuel _ (by omega) (by omega) (by simp; omega), ex]
    simp
theorem rT_l0 {v : api_Value} (hH : In64s v.H) : ∀ (d i fuel : Nat) (acc : List UInt8), i + d = 8 → d < fuel → 0 < i → acc.length + 22 * d ≤ 1000 → ref01_Text.l0 v fuel (mkB acc) (i : Int) = some (mkB (acc ++ (tl (v.H.list.drop i) ++ [93])))
  | 0, i, fuel + 1, acc, h, _, _, hl => by
    rw [ref01_Text.l0, if_neg (by simp; omega), List.drop_of_length_le (by simp [Arr8.list]; omega), mkB_size, if_pos (by simp [ByteArray.size]; omega)]
    show some (mkB acc ++ mkB [93]) = _
    rw [mkB_append]; simp [tl]
  | d + 1, i, fuel + 1, acc, h, hf, h0, hl => by
    have hlen : v.H.list.length = 8 := rfl
    obtain ⟨x, hx, ex⟩ := getE (l := v.H.list) (i := i) (by omega)
    have hx64 := hH x (List.mem_of_getElem? hx)
    have hil := itoa_len hx64.1 hx64.2
    rw [ref01_Text.l0, if_pos (by simp; omega), if_pos (by simp; omega), mkB_size, if_pos (by simp [ByteArray.size]; omega)]
    show ref01_Text.j1 _ _ _ (mkB acc ++ mkB [32]) = _
    rw [mkB_append]
    unfold ref01_Text.j1
    rw [Arr8.ix, ix_of hx, Option.bind_some, digits_eq hx64.1 hx64.2, Option.bind_some, mkB_size, mkB_size, if_pos (by simp; omega), mkB_append, w64_nat i (by omega), rT_l0 hH d (i + 1) fuel _ (by omega) (by omega) (by omega) (by simp; omega), ex]
    simp [tl]
def histT (h : Arr8) : List UInt8 := 91 :: (Lib.itoa h.a0 ++ (tl [h.a1, h.a2, h.a3, h.a4, h.a5, h.a6, h.a7] ++ [93]))
theorem vT_hist {v : api_Value} (hH : In64s v.H) : value_Text.l0 v 9 [] 0 = some (mkB (histT v.H)) := by
  refine Eq.trans (vT_l0 hH 8 0 9 [] rfl (by decide) rfl) ?_
  have h0 := hH v.H.a0 (by simp [Arr8.list])
  have hl0 := itoa_len h0.1 h0.2
  have hlt := tl_len [v.H.a1, v.H.a2, v.H.a3, v.H.a4, v.H.a5, v.H.a6, v.H.a7] (fun x hx => hH x (List.mem_cons_of_mem _ hx))
  unfold finV strings_Join
  have hm : ([] ++ (v.H.list.drop 0).map fun x => mkB (Lib.itoa x)).map (fun s : ByteArray => s.data.toList) = (v.H.a0 :: [v.H.a1, v.H.a2, v.H.a3, v.H.a4, v.H.a5, v.H.a6, v.H.a7]).map Lib.itoa := by simp [Arr8.list, mkB]
  have hsep : (⟨#[32]⟩ : ByteArray).data.toList = [32] := rfl
  rw [hm, hsep, join_tl]
  simp only [List.length_cons, List.length_nil] at hlt
  rw [if_pos ⟨by simp [Arr8.list], by simp; omega⟩, Option.bind_some]
  show (if decide ((mkB [91]).size + (mkB (Lib.itoa v.H.a0 ++ tl [v.H.a1, v.H.a2, v.H.a3, v.H.a4, v.H.a5, v.H.a6, v.H.a7])).size ≤ 9223372036854775807) = true then (if decide ((mkB [91] ++ mkB (Lib.itoa v.H.a0 ++ tl [v.H.a1, v.H.a2, v.H.a3, v.H.a4, v.H.a5, v.H.a6, v.H.a7])).size + (mkB [93]).size ≤ 9223372036854775807) = true then some (mkB [91] ++ mkB (Lib.itoa v.H.a0 ++ tl [v.H.a1, v.H.a2, v.H.a3, v.H.a4, v.H.a5, v.H.a6, v.H.a7]) ++ mkB [93]) else none) else none) = _
  rw [mkB_append, mkB_size, mkB_size, mkB_size, mkB_size, if_pos (by simp; omega), if_pos (by simp; omega), mkB_append]
  unfold histT
  simp
theorem rT_hist {v : api_Value} (hH : In64s v.H) : ref01_Text.l0 v 9 (⟨#[91]⟩ : ByteArray) 0 = some (mkB (histT v.H)) := by
  have h0 := hH v.H.a0 (by simp [Arr8.list])
  have hl0 := itoa_len h0.1 h0.2
  rw [ref01_Text.l0, if_pos (by decide), if_neg (by decide)]
  unfold ref01_Text.j1
  show ((Arr8.ix v.H 0).bind fun y_37 => _) = _
  rw [show Arr8.ix v.H 0 = some v.H.a0 from rfl, Option.bind_some, digits_eq h0.1 h0.2, Option.bind_some]
  show (if decide ((mkB [91]).size + (mkB (Lib.itoa v.H.a0)).size ≤ 9223372036854775807) = true then ref01_Text.l0 v 8 (mkB [91] ++ mkB (Lib.itoa v.H.a0)) 1 else none) = _
  rw [mkB_append, mkB_size, mkB_size, if_pos (by simp; omega)]
  refine Eq.trans (rT_l0 hH 7 1 8 _ rfl (by decide) (by decide) (by simp; omega)) ?_
  simp [histT, Arr8.list]
/-! one byte replaced -/
def f1 (c : UInt8) (new : List UInt8) (b : UInt8) : List UInt8 := if b = c then new else [b]
theorem index1_eq (c : UInt8) (l : List UInt8) : Lib.index (c :: l) [c] = 0 := by simp [Lib.index, List.isPrefixOf]
theorem index1_ne {b c : UInt8} (h : b ≠ c) (l : List UInt8) : Lib.index (b :: l) [c] = if Lib.index l [c] == -1 then -1 else Lib.index l [c] + 1 := by
  have : (c == b) = false := by simpa using fun e => h e.symm
  rw [Lib.index, if_neg (by simp [List.isPrefixOf, this])]
theorem repl1 (c : UInt8) (new : List UInt8) : ∀ s : List UInt8, Lib.replaceK [c] new (s.count c) s = s.flatMap (f1 c new)
  | [] => rfl
  | b :: l => by
    have ih := repl1 c new l
    by_cases h : b = c
    · subst h
      rw [List.count_cons_self, Lib.replaceK_hit [b] new _ (b :: l) 0 (index1_eq b l)]
      show [] ++ new ++ Lib.replaceK [b] new (l.count b) l = _
      rw [ih, List.flatMap_cons, f1, if_pos rfl, List.nil_append]
    · rw [List.count_cons_of_ne h, List.flatMap_cons, f1, if_neg h, ← ih]
      cases hk : l.count c with
      | zero => rfl
      | succ k =>
        obtain ⟨i, hi⟩ := Lib.index_of_count (s := l) (old := [c]) (by rw [Lib.count_one]; omega)
        have h1 : Lib.index (b :: l) [c] = ((i + 1 : Nat) : Int) := by
          rw [index1_ne h, hi, if_neg (by simp <;> omega)]; rfl
        rw [Lib.replaceK_hit [c] new k (b :: l) (i + 1) h1, Lib.replaceK_hit [c] new k l i hi]
        simp [Nat.add_right_comm]
theorem replAll1 {c : UInt8} {new : List UInt8} (hn : ([c] == new) = false) (s : List UInt8) : Lib.replaceAll s [c] new = s.flatMap (f1 c new) := by
  unfold Lib.replaceAll Lib.replace Lib.replaceNum
  rw [hn, if_neg (by simp), if_pos (Or.inl (by decide)), Lib.count_one, repl1]
def esc (b : UInt8) : List UInt8 := if b = 92 then [92, 92] else if b = 34 then [92, 34] else [b]
theorem esc_eq (s : List UInt8) : (s.flatMap (f1 92 [92, 92])).flatMap (f1 34 [92, 34]) = s.flatMap esc := by
  induction s with
  | nil => rfl
  | cons b l ih =>
    rw [List.flatMap_cons, List.flatMap_append, ih, List.flatMap_cons]
    congr 1
    unfold f1 esc
    by_cases h : b = 92
    · subst h; rfl
    · rw [if_neg h, if_neg h]
      by_cases h2 : b = 34
      · subst h2; rfl
      · simp [h2]
theorem bstr_nat (l : List UInt8) : bstr (l.map fun b : UInt8 => (b.toNat : Int)) = mkB l := by
  apply sbytes_inj
  have hb : ∀ x ∈ l.map (fun b : UInt8 => (b.toNat : Int)), 0 ≤ x ∧ x < 256 := fun x hx => by
    obtain ⟨b, _, rfl⟩ := List.mem_map.1 hx
    have := b.toNat_lt
    omega
  unfold bstr sbytes mkB
  simp only [List.map_map]
  apply List.map_congr_left
  intro b hb'
  show (((UInt8.ofNat ((b.toNat : Int)).toNat).toNat : Nat) : Int) = b.toNat
  rw [Int.toNat_natCast, UInt8.ofNat_toNat]
theorem rT_l2 {v : api_Value} (hs : v.S.size ≤ 64) : ∀ (fuel i : Nat) (acc : List UInt8), i ≤ v.S.size → v.S.size < i + fuel → acc.length + 2 * (v.S.size - i) ≤ 1000 →
    ref01_Text.l2 v fuel (acc.map fun b : UInt8 => (b.toNat : Int)) (i : Int) = some (mkB (acc ++ ((v.S.data.toList.drop i).flatMap esc ++ [34])))
  | 0, i, acc, _, h, _ => by omega
  | fuel + 1, i, acc, h1, h2, h3 => by
    have hsz : v.S.data.toList.length = v.S.size := by rw [Array.length_toList]; rfl
    rw [ref01_Text.l2]
    by_cases hi : i < v.S.size
    · obtain ⟨b, hb, eb⟩ := getE (l := v.S.data.toList) (i := i) (by omega)
      have hx : (sbytes v.S)[i]? = some (b.toNat : Int) := by unfold sbytes; rw [List.getElem?_map, hb]; rfl
      rw [if_pos (dlt hi), ixs_of hx, Option.bind_some]
      have e34 : ((b.toNat : Int) == 34) = decide (b = 34) := by
        by_cases h : b = 34
        · subst h; rfl
        · have : b.toNat ≠ 34 := fun e => h (UInt8.toNat_inj.1 e)
          simp [h]; omega
      have e92 : ((b.toNat : Int) == 92) = decide (b = 92) := by
        by_cases h : b = 92
        · subst h; rfl
        · have : b.toNat ≠ 92 := fun e => h (UInt8.toNat_inj.1 e)
          simp [h]; omega
      have ih := fun a => rT_l2 hs fuel (i + 1) a (by omega) (by omega)
      unfold ref01_Text.j3 ref01_Text.j4
      simp only [ixs_of hx, Option.bind_some, e34, e92, w64_nat i (by omega)]
      rw [eb, List.flatMap_cons]
      have step : ∀ pre : List UInt8, acc.length + pre.length + 1 ≤ 1000 → (apd 1 ((acc ++ pre).map fun b : UInt8 => (b.toNat : Int)) [(b.toNat : Int)]) = some ((acc ++ pre ++ [b]).map fun b : UInt8 => (b.toNat : Int)) := fun pre hp => by
        rw [apd_of (by simp; omega)]; simp
      have s1 : apd 1 (acc.map fun b : UInt8 => (b.toNat : Int)) [92] = some ((acc ++ [92]).map fun b : UInt8 => (b.toNat : Int)) := by
        rw [apd_of (by simp; omega)]; simp
      by_cases h34 : b = 34
      · rw [if_pos (by simpa using h34)]
        simp only [if_true, s1, Option.bind_some]
        rw [step [92] (by simp; omega), Option.bind_some, ih _ (by simp; omega)]
        subst h34
        simp [esc]
      · rw [if_neg (by simpa using h34)]
        by_cases h92 : b = 92
        · rw [if_pos (by simpa using h92), s1, Option.bind_some, step [92] (by simp; omega), Option.bind_some, ih _ (by simp; omega)]
          subst h92
          simp [esc]
        · rw [if_neg (by simpa using h92)]
          have s0 := step [] (by simp; omega)
          rw [List.append_nil] at s0
          rw [s0, Option.bind_some, ih _ (by simp; omega)]
          simp [esc, h34, h92]
    · rw [if_neg (dnl (by omega)), List.drop_of_length_le (by omega)]
      have s1 : apd 1 (acc.map fun b : UInt8 => (b.toNat : Int)) [34] = some ((acc ++ [34]).map fun b : UInt8 => (b.toNat : Int)) := by
        rw [apd_of (by simp; omega)]; simp
      rw [s1, Option.bind_some, bstr_nat]
      simp
def strT (s : ByteArray) : List UInt8 := 34 :: (s.data.toList.flatMap esc ++ [34])
theorem f1_len (c : UInt8) (new : List UInt8) (h : new.length ≤ 2) : ∀ l : List UInt8, (l.flatMap (f1 c new)).length ≤ 2 * l.length
  | [] => by simp
  | b :: l => by
    have := f1_len c new h l
    rw [List.flatMap_cons, List.length_append, List.length_cons]
    have : (f1 c new b).length ≤ 2 := by unfold f1; split <;> simp [h]
    omega
theorem replS {s : ByteArray} {c : UInt8} {new : List UInt8} (hs : s.size ≤ 1000) (hn : ([c] == new) = false) (hl : new.length ≤ 2) : strings_ReplaceAll s ⟨#[c]⟩ (mkB new) = some (mkB (s.data.toList.flatMap (f1 c new))) := by
  unfold strings_ReplaceAll
  have hc := Lib.countB_le (⟨#[c]⟩ : ByteArray) (by simp [ByteArray.size]) s.size s (Nat.le_refl _)
  have hm : Lib.countB s ⟨#[c]⟩ * (mkB new).size ≤ 1000 * 2 := Nat.mul_le_mul (by omega) (by rw [mkB_size]; exact hl)
  rw [if_pos ⟨by omega, by simp [ByteArray.size], by omega⟩]
  have := replAll1 hn s.data.toList
  show some (mkB (Lib.replaceAll s.data.toList [c] new)) = _
  rw [this]
def textS (v : api_Value) : List UInt8 := if validS v = true then (if v.Kind = 1 then Lib.itoa v.N else if v.Kind = 3 then (if v.N = 1 then [116, 114, 117, 101] else [102, 97, 108, 115, 101]) else if v.Kind = 4 then histT v.H else strT v.S) else []
theorem valid2 {v : api_Value} (h : validS v = true) (h1 : v.Kind ≠ 1) (h3 : v.Kind ≠ 3) (h4 : v.Kind ≠ 4) : v.Kind = 2 ∧ v.S.size ≤ 64 := by
  unfold validS at h
  rw [if_neg h1] at h
  by_cases h2 : v.Kind = 2
  · rw [if_pos h2] at h
    simp only [decide_eq_true_eq] at h
    exact ⟨h2, h.2.2⟩
  · rw [if_neg h2, if_neg h3, if_neg h4] at h; cases h
theorem text_eq {v : api_Value} (hN : -9223372036854775808 ≤ v.N ∧ v.N ≤ 9223372036854775807) (hH : In64s v.H) : value_Text v = some (mkB (textS v)) := by
  unfold value_Text textS
  rw [valid_eq, Option.bind_some]
  by_cases h : validS v = true
  · rw [if_neg (by simp [h]), if_pos h]
    by_cases h1 : v.Kind = 1
    · rw [if_pos (by simpa using h1), if_pos h1, itoa_eq hN.1 hN.2]; rfl
    · rw [if_neg (by simpa using h1), if_neg h1]
      by_cases h3 : v.Kind = 3
      · rw [if_pos (by simpa using h3), if_pos h3]
        unfold strconv_FormatBool internal_strconv_FormatBool
        by_cases hn : v.N = 1
        · rw [if_pos (by simpa using hn), if_pos hn]; rfl
        · rw [if_neg (by simpa using hn), if_neg hn]; rfl
      · rw [if_neg (by simpa using h3), if_neg h3]
        by_cases h4 : v.Kind = 4
        · rw [if_pos (by simpa using h4), if_pos h4]
          exact vT_hist hH
        · rw [if_neg (by simpa using h4), if_neg h4]
          obtain ⟨h2, hs⟩ := valid2 h h1 h3 h4
          have hsz : v.S.data.toList.length = v.S.size := by rw [Array.length_toList]; rfl
          have l1 := f1_len 92 [92, 92] (by decide) v.S.data.toList
          have r1 : strings_ReplaceAll v.S (⟨#[92]⟩ : ByteArray) (⟨#[92, 92]⟩ : ByteArray) = some (mkB (v.S.data.toList.flatMap (f1 92 [92, 92]))) := replS (new := [92, 92]) (by omega) (by decide) (by decide)
          have r2 : strings_ReplaceAll (mkB (v.S.data.toList.flatMap (f1 92 [92, 92]))) (⟨#[34]⟩ : ByteArray) (⟨#[92, 34]⟩ : ByteArray) = some (mkB ((v.S.data.toList.flatMap (f1 92 [92, 92])).flatMap (f1 34 [92, 34]))) := replS (new := [92, 34]) (by rw [mkB_size]; omega) (by decide) (by decide)
          have l2 := f1_len 34 [92, 34] (by decide) (v.S.data.toList.flatMap (f1 92 [92, 92]))
          rw [r1, Option.bind_some, r2, Option.bind_some, esc_eq]
          rw [esc_eq] at l2
          show (if decide ((mkB [34]).size + (mkB (v.S.data.toList.flatMap esc)).size ≤ 9223372036854775807) = true then (if decide ((mkB [34] ++ mkB (v.S.data.toList.flatMap esc)).size + (mkB [34]).size ≤ 9223372036854775807) = true then some (mkB [34] ++ mkB (v.S.data.toList.flatMap esc) ++ mkB [34]) else none) else none) = _
          rw [mkB_append, mkB_size, mkB_size, mkB_size, if_pos (by simp only [List.length_cons, List.length_nil, decide_eq_true_eq]; omega), if_pos (by simp only [List.length_append, List.length_cons, List.length_nil, decide_eq_true_eq]; omega), mkB_append]
          rfl
  · rw [if_pos (by simpa using h), if_neg h]; rfl
theorem rtext_eq {v : api_Value} (hN : -9223372036854775808 ≤ v.N ∧ v.N ≤ 9223372036854775807) (hH : In64s v.H) : ref01_Text v = some (mkB (textS v)) := by
  unfold ref01_Text textS
  rw [rvalid_eq, Option.bind_some]
  by_cases h : validS v = true
  · rw [if_neg (by simp [h]), if_pos h]
    by_cases h1 : v.Kind = 1
    · rw [if_pos (by simpa using h1), if_pos h1, digits_eq hN.1 hN.2]; rfl
    · rw [if_neg (by simpa using h1), if_neg h1]
      by_cases h3 : v.Kind = 3
      · rw [if_pos (by simpa using h3), if_pos h3]
        by_cases hn : v.N = 1
        · rw [if_pos (by simpa using hn), if_pos hn]; rfl
        · rw [if_neg (by simpa using hn), if_neg hn]; rfl
      · rw [if_neg (by simpa using h3), if_neg h3]
        by_cases h4 : v.Kind = 4
        · rw [if_pos (by simpa using h4), if_pos h4]
          exact rT_hist hH
        · rw [if_neg (by simpa using h4), if_neg h4]
          obtain ⟨h2, hs⟩ := valid2 h h1 h3 h4
          exact rT_l2 hs (((v.S.size : Int) - 0).toNat + 1) 0 [34] (Nat.zero_le _) (by omega) (by simp; omega)
  · rw [if_pos (by simpa using h), if_neg h]; rfl
theorem ok64 {v : api_Value} (h : ok_api_Value v) : (-9223372036854775808 ≤ v.N ∧ v.N ≤ 9223372036854775807) ∧ In64s v.H := ⟨i64_range h.2.1, fun x hx => i64_range (h.2.2.2 x hx)⟩
theorem ValueValid_pure (v : api_Value) (ov : ok_api_Value v) : law01_ValueValid v = some true := by
  obtain ⟨hN, hH⟩ := ok64 ov
  unfold law01_ValueValid
  rw [shown_ok, Option.bind_some, if_pos rfl, valid_eq, Option.bind_some, rvalid_eq, Option.bind_some, if_pos (by simp), text_eq hN hH, Option.bind_some, rtext_eq hN hH, Option.bind_some]
  simp
end Go.Proofs.YtmohocmmelaeaaaDoor.M
