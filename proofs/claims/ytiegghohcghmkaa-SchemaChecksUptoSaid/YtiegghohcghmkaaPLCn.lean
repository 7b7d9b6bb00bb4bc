/- Words: which names may be given. -/
import Derived.Test.YtiegghohcghmkaaPure
import Derived.Test.YtiegghohcghmkaaPLVv
import Derived.Test.YtiegghohcghmkaaPLVw
import Derived.Lib.IndexMore
namespace Go.Proofs.Ytiegghohcghmkaa.M
open Go Go.Eng Go.Proofs Go.RowKit
set_option maxRecDepth 100000
set_option linter.unusedVariables false
set_option linter.unusedSimpArgs false

theorem index_iff (sub : List UInt8) : ∀ s : List UInt8, 0 ≤ Lib.index s sub ↔ sub <:+: s
  | [] => by
    unfold Lib.index
    cases sub with
    | nil => simp
    | cons a r => simp
  | b :: l => by
    have ih := index_iff sub l
    have hg := Lib.index_ge l sub
    unfold Lib.index
    rw [List.infix_cons_iff]
    by_cases h : sub.isPrefixOf (b :: l) = true
    · rw [if_pos h]
      exact ⟨fun _ => Or.inl (List.isPrefixOf_iff_prefix.1 h), fun _ => by omega⟩
    · rw [if_neg h]
      have hp : ¬ sub <+: b :: l := fun hp => h (List.isPrefixOf_iff_prefix.2 hp)
      by_cases h1 : Lib.index l sub = -1
      · rw [if_pos (by simp [h1])]
        have : ¬ sub <:+: l := fun hi => by have := ih.2 hi; omega
        constructor
        · intro h; omega
        · rintro (h | h)
          · exact absurd h hp
          · exact absurd h this
      · rw [if_neg (by simpa using h1)]
        constructor
        · intro _; exact Or.inr (ih.1 (by omega))
        · rintro (h | h)
          · exact absurd h hp
          · have := ih.2 h; omega
theorem contains_iff (s sub : List UInt8) : Lib.contains s sub = true ↔ sub <:+: s := by
  unfold Lib.contains
  rw [decide_eq_true_eq]; exact index_iff sub s
def spaced (ws : List (List UInt8)) : List UInt8 := 32 :: ws.flatMap fun w => w ++ [32]
theorem infix_app {p x y : List UInt8} {a : UInt8} {r : List UInt8} (hp : p = a :: r) (hx : a ∉ x) : p <:+: x ++ y ↔ p <:+: y := by
  induction x with
  | nil => simp
  | cons b x ih =>
    simp only [List.mem_cons, not_or] at hx
    rw [List.cons_append, List.infix_cons_iff, ih hx.2]
    constructor
    · rintro (h | h)
      · subst hp
        rw [List.cons_prefix_cons] at h
        exact absurd h.1 hx.1
      · exact h
    · exact Or.inr
theorem pre_word {w v y : List UInt8} (hw : (32 : UInt8) ∉ w) (hv : (32 : UInt8) ∉ v) : w ++ [32] <+: v ++ 32 :: y ↔ w = v := by
  induction w generalizing v with
  | nil =>
    cases v with
    | nil => simp
    | cons c v =>
      simp only [List.mem_cons, not_or] at hv
      simp only [List.nil_append, List.cons_append, List.cons_prefix_cons, List.nil_prefix, and_true]
      exact ⟨fun h => absurd h hv.1, fun h => by cases h⟩
  | cons c w ih =>
    simp only [List.mem_cons, not_or] at hw
    cases v with
    | nil =>
      simp only [List.nil_append, List.cons_append, List.cons_prefix_cons]
      exact ⟨fun h => absurd h.1.symm hw.1, fun h => by cases h⟩
    | cons d v =>
      simp only [List.mem_cons, not_or] at hv
      simp only [List.cons_append, List.cons_prefix_cons, ih hw.2 hv.2, List.cons.injEq]
theorem word_in {w : List UInt8} (hw : (32 : UInt8) ∉ w) : ∀ (ws : List (List UInt8)), (∀ v ∈ ws, (32 : UInt8) ∉ v) → (32 :: w ++ [32] <:+: spaced ws ↔ w ∈ ws)
  | [], _ => by
    unfold spaced
    simp only [List.flatMap_nil, List.not_mem_nil, iff_false]
    intro h
    have := h.length_le
    simp at this
  | v :: ws, h => by
    have hv := h v (by simp)
    have ih := word_in hw ws (fun u hu => h u (by simp [hu]))
    have e : spaced (v :: ws) = 32 :: (v ++ spaced ws) := by unfold spaced; simp
    rw [e, List.infix_cons_iff, List.cons_append, List.cons_prefix_cons, infix_app (a := 32) (r := w ++ [32]) rfl hv]
    rw [List.cons_append] at ih
    rw [ih]
    unfold spaced
    rw [pre_word hw hv, List.mem_cons]
    simp
def takenW : List ByteArray := [(⟨#[102, 101, 116, 99, 104]⟩ : ByteArray), (⟨#[102, 114, 111, 109]⟩ : ByteArray), (⟨#[116, 111]⟩ : ByteArray), (⟨#[119, 104, 101, 114, 101]⟩ : ByteArray), (⟨#[107, 101, 101, 112]⟩ : ByteArray), (⟨#[97, 108, 105, 103, 110]⟩ : ByteArray), (⟨#[103, 114, 111, 117, 112]⟩ : ByteArray), (⟨#[116, 111, 112]⟩ : ByteArray), (⟨#[98, 121]⟩ : ByteArray), (⟨#[106, 111, 105, 110]⟩ : ByteArray), (⟨#[117, 110, 105, 111, 110]⟩ : ByteArray), (⟨#[97, 110, 100]⟩ : ByteArray), (⟨#[111, 114]⟩ : ByteArray), (⟨#[110, 111, 116]⟩ : ByteArray), (⟨#[104, 97, 115]⟩ : ByteArray), (⟨#[116, 114, 117, 101]⟩ : ByteArray), (⟨#[102, 97, 108, 115, 101]⟩ : ByteArray), (⟨#[99, 111, 117, 110, 116]⟩ : ByteArray), (⟨#[115, 117, 109]⟩ : ByteArray), (⟨#[109, 105, 110]⟩ : ByteArray), (⟨#[109, 97, 120]⟩ : ByteArray), (⟨#[109, 101, 97, 110]⟩ : ByteArray), (⟨#[109, 101, 114, 103, 101]⟩ : ByteArray), (⟨#[116, 105, 109, 101]⟩ : ByteArray)]
def notin (s : ByteArray) (ws : List ByteArray) : Bool := ws.all fun w => decide (s ≠ w)
theorem notin_iff {s : ByteArray} {ws : List ByteArray} : notin s ws = true ↔ s ∉ ws := by
  unfold notin
  simp only [List.all_eq_true, decide_eq_true_eq]
  exact ⟨fun h hm => h s hm rfl, fun h w hw e => h (e ▸ hw)⟩
def wordS (s : ByteArray) : Bool := nameS s && (sbytes s).all (fun c => decide (c ≠ 35)) && notin s takenW
theorem name_size {s : ByteArray} (h : nameS s = true) : s.size ≤ 24 := by
  unfold nameS at h
  split at h
  · cases h
  · simp only [Bool.and_eq_true, decide_eq_true_eq] at h; exact h.2
theorem name_nm {s : ByteArray} (h : nameS s = true) : ∀ c ∈ sbytes s, nm c = true := by
  unfold nameS at h
  split at h
  · cases h
  · rename_i c r e
    simp only [Bool.and_eq_true, decide_eq_true_eq, List.all_eq_true] at h
    rw [e]
    intro x hx
    cases hx with
    | head => have := h.1.1; unfold az at this; unfold nm; simp only [decide_eq_true_eq] at *; omega
    | tail _ hx => exact h.1.2 x hx
theorem mem_sb {s : ByteArray} {b : UInt8} : b ∈ s.data.toList ↔ (b.toNat : Int) ∈ sbytes s := by
  unfold sbytes
  rw [List.mem_map]
  constructor
  · intro h; exact ⟨b, h, rfl⟩
  · rintro ⟨c, h1, h2⟩
    have : c = b := UInt8.toNat_inj.1 (by exact_mod_cast h2)
    rw [← this]; exact h1
theorem ba_inj {s t : ByteArray} (h : s.data.toList = t.data.toList) : s = t := by
  obtain ⟨⟨x⟩⟩ := s
  obtain ⟨⟨y⟩⟩ := t
  simp at h; subst h; rfl
theorem con_eq {s t : ByteArray} (h : s.size < 4294967281) : strings_Contains s t = some (Lib.contains s.data.toList t.data.toList) := by
  unfold strings_Contains; rw [if_pos h]
theorem hash_eq (s : ByteArray) : Lib.contains s.data.toList (⟨#[35]⟩ : ByteArray).data.toList = !((sbytes s).all fun c => decide (c ≠ 35)) := by
  have h1 : (⟨#[35]⟩ : ByteArray).data.toList = [35] := rfl
  rw [h1, Bool.eq_iff_iff, contains_iff]
  have h2 : [(35 : UInt8)] <:+: s.data.toList ↔ (35 : UInt8) ∈ s.data.toList := by
    generalize s.data.toList = l
    induction l with
    | nil => simp
    | cons a l ih => rw [List.infix_cons_iff, ih, List.cons_prefix_cons, List.mem_cons]; simp
  rw [h2, mem_sb]
  simp only [Bool.not_eq_true', List.all_eq_false, decide_eq_true_eq, ne_eq, Decidable.not_not, exists_eq_right]
  rfl
def takenL : ByteArray := ⟨#[32, 102, 101, 116, 99, 104, 32, 102, 114, 111, 109, 32, 116, 111, 32, 119, 104, 101, 114, 101, 32, 107, 101, 101, 112, 32, 97, 108, 105, 103, 110, 32, 103, 114, 111, 117, 112, 32, 116, 111, 112, 32, 98, 121, 32, 106, 111, 105, 110, 32, 117, 110, 105, 111, 110, 32, 97, 110, 100, 32, 111, 114, 32, 110, 111, 116, 32, 104, 97, 115, 32, 116, 114, 117, 101, 32, 102, 97, 108, 115, 101, 32, 99, 111, 117, 110, 116, 32, 115, 117, 109, 32, 109, 105, 110, 32, 109, 97, 120, 32, 109, 101, 97, 110, 32, 109, 101, 114, 103, 101, 32, 116, 105, 109, 101, 32]⟩
theorem takenL_eq : takenL.data.toList = spaced (takenW.map fun w => w.data.toList) := by decide +kernel
theorem taken_no : ∀ v ∈ takenW.map (fun w => w.data.toList), (32 : UInt8) ∉ v := by decide +kernel
theorem word_eq {s : ByteArray} (hn : s.size < 4611686018427387904) : schema_Word s = some (wordS s) := by
  unfold schema_Word wordS
  rw [name_eq hn, Option.bind_some]
  by_cases h : nameS s = true
  · have hs := name_size h
    rw [if_pos h, con_eq (by omega), Option.bind_some, hash_eq, h]
    simp only [Bool.not_not, Bool.true_and]
    by_cases h2 : ((sbytes s).all fun c => decide (c ≠ 35)) = true
    · have hno : (32 : UInt8) ∉ s.data.toList := fun hm => by
        have := name_nm h _ (mem_sb.1 hm)
        unfold nm at this
        simp at this
      have e : (((⟨#[32]⟩ : ByteArray) ++ s) ++ (⟨#[32]⟩ : ByteArray)).data.toList = 32 :: s.data.toList ++ [32] := by
        rw [ByteArray.data_append, ByteArray.data_append]; simp
      have key : Lib.contains takenL.data.toList ((((⟨#[32]⟩ : ByteArray) ++ s) ++ (⟨#[32]⟩ : ByteArray)).data.toList) = !notin s takenW := by
        rw [e, takenL_eq, Bool.eq_iff_iff]
        have := (contains_iff (spaced (takenW.map fun w => w.data.toList)) (32 :: s.data.toList ++ [32])).trans (word_in hno _ taken_no)
        rw [this, Bool.not_eq_true', ← Bool.not_eq_true, notin_iff, List.mem_map]
        constructor
        · rintro ⟨t, h4, h5⟩ h3
          rw [ba_inj h5] at h4; exact h3 h4
        · intro h3
          exact Classical.byContradiction fun h4 => h3 fun h5 => h4 ⟨s, h5, rfl⟩
      have ek := con_eq (s := takenL) (t := ((⟨#[32]⟩ : ByteArray) ++ s) ++ (⟨#[32]⟩ : ByteArray)) (by decide +kernel)
      rw [key] at ek
      unfold takenL at ek
      rw [if_pos h2, if_pos (by rw [decide_eq_true_eq]; show 1 + s.size ≤ _; omega), if_pos (by rw [decide_eq_true_eq, ByteArray.size_append]; show 1 + s.size + 1 ≤ _; omega), ek, Option.bind_some, h2]
      simp
    · rw [if_neg h2]
      have h2' : ((sbytes s).all fun c => decide (c ≠ 35)) = false := by simpa using h2
      rw [h2']; rfl
  · rw [if_neg h]
    have h' : nameS s = false := by simpa using h
    rw [h']; rfl
theorem rword_l1 {s : ByteArray} (hn : s.size < 4611686018427387904) : ∀ (fuel i : Nat), i ≤ s.size → s.size < i + fuel → ref05_Word.l1 s fuel (i : Int) = some (((sbytes s).drop i).all (fun c => decide (c ≠ 35)) && nameS s)
  | 0, i, _, h => by omega
  | fuel + 1, i, h1, h2 => by
    have hl := sbytes_len s
    rw [ref05_Word.l1]
    by_cases hi : i < s.size
    · obtain ⟨c, hc, ec⟩ := getE (l := sbytes s) (i := i) (by omega)
      rw [if_pos (dlt hi), ixs_of hc, Option.bind_some, ec, List.all_cons, w64_nat i (by omega), rword_l1 hn fuel (i + 1) (by omega) (by omega)]
      by_cases e : c = 35 <;> simp [e]
    · rw [if_neg (dnl (by omega)), List.drop_of_length_le (by omega), rname_eq hn, Option.bind_some]; simp
theorem rword_l0 {s : ByteArray} {ws : List ByteArray} (hn : s.size < 4611686018427387904) (hw : ws.length ≤ 1000) : ∀ (fuel i : Nat), i ≤ ws.length → ws.length < i + fuel → ref05_Word.l0 s fuel ws (i : Int) = some (notin s (ws.drop i) && ((sbytes s).all (fun c => decide (c ≠ 35)) && nameS s))
  | 0, i, _, h => by omega
  | fuel + 1, i, h1, h2 => by
    rw [ref05_Word.l0]
    by_cases hi : i < ws.length
    · obtain ⟨c, hc, ec⟩ := getE hi
      rw [if_pos (dlt hi), ix_of hc, Option.bind_some, str_eq, ec, w64_nat i (by omega), rword_l0 hn hw fuel (i + 1) (by omega) (by omega)]
      by_cases e : s = c <;> simp [notin, e]
    · have := rword_l1 hn (s.size + 1) 0 (Nat.zero_le _) (by omega)
      rw [if_neg (dnl (by omega)), List.drop_of_length_le (by omega), fuel_nat, show (0 : Int) = ((0 : Nat) : Int) from rfl, this]
      simp [notin]
theorem rword_eq {s : ByteArray} (hn : s.size < 4611686018427387904) : ref05_Word s = some (wordS s) := by
  have := rword_l0 (ws := takenW) hn (by decide) 25 0 (Nat.zero_le _) (by decide)
  rw [List.drop_zero] at this
  have e : ref05_Word s = ref05_Word.l0 s 25 takenW ((0 : Nat) : Int) := rfl
  rw [e, this]
  unfold wordS
  congr 1
  cases nameS s <;> cases (sbytes s).all (fun c => decide (c ≠ 35)) <;> cases notin s takenW <;> rfl
end Go.Proofs.Ytiegghohcghmkaa.M
