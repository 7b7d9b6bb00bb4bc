/-
  Plain words: comparisons, rows in order, bytes as numbers.
-/
import Derived.Test.YtabdokppkcgdlaaEngP
namespace Go.Eng
open Go Go.Lib
set_option linter.unusedVariables false
set_option linter.unusedSimpArgs false
section
variable {α β : Type}
theorem dlt {i n : Nat} (h : i < n) : decide ((i : Int) < (n : Int)) = true := by simpa using h
theorem dnl {i n : Nat} (h : n ≤ i) : ¬ decide ((i : Int) < (n : Int)) = true := by simpa using h
theorem dge {i n : Nat} (h : n ≤ i) : decide ((i : Int) ≥ (n : Int)) = true := by simpa using h
theorem dng {i n : Nat} (h : i < n) : ¬ decide ((i : Int) ≥ (n : Int)) = true := by simpa using h
theorem fuel_nat (n : Nat) : ((n : Int) - 0).toNat + 1 = n + 1 := by omega
/-- The next element. -/
theorem getE {l : List α} {i : Nat} (h : i < l.length) : ∃ x, l[i]? = some x ∧ l.drop i = x :: l.drop (i + 1) :=
  ⟨l[i], List.getElem?_eq_getElem h, List.drop_eq_getElem_cons h⟩
def ord3 (x y : Int) : Int := if x < y then -1 else if x > y then 1 else 0
structure IsCmp (c : α → α → Int) : Prop where
  flip : ∀ x y, c y x = -c x y
  trans : ∀ x y z, c x y ≤ 0 → c y z ≤ 0 → c x z ≤ 0
theorem IsCmp.refl {c : α → α → Int} (h : IsCmp c) (x : α) : c x x = 0 := by have := h.flip x x; omega
theorem IsCmp.lt1 {c : α → α → Int} (h : IsCmp c) {x y z : α} (h1 : c x y < 0) (h2 : c y z ≤ 0) : c x z < 0 := by
  have a := h.trans x y z (by omega) h2
  have b := h.trans y z x h2
  have e1 := h.flip x z
  have e2 := h.flip x y
  rcases Int.lt_or_le (c x z) 0 with h3 | h3
  · exact h3
  · have := b (by omega); omega
theorem IsCmp.lt2 {c : α → α → Int} (h : IsCmp c) {x y z : α} (h1 : c x y ≤ 0) (h2 : c y z < 0) : c x z < 0 := by
  have a := h.trans x y z h1 (by omega)
  have b := h.trans z x y
  have e1 := h.flip x z
  have e2 := h.flip y z
  rcases Int.lt_or_le (c x z) 0 with h3 | h3
  · exact h3
  · have := b (by omega) h1; omega
theorem ord3_cmp : IsCmp ord3 := by
  refine ⟨fun x y => ?_, fun x y z h1 h2 => ?_⟩
  · unfold ord3; split <;> split <;> (try split) <;> omega
  · unfold ord3 at *; split at h1 <;> split at h2 <;> split <;> (try split) <;> (try split at h1) <;> (try split at h2) <;> omega
theorem ord3_zero {x y : Int} (h : ord3 x y = 0) : x = y := by unfold ord3 at h; split at h <;> (try split at h) <;> omega
theorem ord3_self (x : Int) : ord3 x x = 0 := ord3_cmp.refl x
theorem ord3_lt {x y : Int} : ord3 x y < 0 ↔ x < y := by unfold ord3; split <;> (try split) <;> omega
theorem ord3_le {x y : Int} : ord3 x y ≤ 0 ↔ x ≤ y := by unfold ord3; split <;> (try split) <;> omega
theorem ord3_three (x y : Int) : ord3 x y = -1 ∨ ord3 x y = 0 ∨ ord3 x y = 1 := by unfold ord3; split <;> (try split) <;> simp
def thenC (c1 c2 : α → α → Int) (x y : α) : Int := if c1 x y = 0 then c2 x y else c1 x y
def onC (f : α → β) (c : β → β → Int) (x y : α) : Int := c (f x) (f y)
theorem onC_cmp {f : α → β} {c : β → β → Int} (h : IsCmp c) : IsCmp (onC f c) := ⟨fun _ _ => h.flip _ _, fun _ _ _ => h.trans _ _ _⟩
theorem thenC_cmp {c1 c2 : α → α → Int} (h1 : IsCmp c1) (h2 : IsCmp c2) : IsCmp (thenC c1 c2) := by
  refine ⟨fun x y => ?_, fun x y z k1 k2 => ?_⟩
  · unfold thenC
    have a := h1.flip x y
    have b := h2.flip x y
    by_cases h : c1 x y = 0
    · rw [if_pos h, if_pos (by omega)]; exact b
    · rw [if_neg h, if_neg (by omega)]; exact a
  · unfold thenC at *
    by_cases e1 : c1 x y = 0
    · rw [if_pos e1] at k1
      by_cases e2 : c1 y z = 0
      · rw [if_pos e2] at k2
        have a1 := h1.trans x y z (by omega) (by omega)
        have a2 := h1.trans z y x (by rw [h1.flip]; omega) (by rw [h1.flip]; omega)
        have a3 := h1.flip x z
        rw [if_pos (by omega)]
        exact h2.trans x y z k1 k2
      · rw [if_neg e2] at k2
        have := h1.lt2 (x := x) (y := y) (z := z) (by omega) (by omega)
        rw [if_neg (by omega)]; omega
    · rw [if_neg e1] at k1
      have k2' : c1 y z ≤ 0 := by
        by_cases e2 : c1 y z = 0
        · omega
        · rw [if_neg e2] at k2; exact k2
      have := h1.lt1 (x := x) (y := y) (z := z) (by omega) k2'
      rw [if_neg (by omega)]; omega
def lexL (c : α → α → Int) : List α → List α → Int
  | [], [] => 0
  | [], _ :: _ => -1
  | _ :: _, [] => 1
  | x :: xs, y :: ys => if c x y = 0 then lexL c xs ys else c x y
theorem lexL_flip {c : α → α → Int} (h : IsCmp c) : ∀ xs ys, lexL c ys xs = -lexL c xs ys
  | [], [] => rfl
  | [], _ :: _ => rfl
  | _ :: _, [] => rfl
  | x :: xs, y :: ys => by
    have a := h.flip x y
    simp only [lexL]
    by_cases e : c x y = 0
    · rw [if_pos e, if_pos (by omega)]; exact lexL_flip h xs ys
    · rw [if_neg e, if_neg (by omega)]; exact a
theorem lexL_trans {c : α → α → Int} (h : IsCmp c) : ∀ xs ys zs, lexL c xs ys ≤ 0 → lexL c ys zs ≤ 0 → lexL c xs zs ≤ 0
  | [], _, [], _, _ => Int.le_refl _
  | [], _, _ :: _, _, _ => by simp [lexL]
  | _ :: _, [], _, h1, _ => by simp [lexL] at h1
  | _ :: _, _ :: _, [], _, h2 => by simp [lexL] at h2
  | x :: xs, y :: ys, z :: zs, h1, h2 => by
    simp only [lexL] at *
    by_cases e1 : c x y = 0
    · rw [if_pos e1] at h1
      by_cases e2 : c y z = 0
      · rw [if_pos e2] at h2
        have a1 := h.trans x y z (by omega) (by omega)
        have a2 := h.trans z y x (by rw [h.flip]; omega) (by rw [h.flip]; omega)
        have a3 := h.flip x z
        rw [if_pos (by omega)]
        exact lexL_trans h xs ys zs h1 h2
      · rw [if_neg e2] at h2
        have := h.lt2 (x := x) (y := y) (z := z) (by omega) (by omega)
        rw [if_neg (by omega)]; omega
    · rw [if_neg e1] at h1
      have k2' : c y z ≤ 0 := by
        by_cases e2 : c y z = 0
        · omega
        · rw [if_neg e2] at h2; exact h2
      have := h.lt1 (x := x) (y := y) (z := z) (by omega) k2'
      rw [if_neg (by omega)]; omega
theorem lexL_cmp {c : α → α → Int} (h : IsCmp c) : IsCmp (lexL c) := ⟨lexL_flip h, lexL_trans h⟩
theorem lexL_zero {c : α → α → Int} (h : ∀ x y, c x y = 0 → x = y) : ∀ xs ys, lexL c xs ys = 0 → xs = ys
  | [], [], _ => rfl
  | [], _ :: _, h1 => by simp [lexL] at h1
  | _ :: _, [], h1 => by simp [lexL] at h1
  | x :: xs, y :: ys, h1 => by
    simp only [lexL] at h1
    by_cases e : c x y = 0
    · rw [if_pos e] at h1; rw [h x y e, lexL_zero h xs ys h1]
    · rw [if_neg e] at h1; exact absurd h1 e

/-! bytes as numbers -/
theorem sbytes_len (s : ByteArray) : (sbytes s).length = s.size := by simp [sbytes]
theorem sbytes_inj {s t : ByteArray} (h : sbytes s = sbytes t) : s = t := by
  obtain ⟨⟨x⟩⟩ := s
  obtain ⟨⟨y⟩⟩ := t
  have : x = y := by
    have h' : x.map (fun b : UInt8 => (b.toNat : Int)) = y.map (fun b : UInt8 => (b.toNat : Int)) := h
    refine (List.map_inj_right ?_).1 h'
    intro a b hab
    exact UInt8.toNat_inj.1 (by exact_mod_cast hab)
  subst this; rfl
theorem ixs_of {s : ByteArray} {i : Nat} {x : Int} (h : (sbytes s)[i]? = some x) : ixs s (i : Int) = some x := by
  have hl := (List.getElem?_eq_some_iff.1 h).1
  rw [sbytes_len] at hl
  unfold ixs
  rw [if_pos (by omega), if_pos (by omega)]
  unfold sbytes at h
  rw [List.getElem?_map] at h
  cases hx : s.data.toList[i]? with
  | none => rw [hx] at h; cases h
  | some b =>
    rw [hx] at h
    have h := Option.some.inj h
    simp [List.getD, hx, h]
theorem sbytes_range {s : ByteArray} {x : Int} (h : x ∈ sbytes s) : 0 ≤ x ∧ x < 256 := by
  unfold sbytes at h
  obtain ⟨b, _, rfl⟩ := List.mem_map.1 h
  have := b.toNat_lt
  omega
theorem compareBytes_eq : ∀ (xs ys : List UInt8), Lib.compareBytes xs ys = lexL ord3 (xs.map fun b => (b.toNat : Int)) (ys.map fun b => (b.toNat : Int))
  | [], [] => rfl
  | [], _ :: _ => rfl
  | _ :: _, [] => rfl
  | x :: xs, y :: ys => by
    simp only [Lib.compareBytes, List.map_cons, lexL, compareBytes_eq xs ys]
    have e1 : x < y ↔ (x.toNat : Int) < y.toNat := by rw [UInt8.lt_iff_toNat_lt]; omega
    have e2 : y < x ↔ (y.toNat : Int) < x.toNat := by rw [UInt8.lt_iff_toNat_lt]; omega
    unfold ord3
    by_cases h1 : x < y
    · have := e1.1 h1
      simp [h1, this]
    · by_cases h2 : y < x
      · have a := e2.1 h2
        have b := mt e1.2 h1
        simp only [if_neg h1, if_pos h2, if_neg b, gt_iff_lt, if_pos a]; simp
      · have a := mt e2.2 h2
        have b := mt e1.2 h1
        simp only [if_neg h1, if_neg h2, if_neg b, gt_iff_lt, if_neg a, if_true]
theorem compareBytes_sb (s t : ByteArray) : Lib.compareBytes s.data.toList t.data.toList = lexL ord3 (sbytes s) (sbytes t) := compareBytes_eq _ _

/-! rows in order -/
def leC (c : α → α → Int) (x y : α) : Bool := decide (c x y ≤ 0)
def sortC (c : α → α → Int) (xs : List α) : List α := xs.mergeSort (leC c)
def insC (c : α → α → Int) (x : α) : List α → List α
  | [] => [x]
  | y :: r => if c x y ≤ 0 then x :: y :: r else y :: insC c x r
def isortC (c : α → α → Int) : List α → List α
  | [] => []
  | x :: r => insC c x (isortC c r)
def Asc (c : α → α → Int) (xs : List α) : Prop := xs.Pairwise fun x y => c x y ≤ 0
theorem asc_uniq {c : α → α → Int} (h : IsCmp c) (h0 : ∀ x y, c x y = 0 → x = y) {xs ys : List α} (h1 : Asc c xs) (h2 : Asc c ys) (hp : xs.Perm ys) : xs = ys :=
  List.Perm.eq_of_pairwise (fun x y _ _ h3 h4 => h0 x y (by have := h.flip x y; omega)) h1 h2 hp
theorem sortC_asc {c : α → α → Int} (h : IsCmp c) (xs : List α) : Asc c (sortC c xs) := by
  have := List.pairwise_mergeSort (le := leC c) (fun x y z h1 h2 => by
    simp only [leC, decide_eq_true_eq] at *
    exact h.trans x y z h1 h2) (fun x y => by
    have := h.flip x y
    simp only [leC, Bool.or_eq_true, decide_eq_true_eq]
    omega) xs
  exact this.imp fun h => by simpa [leC] using h
theorem sortC_perm (c : α → α → Int) (xs : List α) : (sortC c xs).Perm xs := List.mergeSort_perm _ _
theorem insC_perm (c : α → α → Int) (x : α) : ∀ ys, (insC c x ys).Perm (x :: ys)
  | [] => List.Perm.refl _
  | y :: r => by
    unfold insC
    split
    · exact List.Perm.refl _
    · exact ((insC_perm c x r).cons y).trans (List.Perm.swap x y r)
theorem isortC_perm (c : α → α → Int) : ∀ xs, (isortC c xs).Perm xs
  | [] => List.Perm.refl _
  | x :: r => (insC_perm c x _).trans ((isortC_perm c r).cons x)
theorem insC_asc {c : α → α → Int} (h : IsCmp c) (x : α) : ∀ {ys}, Asc c ys → Asc c (insC c x ys)
  | [], _ => List.pairwise_singleton _ _
  | y :: r, hy => by
    obtain ⟨h1, h2⟩ := List.pairwise_cons.1 hy
    unfold insC
    split
    · rename_i hxy
      refine List.Pairwise.cons (fun z hz => ?_) hy
      cases hz with
      | head => exact hxy
      | tail _ hz => exact h.trans x y z hxy (h1 z hz)
    · rename_i hxy
      refine List.Pairwise.cons (fun z hz => ?_) (insC_asc h x h2)
      have hz' := (insC_perm c x r).mem_iff.1 hz
      cases hz' with
      | head => have := h.flip x y; omega
      | tail _ hz => exact h1 z hz
theorem isortC_asc {c : α → α → Int} (h : IsCmp c) : ∀ xs, Asc c (isortC c xs)
  | [] => List.Pairwise.nil
  | x :: r => insC_asc h x (isortC_asc h r)
theorem sortC_isort {c : α → α → Int} (h : IsCmp c) (h0 : ∀ x y, c x y = 0 → x = y) (xs : List α) : sortC c xs = isortC c xs :=
  asc_uniq h h0 (sortC_asc h xs) (isortC_asc h xs) ((sortC_perm c xs).trans (isortC_perm c xs).symm)
theorem sortC_of_perm {c : α → α → Int} (h : IsCmp c) (h0 : ∀ x y, c x y = 0 → x = y) {xs ys : List α} (hp : xs.Perm ys) : sortC c xs = sortC c ys :=
  asc_uniq h h0 (sortC_asc h xs) (sortC_asc h ys) ((sortC_perm c xs).trans (hp.trans (sortC_perm c ys).symm))
theorem sortC_self {c : α → α → Int} (h : IsCmp c) (h0 : ∀ x y, c x y = 0 → x = y) {xs : List α} (ha : Asc c xs) : sortC c xs = xs := asc_uniq h h0 (sortC_asc h xs) ha (sortC_perm c xs)
theorem sortC_len (c : α → α → Int) (xs : List α) : (sortC c xs).length = xs.length := (sortC_perm c xs).length_eq
theorem mem_sortC {c : α → α → Int} {xs : List α} {x : α} : x ∈ sortC c xs ↔ x ∈ xs := (sortC_perm c xs).mem_iff
/-- What the library's sorting makes of a comparison that is one. -/
theorem sortBy_cmp {p : α → α → Option Int} {c : α → α → Int} {xs : List α} (h : IsCmp c) (h0 : ∀ x y, c x y = 0 → x = y) (hp : ∀ x ∈ xs, ∀ y ∈ xs, p x y = some (c x y)) (hl : xs.length < 4611686018427387904) : sortBy p xs = some (sortC c xs) := by
  have hlt : ∀ x ∈ xs, ∀ y ∈ xs, ltc p x y = decide (c x y < 0) := fun x hx y hy => by unfold ltc; rw [hp x hx y hy]
  rw [sortBy_of ⟨fun x hx y hy => by rw [hp x hx y hy]; rfl, fun x hx => by rw [hlt x hx x hx, h.refl]; rfl, fun x hx y hy z hz h1 h2 => ?_, fun x hx y hy z hz h1 h2 => ?_, fun x hx y hy h1 h2 => ?_⟩ hl]
  · congr 1
    have := List.map_mergeSort (r := fun x y => !ltc p y x) (s := leC c) (f := id) (l := xs) (fun x hx y hy => by
      have := h.flip x y
      rw [hlt y hy x hx]
      simp only [id, leC, ← decide_not]
      exact decide_eq_decide.2 (by omega))
    simpa [sortC] using this
  · rw [hlt _ hx _ hy] at h1
    rw [hlt _ hy _ hz] at h2
    rw [hlt _ hx _ hz]
    simp only [decide_eq_true_eq] at *
    exact h.lt1 h1 (by omega)
  · rw [hlt _ hx _ hy] at h1
    rw [hlt _ hy _ hz] at h2
    rw [hlt _ hx _ hz]
    simp only [decide_eq_false_iff_not] at *
    have a := h.flip x y
    have b := h.flip y z
    have d := h.flip x z
    have := h.trans z y x (by omega) (by omega)
    omega
  · rw [hlt _ hx _ hy] at h1
    rw [hlt _ hy _ hx] at h2
    simp only [decide_eq_false_iff_not] at *
    have a := h.flip x y
    exact h0 x y (by omega)
end
end Go.Eng
