/- The plain law of layer 7 (runs): samples that rise; adding, telling. -/
import Derived.Test.YtafkcbacdfiniaaPure
import Derived.Test.YtafkcbacdfiniaaEngP
namespace Go.Proofs.Ytafkcbacdfiniaa.M
open Go Go.Eng Go.Proofs Go.RowKit
set_option maxRecDepth 100000
set_option linter.unusedVariables false
set_option linter.unusedSimpArgs false

theorem shown_ok : law07_shown = some true := by kernel_rfl

abbrev Sm := api_Sample
def Inc (l : List Sm) : Prop := l.Pairwise fun a b => a.Time < b.Time
def lb (l : List Sm) (t : Int) : Nat := (l.takeWhile fun x => decide (x.Time < t)).length
def okS (x : Sm) : Prop := x.Vals.length * 96 ≤ 140737488351232
theorem lb_le (l : List Sm) (t : Int) : lb l t ≤ l.length := by
  unfold lb
  exact (List.takeWhile_sublist _).length_le
theorem lb_lt : ∀ {l : List Sm} {t : Int}, Inc l → ∀ {h : Nat} {x : Sm}, l[h]? = some x → (x.Time < t ↔ h < lb l t)
  | [], t, _, h, x, hx => by simp at hx
  | y :: r, t, hl, h, x, hx => by
    obtain ⟨h1, h2⟩ := List.pairwise_cons.1 hl
    unfold lb
    rw [List.takeWhile_cons]
    by_cases hy : y.Time < t
    · simp only [hy, decide_true, if_true, List.length_cons]
      cases h with
      | zero => simp at hx; subst hx; simp [hy]
      | succ h =>
        have := lb_lt (t := t) h2 (by simpa using hx)
        unfold lb at this
        omega
    · simp only [hy, decide_false, Bool.false_eq_true, if_false, List.length_nil, Nat.not_lt_zero, iff_false]
      cases h with
      | zero => simp at hx; subst hx; exact hy
      | succ h =>
        have := h1 x (List.mem_of_getElem? (by simpa using hx))
        omega
theorem cmp_eq (x : Sm) (t : Int) : runs_Run_place_1 x t = some (if x.Time < t then -1 else if x.Time > t then 1 else 0) := by
  unfold runs_Run_place_1 cmp_Compare_int cmp_isNaN_int
  have e : ∀ z : Int, (z != z) = false := fun z => by simp
  simp only [e, Option.bind_some, Bool.false_eq_true, if_false, decide_eq_true_eq]
  by_cases h1 : x.Time < t
  · simp [h1]
  · by_cases h2 : x.Time > t
    · simp [h1, h2]
    · simp [h1, h2]
theorem mid_eq (i j : Nat) (h : i + j < 4611686018427387904) : IntKind.i64.wrap ((IntKind.u64.wrap (IntKind.i64.wrap ((i : Int) + (j : Int)))).fdiv (2 ^ (min (1 : Int).toNat 64))) = (((i + j) / 2 : Nat) : Int) := by
  rw [w64 (x := (i : Int) + (j : Int)) (by omega) (by omega)]
  have e1 : IntKind.u64.wrap ((i : Int) + (j : Int)) = (i : Int) + (j : Int) := by
    simp only [IntKind.wrap, IntKind.bits, IntKind.signed, Bool.false_and, Bool.false_eq_true, if_false]
    omega
  have e2 : (2 : Int) ^ (min (1 : Int).toNat 64) = 2 := by decide
  rw [e1, e2, Int.fdiv_eq_ediv_of_nonneg _ (by decide), w64 (by omega) (by omega)]
  omega
def hasAt (l : List Sm) (t : Int) : Bool := match l[lb l t]? with
  | some x => x.Time == t
  | none => false
theorem bs_l0 {l : List Sm} {t : Int} (hl : Inc l) (hn : l.length < 2305843009213693952) : ∀ (fuel i j : Nat), i ≤ lb l t → lb l t ≤ j → j ≤ l.length → j - i < fuel →
    slices_BinarySearchFunc_api_Sample_api_Sample_int_f_runs_Run_place_1.l0 l t fuel (i : Int) (j : Int) = some ((lb l t : Int), hasAt l t)
  | 0, i, j, _, _, _, h => by omega
  | fuel + 1, i, j, h1, h2, h3, h4 => by
    rw [slices_BinarySearchFunc_api_Sample_api_Sample_int_f_runs_Run_place_1.l0]
    by_cases hij : i < j
    · have hd : decide ((i : Int) < (j : Int)) = true := by simpa using hij
      rw [if_pos hd, mid_eq i j (by omega)]
      have hm : (i + j) / 2 < l.length := by omega
      have hx := List.getElem?_eq_getElem hm
      rw [ix_of hx]
      simp only [Option.bind_some, cmp_eq]
      have hlt := lb_lt (t := t) hl hx
      by_cases hc : (l[(i + j) / 2]).Time < t
      · simp only [hc, if_true, decide_true, show decide ((-1 : Int) < 0) = true from rfl, slices_BinarySearchFunc_api_Sample_api_Sample_int_f_runs_Run_place_1.j1]
        have := hlt.1 hc
        rw [w64_nat _ (by omega)]
        exact bs_l0 hl hn fuel _ j (by omega) h2 h3 (by omega)
      · have hz : decide ((if (l[(i + j) / 2]).Time > t then (1 : Int) else 0) < 0) = false := by split <;> rfl
        have := mt hlt.2 hc
        simp only [hc, if_false, hz, Bool.false_eq_true, slices_BinarySearchFunc_api_Sample_api_Sample_int_f_runs_Run_place_1.j1]
        exact bs_l0 hl hn fuel i _ h1 (by omega) (by omega) (by omega)
    · have hd : ¬ (decide ((i : Int) < (j : Int)) = true) := by simpa using hij
      have hi : i = lb l t := by omega
      subst hi
      rw [if_neg hd]
      by_cases hi : lb l t < l.length
      · have hx := List.getElem?_eq_getElem hi
        have hlt := lb_lt (t := t) hl hx
        have hnt : ¬ (l[lb l t]).Time < t := fun h => by have := hlt.1 h; omega
        rw [if_pos (by simpa using hi), ix_of hx]
        simp only [Option.bind_some, cmp_eq, hasAt, hx, hnt, if_false]
        congr 2
        by_cases he : (l[lb l t]).Time > t
        · have : ¬ (l[lb l t]).Time = t := by omega
          simp [he, this]
        · have : (l[lb l t]).Time = t := by omega
          simp [he, this]
      · rw [if_neg (by simpa using hi)]
        have : l[lb l t]? = none := List.getElem?_eq_none (by omega)
        simp [hasAt, this]
theorem place_eq {l : List Sm} {t : Int} (hl : Inc l) (hn : l.length < 2305843009213693952) : runs_Run_place ⟨l⟩ t = some ((lb l t : Int), hasAt l t) := by
  unfold runs_Run_place slices_BinarySearchFunc_api_Sample_api_Sample_int_f_runs_Run_place_1
  have := bs_l0 (t := t) hl hn (((l.length : Int) - 0).toNat + 1) 0 l.length (Nat.zero_le _) (lb_le l t) (Nat.le_refl _) (by omega)
  rw [show ((0 : Nat) : Int) = 0 from rfl] at this
  rw [this]; rfl
theorem hasAt_iff {l : List Sm} {t : Int} (hl : Inc l) : hasAt l t = true ↔ ∃ x ∈ l, x.Time = t := by
  constructor
  · intro h
    unfold hasAt at h
    split at h
    · rename_i x hx
      exact ⟨x, List.mem_of_getElem? hx, by simpa using h⟩
    · cases h
  · rintro ⟨x, hx, rfl⟩
    obtain ⟨h, hh, e⟩ := List.getElem_of_mem hx
    have hg : l[h]? = some x := by rw [List.getElem?_eq_getElem hh, e]
    have h1 : ¬ h < lb l x.Time := fun h' => by have := (lb_lt (t := x.Time) hl hg).2 h'; omega
    have h2 : lb l x.Time = h := by
      rcases Nat.lt_or_ge (lb l x.Time) h with h3 | h3
      · have hlt : lb l x.Time < l.length := by omega
        have := (List.pairwise_iff_getElem.1 hl) (lb l x.Time) h hlt hh h3
        rw [e] at this
        have := (lb_lt (t := x.Time) hl (List.getElem?_eq_getElem hlt)).1 this
        omega
      · omega
    simp [hasAt, h2, hg]
theorem clone_eq {v : List api_Value} (h : v.length * 96 ≤ 140737488351232) : slices_Clone_api_Value_api_Value v = some v := by
  unfold slices_Clone_api_Value_api_Value
  rw [apd_of (by simp only [List.length_nil, Nat.zero_add]; omega)]; simp
def put (l : List Sm) (s : Sm) : List Sm := l.take (lb l s.Time) ++ (s :: l.drop (lb l s.Time))
theorem put_perm (l : List Sm) (s : Sm) : (put l s).Perm (s :: l) := by
  unfold put
  refine List.perm_middle.trans ?_
  rw [List.take_append_drop]
theorem put_inc {l : List Sm} {s : Sm} (hl : Inc l) (h : hasAt l s.Time = false) : Inc (put l s) := by
  have hno : ∀ x ∈ l, x.Time ≠ s.Time := fun x hx e => by
    have := (hasAt_iff (t := s.Time) hl).2 ⟨x, hx, e⟩
    rw [h] at this; cases this
  have hA : ∀ x ∈ l.take (lb l s.Time), x.Time < s.Time := fun x hx => by
    obtain ⟨i, hi, e⟩ := List.getElem_of_mem hx
    rw [List.getElem_take] at e
    simp only [List.length_take] at hi
    exact (lb_lt hl (h := i) (by rw [List.getElem?_eq_getElem (by omega), e])).2 (by omega)
  have hB : ∀ x ∈ l.drop (lb l s.Time), s.Time < x.Time := fun x hx => by
    obtain ⟨i, hi, e⟩ := List.getElem_of_mem hx
    rw [List.getElem_drop] at e
    simp only [List.length_drop] at hi
    have h1 := mt (lb_lt (t := s.Time) hl (h := lb l s.Time + i) (x := x) (by rw [List.getElem?_eq_getElem (by omega), e])).1 (by omega)
    have h2 := hno x (List.mem_of_mem_drop hx)
    omega
  unfold put Inc
  refine List.pairwise_append.2 ⟨hl.sublist (List.take_sublist _ _), List.pairwise_cons.2 ⟨hB, hl.sublist (List.drop_sublist _ _)⟩, fun x hx y hy => ?_⟩
  cases hy with
  | head => exact hA x hx
  | tail _ hy => have := hA x hx; have := hB y hy; omega
theorem add_eq {l : List Sm} {t : Int} {v : List api_Value} (hl : Inc l) (hn : l.length < 1000000) (hv : v.length * 96 ≤ 140737488351232) :
    runs_Run_Add ⟨l⟩ t v = some (if hasAt l t then (false, ⟨l⟩) else (true, ⟨put l ⟨t, v⟩⟩)) := by
  unfold runs_Run_Add
  rw [place_eq hl (by omega)]
  simp only [Option.bind_some]
  cases hh : hasAt l t with
  | true => simp
  | false =>
    simp only [Bool.false_eq_true, if_false, clone_eq hv, Option.bind_some, slices_Insert_api_Sample_api_Sample, ins]
    have := lb_le l t
    rw [if_pos (by omega), if_pos (by omega), if_pos (by simp only [List.length_cons, List.length_nil]; omega)]
    simp [put]
/-- What is told of some time. -/
def fr (l : List Sm) (a b : Int) : List Sm := l.filter fun x => decide (a ≤ x.Time) && decide (x.Time ≤ b)
theorem range_l0 {b : Int} {l : List Sm} (hn : l.length < 1000000) (hok : ∀ x ∈ l, okS x) : ∀ (fuel i : Nat) (acc : List Sm), i ≤ l.length → l.length - i < fuel → acc.length ≤ i →
    runs_Run_Range.l0 b l fuel acc (i : Int) = some (acc ++ (l.drop i).takeWhile fun x => decide (x.Time ≤ b))
  | 0, i, acc, _, h, _ => by omega
  | fuel + 1, i, acc, h1, h2, h3 => by
    rw [runs_Run_Range.l0]
    by_cases hi : i < l.length
    · have hx := List.getElem?_eq_getElem hi
      rw [if_pos (by simpa using hi), ix_of hx]
      simp only [Option.bind_some]
      rw [List.drop_eq_getElem_cons hi, List.takeWhile_cons]
      by_cases hc : (l[i]).Time ≤ b
      · have hc' : decide ((l[i]).Time > b) = false := by simp; omega
        have hk := hok _ (List.getElem_mem hi)
        unfold okS at hk
        rw [hc', clone_eq hk]
        simp only [Bool.false_eq_true, if_false, Option.bind_some, hc, decide_true, if_true]
        rw [apd_of (by simp only [List.length_cons, List.length_nil]; omega)]
        simp only [Option.bind_some]
        rw [w64_nat _ (by omega), range_l0 hn hok fuel (i + 1) _ (by omega) (by omega) (by simp; omega)]
        simp
      · have hc' : decide ((l[i]).Time > b) = true := by simp; omega
        rw [hc']
        simp [hc]
    · rw [if_neg (by simpa using hi)]
      have : i = l.length := by omega
      subst this
      simp
theorem fr_eq : ∀ {l : List Sm} (a b : Int), Inc l → (l.drop (lb l a)).takeWhile (fun x => decide (x.Time ≤ b)) = fr l a b
  | [], a, b, _ => rfl
  | y :: r, a, b, hl => by
    obtain ⟨h1, h2⟩ := List.pairwise_cons.1 hl
    have ih := fr_eq a b h2
    by_cases hy : y.Time < a
    · have e1 : lb (y :: r) a = lb r a + 1 := by simp [lb, List.takeWhile_cons, hy]
      have e2 : ¬ a ≤ y.Time := by omega
      rw [e1, List.drop_succ_cons, ih]
      simp [fr, e2]
    · have e1 : lb (y :: r) a = 0 := by simp [lb, List.takeWhile_cons, hy]
      have e3 : lb r a = 0 := by
        cases r with
        | nil => rfl
        | cons z q =>
          have := h1 z (by simp)
          have hz : ¬ z.Time < a := by omega
          simp [lb, List.takeWhile_cons, hz]
      rw [e3, List.drop_zero] at ih
      rw [e1, List.drop_zero, List.takeWhile_cons]
      have e2 : a ≤ y.Time := by omega
      by_cases hb : y.Time ≤ b
      · simp only [hb, decide_true, if_true, ih]
        simp [fr, e2, hb]
      · simp only [hb, decide_false, Bool.false_eq_true, if_false]
        symm
        unfold fr
        rw [List.filter_eq_nil_iff]
        intro x hx
        cases hx with
        | head => simp [hb]
        | tail _ hx => have := h1 x hx; simp; intro _; omega
theorem range_eq {l : List Sm} {a b : Int} (hl : Inc l) (hn : l.length < 1000000) (hok : ∀ x ∈ l, okS x) : runs_Run_Range ⟨l⟩ a b = some (fr l a b) := by
  unfold runs_Run_Range
  rw [place_eq hl (by omega)]
  simp only [Option.bind_some]
  have := lb_le l a
  rw [cut_of (by omega) (by omega) (by omega)]
  simp only [Option.bind_some]
  have e : (l.drop ((lb l a : Int).toNat)).take ((l.length : Int).toNat - (lb l a : Int).toNat) = l.drop (lb l a) := by
    rw [Int.toNat_natCast, Int.toNat_natCast]
    exact List.take_of_length_le (by rw [List.length_drop]; omega)
  rw [e]
  have h0 := range_l0 (b := b) (l := l.drop (lb l a)) (by rw [List.length_drop]; omega) (fun x hx => hok x (List.mem_of_mem_drop hx)) ((((l.drop (lb l a)).length : Int) - 0).toNat + 1) 0 [] (Nat.zero_le _) (by omega) (Nat.le_refl _)
  rw [show ((0 : Nat) : Int) = 0 from rfl] at h0
  rw [h0, List.drop_zero, List.nil_append, fr_eq a b hl]
/-! sameness -/
theorem vals_l0 (v : List api_Value) (hn : v.length < 4611686018427387904) : ∀ (fuel i : Nat), i ≤ v.length → v.length - i < fuel → law07_vals.l0 v v fuel (i : Int) = some true
  | 0, i, _, h => by omega
  | fuel + 1, i, h1, h2 => by
    rw [law07_vals.l0]
    by_cases hi : i < v.length
    · rw [if_pos (by simpa using hi), ix_of (List.getElem?_eq_getElem hi)]
      simp only [Option.bind_some, decide_true, Bool.not_true, Bool.false_eq_true, if_false]
      rw [w64_nat _ (by omega)]
      exact vals_l0 v hn fuel (i + 1) (by omega) (by omega)
    · rw [if_neg (by simpa using hi)]
theorem vals_refl {v : List api_Value} (h : v.length * 96 ≤ 140737488351232) : law07_vals v v = some true := by
  unfold law07_vals
  have := vals_l0 v (by omega) (((v.length : Int) - 0).toNat + 1) 0 (Nat.zero_le _) (by omega)
  rw [show ((0 : Nat) : Int) = 0 from rfl] at this
  rw [this]
  simp
theorem same_l0 (l : List Sm) (hn : l.length < 4611686018427387904) (hok : ∀ x ∈ l, okS x) : ∀ (fuel i : Nat), i ≤ l.length → l.length - i < fuel → law07_same.l0 l l fuel (i : Int) = some true
  | 0, i, _, h => by omega
  | fuel + 1, i, h1, h2 => by
    rw [law07_same.l0]
    by_cases hi : i < l.length
    · rw [if_pos (by simpa using hi), ix_of (List.getElem?_eq_getElem hi)]
      simp only [Option.bind_some, beq_self_eq_true, if_true]
      have hk := hok _ (List.getElem_mem hi)
      rw [vals_refl hk]
      simp only [Option.bind_some, law07_same.j1, Bool.not_true, Bool.false_eq_true, if_false]
      rw [w64_nat _ (by omega)]
      exact same_l0 l hn hok fuel (i + 1) (by omega) (by omega)
    · rw [if_neg (by simpa using hi)]
theorem same_refl {l : List Sm} (hn : l.length < 1000000) (hok : ∀ x ∈ l, okS x) : law07_same l l = some true := by
  unfold law07_same
  have := same_l0 l (by omega) hok (((l.length : Int) - 0).toNat + 1) 0 (Nat.zero_le _) (by omega)
  rw [show ((0 : Nat) : Int) = 0 from rfl] at this
  rw [this]
  simp

/-! any order -/
def inR (x : Sm) : Prop := -9223372036854775808 ≤ x.Time ∧ x.Time ≤ 9223372036854775807
theorem fr_all {l : List Sm} (h : ∀ x ∈ l, inR x) : fr l (-9223372036854775808) 9223372036854775807 = l := by
  unfold fr
  rw [List.filter_eq_self]
  intro x hx
  have := h x hx
  simp [this.1, this.2]
theorem ne_of {l m : List Sm} (hl : Inc l) (h : l.Perm m) : m.Pairwise fun a b => a.Time ≠ b.Time :=
  (h.pairwise_iff (R := fun a b => a.Time ≠ b.Time) (fun {x y} h e => h e.symm)).1 (hl.imp fun h e => by rw [e] at h; omega)
theorem rot_get {l : List Sm} {r i : Nat} (hr : r < l.length) (hi : i < l.length) : l[(i + r) % l.length]? = (l.drop r ++ l.take r)[i]? := by
  rw [List.getElem?_append]
  rw [List.length_drop]
  by_cases h : i < l.length - r
  · rw [if_pos h, List.getElem?_drop, Nat.mod_eq_of_lt (by omega), Nat.add_comm]
  · rw [if_neg h, List.getElem?_take, if_pos (by omega)]
    congr 1
    rw [show i + r = l.length + (i - (l.length - r)) by omega, Nat.add_mod_left, Nat.mod_eq_of_lt (by omega)]
theorem order_l5 {al once : List Sm} {A : Nat} (hal : Inc al) (hp : al.Perm once) (hlen : al.length < 1000000) (hok : ∀ x ∈ al, okS x ∧ inR x) :
    ∀ (fuel i : Nat) (bl : List Sm), Inc bl → bl.Perm ((once.drop (A % once.length) ++ once.take (A % once.length)).take i) → i ≤ once.length → once.length - i < fuel →
    law07_RunsOrder.l5 al once (A : Int) fuel bl (i : Int) = some true
  | 0, i, bl, _, _, _, h => by omega
  | fuel + 1, i, bl, hbl, hpb, hi, hf => by
    have hle := hp.length_eq
    have hrot : (once.drop (A % once.length) ++ once.take (A % once.length)).Perm once := List.perm_append_comm.trans (by rw [List.take_append_drop])
    have hokb : ∀ x ∈ bl, okS x ∧ inR x := fun x hx => hok x (hp.mem_iff.2 (hrot.mem_iff.1 (List.mem_of_mem_take (hpb.mem_iff.1 hx))))
    have hbn : bl.length ≤ i := by
      have := hpb.length_eq
      rw [List.length_take] at this; omega
    rw [law07_RunsOrder.l5]
    by_cases hlt : i < once.length
    · have h0 : ((once.length : Int) != 0) = true := bne_iff_ne.2 (by omega)
      rw [if_pos (by simpa using hlt), if_pos h0, if_pos h0]
      have hr : A % once.length < once.length := Nat.mod_lt _ (by omega)
      have e1 : (A : Int).tmod (once.length : Int) = ((A % once.length : Nat) : Int) := (Int.ofNat_tmod A once.length).symm
      have e2 : IntKind.i64.wrap ((i : Int) + (A : Int).tmod (once.length : Int)) = ((i + A % once.length : Nat) : Int) := by
        rw [e1, w64 (by omega) (by omega)]; omega
      rw [e2, (Int.ofNat_tmod (i + A % once.length) once.length).symm]
      have hg := rot_get hr hlt
      have hrl : i < (once.drop (A % once.length) ++ once.take (A % once.length)).length := by rw [hrot.length_eq]; exact hlt
      generalize hro : once.drop (A % once.length) ++ once.take (A % once.length) = rot at *
      rw [List.getElem?_eq_getElem hrl] at hg
      rw [ix_of hg]
      simp only [Option.bind_some]
      have hx := List.getElem_mem hrl
      have hxo := (hok _ (hp.mem_iff.2 (hrot.mem_iff.1 hx))).1
      have hno : hasAt bl (rot[i]).Time = false := by
        cases hh : hasAt bl (rot[i]).Time with
        | false => rfl
        | true =>
          exfalso
          obtain ⟨y, hy, e⟩ := (hasAt_iff hbl).1 hh
          have hy' := hpb.mem_iff.1 hy
          obtain ⟨q, hq, e3⟩ := List.getElem_of_mem hy'
          rw [List.getElem_take] at e3
          simp only [List.length_take] at hq
          have hpw := List.pairwise_iff_getElem.1 (ne_of hal (hp.trans hrot.symm)) q i (by omega) hrl (by omega)
          exact hpw (by rw [e3, e])
      rw [add_eq hbl (by omega) hxo, hno]
      simp only [Bool.false_eq_true, if_false, Option.bind_some, Bool.not_true]
      rw [w64_nat _ (by omega)]
      refine order_l5 hal hp hlen hok fuel (i + 1) _ (put_inc hbl hno) ?_ (by omega) (by omega)
      rw [hro, List.take_succ_eq_append_getElem hrl]
      exact (put_perm bl _).trans ((List.Perm.cons _ hpb).trans (List.perm_append_comm (l₁ := [rot[i]])))
    · rw [if_neg (by simpa using hlt)]
      have hi' : i = once.length := by omega
      rw [hi', List.take_of_length_le (by rw [hrot.length_eq]; exact Nat.le_refl _)] at hpb
      have hbp : bl.Perm al := (hpb.trans hrot).trans hp.symm
      have heq : bl = al := List.Perm.eq_of_pairwise (le := fun a b : Sm => a.Time < b.Time) (fun a b _ _ h1 h2 => by omega) hbl hal hbp
      subst heq
      rw [range_eq hal hlen (fun x hx => (hok x hx).1), fr_all (fun x hx => (hok x hx).2)]
      simp only [Option.bind_some, same_refl hlen (fun x hx => (hok x hx).1), if_true, runs_Run_Len]
      simp [hle]
theorem order_j4 {al once : List Sm} {at_ : Int} (hal : Inc al) (hp : al.Perm once) (hlen : al.length < 1000000) (hok : ∀ x ∈ al, okS x ∧ inR x) (h0 : 0 ≤ at_) : law07_RunsOrder.j4 ⟨[]⟩ al once at_ = some true := by
  obtain ⟨A, rfl⟩ : ∃ A : Nat, at_ = A := ⟨at_.toNat, by omega⟩
  unfold law07_RunsOrder.j4
  exact order_l5 hal hp hlen hok (((once.length : Int) - 0).toNat + 1) 0 [] List.Pairwise.nil (by simp) (Nat.zero_le _) (by omega)
theorem order_l1 {a0 : List Sm} {a1 : Int} (hn : a0.length < 4611686018427387904) (ha : ∀ x ∈ a0, okS x ∧ inR x) (h1 : -9223372036854775808 ≤ a1 ∧ a1 ≤ 9223372036854775807) : ∀ (fuel i : Nat) (al once : List Sm), Inc al → al.Perm once → al.length ≤ i → i ≤ 150 → i ≤ a0.length → (∀ x ∈ al, okS x ∧ inR x) → a0.length - i < fuel →
    law07_RunsOrder.l1 a0 a1 ⟨[]⟩ fuel al once (i : Int) = some true
  | 0, i, al, once, _, _, _, _, _, _, h => by omega
  | fuel + 1, i, al, once, hal, hp, hli, hi, hia, hok, hf => by
    have hle := hp.length_eq
    have hexit : ∀ x, law07_RunsOrder.j2 (law07_RunsOrder.l1 a0 a1 ⟨[]⟩ fuel) a0 a1 ⟨[]⟩ al once x false = some true := fun x => by
      unfold law07_RunsOrder.j2
      simp only [Bool.false_eq_true, if_false]
      split
      · rename_i h; exact order_j4 hal hp (by omega) hok (folded h1.1 (by simpa using h))
      · rename_i h; exact order_j4 hal hp (by omega) hok (by simpa using h)
    rw [law07_RunsOrder.l1]
    by_cases hlt : i < a0.length
    · rw [if_pos (by simpa using hlt)]
      by_cases h150 : i < 150
      · have hd : decide ((i : Int) < 150) = true := by simp; omega
        rw [hd]
        unfold law07_RunsOrder.j2
        rw [if_pos rfl, ix_of (List.getElem?_eq_getElem hlt)]
        simp only [Option.bind_some]
        have hx := ha _ (List.getElem_mem hlt)
        rw [add_eq hal (by omega) hx.1]
        cases hh : hasAt al (a0[i]).Time with
        | true =>
          simp only [if_true, Option.bind_some, Bool.false_eq_true, if_false, law07_RunsOrder.j3]
          rw [w64_nat _ (by omega)]
          exact order_l1 hn ha h1 fuel (i + 1) al once hal hp (by omega) (by omega) (by omega) hok (by omega)
        | false =>
          simp only [Bool.false_eq_true, if_false, Option.bind_some, if_true]
          rw [apd_of (by simp only [List.length_cons, List.length_nil]; omega)]
          simp only [Option.bind_some, law07_RunsOrder.j3]
          rw [w64_nat _ (by omega)]
          have hpp := put_perm al (a0[i])
          refine order_l1 hn ha h1 fuel (i + 1) _ _ (put_inc (s := a0[i]) hal hh) (hpp.trans ((List.Perm.cons _ hp).trans (List.perm_append_comm (l₁ := [a0[i]])))) ?_ (by omega) (by omega) (fun x hx' => ?_) (by omega)
          · show (put al (a0[i])).length ≤ _
            have := hpp.length_eq; simp only [List.length_cons] at this; omega
          · rcases List.mem_cons.1 (hpp.mem_iff.1 hx') with h | h
            · rw [h]; exact hx
            · exact hok x h
      · have hd : decide ((i : Int) < 150) = false := by simp; omega
        rw [hd]
        exact hexit _
    · rw [if_neg (by simpa using hlt)]
      exact hexit _
theorem sm_ok {x : Sm} (h : ok_api_Sample x) : okS x ∧ inR x := ⟨h.2.1, i64_range h.1⟩
theorem RunsOrder_pure (a0 : List Sm) (ha0 : a0.length * 32 ≤ 140737488351232 ∧ ∀ x ∈ a0, ok_api_Sample x) (a1 : Int) (ha1 : (Lit.int .i64 a1).wf = true) : law07_RunsOrder a0 a1 = some true := by
  unfold law07_RunsOrder
  simp only [shown_ok, Option.bind_some, runs_New, Bool.not_true, Bool.false_eq_true, if_false, law07_RunsOrder.j0]
  exact order_l1 (by omega) (fun x hx => sm_ok (ha0.2 x hx)) (i64_range ha1) (((a0.length : Int) - 0).toNat + 1) 0 [] [] List.Pairwise.nil (List.Perm.refl _) (Nat.zero_le _) (by omega) (Nat.zero_le _) (fun x hx => by cases hx) (by omega)

/-! two parts -/
theorem fr_split {l : List Sm} {a m b : Int} (hl : Inc l) (h1 : a ≤ m) (h2 : m < b) : fr l a b = fr l a m ++ fr l (m + 1) b := by
  induction l with
  | nil => rfl
  | cons y r ih =>
    obtain ⟨h3, h4⟩ := List.pairwise_cons.1 hl
    have ih := ih h4
    unfold fr at *
    by_cases hy : y.Time ≤ m
    · have e1 : y.Time ≤ b := by omega
      have e2 : ¬ m + 1 ≤ y.Time := by omega
      by_cases ha : a ≤ y.Time
      · simp [ha, hy, e1, e2, ih]
      · simp [ha, e2, ih]
    · have hno : (y :: r).filter (fun x => decide (a ≤ x.Time) && decide (x.Time ≤ m)) = [] := by
        rw [List.filter_eq_nil_iff]
        intro x hx
        have : ¬ x.Time ≤ m := by
          cases hx with
          | head => exact hy
          | tail _ hx => have := h3 x hx; omega
        simp [this]
      rw [hno, List.nil_append]
      have hall : ∀ x ∈ y :: r, (decide (a ≤ x.Time) && decide (x.Time ≤ b)) = (decide (m + 1 ≤ x.Time) && decide (x.Time ≤ b)) := fun x hx => by
        have : m + 1 ≤ x.Time := by
          cases hx with
          | head => omega
          | tail _ hx => have := h3 x hx; omega
        have h5 : a ≤ x.Time := by omega
        simp [this, h5]
      exact List.filter_congr hall
theorem fr_inc {l : List Sm} (a b : Int) (hl : Inc l) : Inc (fr l a b) := hl.sublist List.filter_sublist
theorem fr_mem {l : List Sm} {a b : Int} {x : Sm} (h : x ∈ fr l a b) : x ∈ l ∧ a ≤ x.Time ∧ x.Time ≤ b := by
  unfold fr at h
  rw [List.mem_filter] at h
  simpa using h
theorem fr_len (l : List Sm) (a b : Int) : (fr l a b).length ≤ l.length := List.length_filter_le _ _
theorem get_eq {l : List Sm} {x : Sm} (hl : Inc l) (hn : l.length < 1000000) (hx : x ∈ l) (hok : okS x) : runs_Run_Get ⟨l⟩ x.Time = some (x.Vals, true) := by
  unfold runs_Run_Get
  rw [place_eq hl (by omega)]
  have hh := (hasAt_iff (t := x.Time) hl).2 ⟨x, hx, rfl⟩
  obtain ⟨h, hlt, e⟩ := List.getElem_of_mem hx
  have hg : l[h]? = some x := by rw [List.getElem?_eq_getElem hlt, e]
  have h1 : ¬ h < lb l x.Time := fun h' => by have := (lb_lt (t := x.Time) hl hg).2 h'; omega
  have h2 : lb l x.Time = h := by
    rcases Nat.lt_or_ge (lb l x.Time) h with h3 | h3
    · have hlt' : lb l x.Time < l.length := by omega
      have := (List.pairwise_iff_getElem.1 hl) (lb l x.Time) h hlt' hlt h3
      rw [e] at this
      have := (lb_lt (t := x.Time) hl (List.getElem?_eq_getElem hlt')).1 this
      omega
    · omega
  simp only [Option.bind_some, hh, Bool.not_true, Bool.false_eq_true, if_false, h2, ix_of hg, clone_eq hok]
theorem cuts_l6 {a1 a2 : Int} {al : List Sm} {alike : Bool} (hal : Inc al) (hlen : al.length < 1000000) (hok : ∀ x ∈ al, okS x) : ∀ (fuel i : Nat), i ≤ (fr al a1 a2).length → (fr al a1 a2).length - i < fuel →
    law07_RunsCuts.l6 a1 a2 al (fr al a1 a2) alike fuel (i : Int) = some alike
  | 0, i, _, h => by omega
  | fuel + 1, i, h1, h2 => by
    have hle := fr_len al a1 a2
    rw [law07_RunsCuts.l6]
    by_cases hi : i < (fr al a1 a2).length
    · have hx := List.getElem_mem hi
      obtain ⟨hm, hA, hB⟩ := fr_mem hx
      have hg := List.getElem?_eq_getElem hi
      have hinc := fr_inc a1 a2 hal
      have ih := cuts_l6 (a1 := a1) (a2 := a2) (alike := alike) hal hlen hok fuel (i + 1) (by omega) (by omega)
      rw [if_pos (by simpa using hi)]
      simp only [ix_of hg, Option.bind_some, get_eq hal hlen hm (hok _ hm), vals_refl (hok _ hm), Bool.not_true, Bool.false_eq_true, if_false]
      have e1 : decide (((fr al a1 a2)[i]).Time < a1) = false := by simp; omega
      have e2 : decide (((fr al a1 a2)[i]).Time > a2) = false := by simp; omega
      simp only [e1, e2, Bool.false_eq_true, if_false]
      by_cases h0 : 0 < i
      · have hi' : i - 1 < (fr al a1 a2).length := by omega
        have e3 : IntKind.i64.wrap ((i : Int) - 1) = ((i - 1 : Nat) : Int) := by rw [w64 (by omega) (by omega)]; omega
        rw [if_pos (by simpa using h0), e3, ix_of (List.getElem?_eq_getElem hi')]
        have := (List.pairwise_iff_getElem.1 hinc) (i - 1) i hi' hi (by omega)
        have e4 : decide (((fr al a1 a2)[i]).Time ≤ ((fr al a1 a2)[i - 1]).Time) = false := by simp; omega
        simp only [Option.bind_some, e4, law07_RunsCuts.j7, Bool.false_eq_true, if_false]
        rw [w64_nat _ (by omega)]
        exact ih
      · rw [if_neg (by simpa using h0)]
        simp only [law07_RunsCuts.j7, Bool.false_eq_true, if_false]
        rw [w64_nat _ (by omega)]
        exact ih
    · rw [if_neg (by simpa using hi)]
theorem cuts_j5 {a1 a2 : Int} {al : List Sm} (hal : Inc al) (hlen : al.length < 1000000) (hok : ∀ x ∈ al, okS x) : law07_RunsCuts.j5 a1 a2 al (fr al a1 a2) (fr al a1 a2) = some true := by
  unfold law07_RunsCuts.j5
  have hle := fr_len al a1 a2
  rw [same_refl (by omega) (fun x hx => hok x (fr_mem hx).1)]
  exact cuts_l6 hal hlen hok ((((fr al a1 a2).length : Int) - 0).toNat + 1) 0 (Nat.zero_le _) (by omega)
theorem cuts_j4 {a1 a2 m : Int} {al : List Sm} (hal : Inc al) (hlen : al.length < 1000000) (hok : ∀ x ∈ al, okS x) (h1 : a1 ≤ m) (h2 : m < a2 ∨ (m = a1 ∧ a1 = a2)) (hr : -9223372036854775808 ≤ a1 ∧ a2 ≤ 9223372036854775807) : law07_RunsCuts.j4 a1 a2 al m = some true := by
  unfold law07_RunsCuts.j4
  rw [range_eq hal hlen hok, range_eq hal hlen hok]
  simp only [Option.bind_some]
  have l1 := fr_len al a1 m
  have l2 := fr_len al (m + 1) a2
  rcases h2 with h2 | ⟨h2, h3⟩
  · rw [if_pos (by simpa using h2), apd_of (by simp only [List.length_nil]; omega)]
    simp only [Option.bind_some, List.nil_append]
    rw [w64 (x := m + 1) (by omega) (by omega), range_eq hal hlen hok]
    simp only [Option.bind_some]
    rw [apd_of (by omega)]
    simp only [Option.bind_some]
    rw [← fr_split hal h1 h2]
    exact cuts_j5 hal hlen hok
  · subst h2; subst h3
    rw [if_neg (by simp)]
    exact cuts_j5 hal hlen hok
theorem half_bd (x : Int) : 2 * x.tdiv 2 ≤ x + 1 ∧ x - 1 ≤ 2 * x.tdiv 2 ∧ (0 ≤ x → 2 * x.tdiv 2 ≤ x) ∧ (x ≤ 0 → x ≤ 2 * x.tdiv 2) := by
  rcases Int.le_total 0 x with h | h
  · rw [Int.tdiv_eq_ediv_of_nonneg h]; omega
  · have : x.tdiv 2 = -((-x) / 2) := by
      rw [← Int.tdiv_eq_ediv_of_nonneg (by omega), Int.neg_tdiv, Int.neg_neg]
    rw [this]; omega
theorem half (x : Int) (h : -9223372036854775808 ≤ x ∧ x ≤ 9223372036854775807) : IntKind.i64.wrap (x.tdiv 2) = x.tdiv 2 := by
  have := half_bd x
  apply w64 <;> omega
theorem cuts_l1 {a0 : List Sm} {a1 a2 : Int} (hn : a0.length < 4611686018427387904) (ha : ∀ x ∈ a0, okS x) (h1 : -9223372036854775808 ≤ a1 ∧ a1 ≤ 9223372036854775807) (h2 : -9223372036854775808 ≤ a2 ∧ a2 ≤ 9223372036854775807) :
    ∀ (fuel i : Nat) (al : List Sm), Inc al → al.length ≤ i → i ≤ 150 → i ≤ a0.length → (∀ x ∈ al, okS x) → a0.length - i < fuel → law07_RunsCuts.l1 a0 a1 a2 fuel al (i : Int) = some true
  | 0, i, al, _, _, _, _, _, h => by omega
  | fuel + 1, i, al, hal, hli, hi, hia, hok, hf => by
    have hexit : ∀ x, law07_RunsCuts.j2 (law07_RunsCuts.l1 a0 a1 a2 fuel) a0 a1 a2 al x false = some true := fun x => by
      unfold law07_RunsCuts.j2
      simp only [Bool.false_eq_true, if_false]
      by_cases hgt : a1 > a2
      · rw [if_pos (by simpa using hgt), range_eq hal (by omega) hok]
        have : fr al a1 a2 = [] := by
          unfold fr
          rw [List.filter_eq_nil_iff]
          intro x _
          simp; omega
        simp [this]
      · rw [if_neg (by simpa using hgt)]
        have hw : IntKind.i64.wrap (IntKind.i64.wrap (a1.tdiv 2) + IntKind.i64.wrap (a2.tdiv 2)) = a1.tdiv 2 + a2.tdiv 2 := by
          rw [half a1 h1, half a2 h2]
          have b1 := half_bd a1
          have b2 := half_bd a2
          apply w64 <;> omega
        rw [hw]
        unfold law07_RunsCuts.j3
        rw [hw]
        by_cases hc : a1.tdiv 2 + a2.tdiv 2 < a1
        · rw [if_pos (by simpa using hc), if_pos rfl]
          exact cuts_j4 hal (by omega) hok (Int.le_refl _) (by omega) ⟨h1.1, h2.2⟩
        · rw [if_neg (by simpa using hc)]
          by_cases hd : a1.tdiv 2 + a2.tdiv 2 ≥ a2
          · rw [if_pos (by simpa using hd)]
            exact cuts_j4 hal (by omega) hok (Int.le_refl _) (by omega) ⟨h1.1, h2.2⟩
          · rw [if_neg (by simpa using hd)]
            exact cuts_j4 hal (by omega) hok (by omega) (Or.inl (by omega)) ⟨h1.1, h2.2⟩
    rw [law07_RunsCuts.l1]
    by_cases hlt : i < a0.length
    · rw [if_pos (by simpa using hlt)]
      by_cases h150 : i < 150
      · have hd : decide ((i : Int) < 150) = true := by simp; omega
        rw [hd]
        unfold law07_RunsCuts.j2
        rw [if_pos rfl, ix_of (List.getElem?_eq_getElem hlt)]
        simp only [Option.bind_some]
        have hx := ha _ (List.getElem_mem hlt)
        rw [add_eq hal (by omega) hx]
        simp only [Option.bind_some]
        rw [w64_nat _ (by omega)]
        cases hh : hasAt al (a0[i]).Time with
        | true =>
          simp only [if_true]
          exact cuts_l1 hn ha h1 h2 fuel (i + 1) al hal (by omega) (by omega) (by omega) hok (by omega)
        | false =>
          simp only [Bool.false_eq_true, if_false]
          have hpp := put_perm al (a0[i])
          refine cuts_l1 hn ha h1 h2 fuel (i + 1) _ (put_inc (s := a0[i]) hal hh) ?_ (by omega) (by omega) (fun x hx' => ?_) (by omega)
          · show (put al (a0[i])).length ≤ _
            have := hpp.length_eq; simp only [List.length_cons] at this; omega
          · rcases List.mem_cons.1 (hpp.mem_iff.1 hx') with h | h
            · rw [h]; exact hx
            · exact hok x h
      · have hd : decide ((i : Int) < 150) = false := by simp; omega
        rw [hd]
        exact hexit _
    · rw [if_neg (by simpa using hlt)]
      exact hexit _
theorem RunsCuts_pure (a0 : List Sm) (ha0 : a0.length * 32 ≤ 140737488351232 ∧ ∀ x ∈ a0, ok_api_Sample x) (a1 : Int) (ha1 : (Lit.int .i64 a1).wf = true) (a2 : Int) (ha2 : (Lit.int .i64 a2).wf = true) : law07_RunsCuts a0 a1 a2 = some true := by
  unfold law07_RunsCuts
  simp only [shown_ok, Option.bind_some, runs_New, Bool.not_true, Bool.false_eq_true, if_false, law07_RunsCuts.j0]
  exact cuts_l1 (by omega) (fun x hx => (sm_ok (ha0.2 x hx)).1) (i64_range ha1) (i64_range ha2) (((a0.length : Int) - 0).toNat + 1) 0 [] List.Pairwise.nil (Nat.zero_le _) (by omega) (Nat.zero_le _) (fun x hx => by cases hx) (by omega)
end Go.Proofs.Ytafkcbacdfiniaa.M
