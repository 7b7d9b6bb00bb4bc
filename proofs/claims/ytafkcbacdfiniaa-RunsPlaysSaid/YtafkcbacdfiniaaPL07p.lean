/- Layer 7: a run does any calls as the reference says. -/
import Derived.Test.YtafkcbacdfiniaaPure
import Derived.Test.YtafkcbacdfiniaaPL07
namespace Go.Proofs.Ytafkcbacdfiniaa.M
open Go Go.Eng Go.Proofs Go.RowKit
set_option maxRecDepth 100000
set_option linter.unusedVariables false
set_option linter.unusedSimpArgs false

theorem inc_uniq : ∀ {l : List Sm}, Inc l → ∀ {x y : Sm}, x ∈ l → y ∈ l → x.Time = y.Time → x = y
  | [], _, x, y, hx, _, _ => by cases hx
  | z :: r, h, x, y, hx, hy, e => by
    obtain ⟨h1, h2⟩ := List.pairwise_cons.1 h
    rcases List.mem_cons.1 hx with hx' | hx'
    · rcases List.mem_cons.1 hy with hy' | hy'
      · rw [hx', hy']
      · have := h1 y hy'; rw [hx'] at e; omega
    · rcases List.mem_cons.1 hy with hy' | hy'
      · have := h1 x hx'; rw [hy'] at e; omega
      · exact inc_uniq h2 hx' hy' e
def getS (l : List Sm) (t : Int) : List api_Value × Bool := match l.find? (fun x => decide (x.Time = t)) with
  | some x => (x.Vals, true)
  | none => ([], false)
theorem getS_has {l : List Sm} {t : Int} (hl : Inc l) : (getS l t).2 = hasAt l t := by
  unfold getS
  cases h : l.find? (fun x => decide (x.Time = t)) with
  | some x =>
    have h1 := List.mem_of_find?_eq_some h
    have h2 := List.find?_some h
    exact ((hasAt_iff hl).2 ⟨x, h1, by simpa using h2⟩).symm
  | none =>
    cases hh : hasAt l t with
    | false => rfl
    | true =>
      obtain ⟨x, hx, e⟩ := (hasAt_iff hl).1 hh
      have := List.find?_eq_none.1 h x hx
      simp [e] at this
theorem pget_eq {l : List Sm} {t : Int} (hl : Inc l) (hn : l.length < 1000000) (hok : ∀ x ∈ l, okS x) : runs_Run_Get ⟨l⟩ t = some (getS l t) := by
  unfold runs_Run_Get
  rw [place_eq hl (by omega)]
  simp only [Option.bind_some]
  have hg := getS_has (t := t) hl
  cases hh : hasAt l t with
  | false =>
    rw [hh] at hg
    rw [if_pos (by simp)]
    unfold getS at hg ⊢
    split at hg
    · cases hg
    · rfl
  | true =>
    have hx : ∃ x, l[lb l t]? = some x ∧ x.Time = t := by
      unfold hasAt at hh
      cases e : l[lb l t]? with
      | none => rw [e] at hh; cases hh
      | some x => rw [e] at hh; exact ⟨x, rfl, by simpa using hh⟩
    obtain ⟨x, h1, h2⟩ := hx
    have hm := List.mem_of_getElem? h1
    have hf : l.find? (fun x => decide (x.Time = t)) = some x := by
      cases hfe : l.find? (fun x => decide (x.Time = t)) with
      | none => have := List.find?_eq_none.1 hfe x hm; simp [h2] at this
      | some y =>
        have h3 := List.mem_of_find?_eq_some hfe
        have h4 := List.find?_some hfe
        rw [inc_uniq hl h3 hm (by rw [h2]; simpa using h4)]
    rw [if_neg (by simp), ix_of h1, Option.bind_some, clone_eq (hok x hm), Option.bind_some]
    unfold getS
    rw [hf]
theorem rget_l0 {l : List Sm} {t : Int} (hn : l.length < 1000000) (hok : ∀ x ∈ l, okS x) : ∀ (fuel i : Nat), i ≤ l.length → l.length < i + fuel →
    ref07_Run_Get.l0 ⟨l⟩ t fuel (i : Int) = some (getS (l.drop i) t)
  | 0, i, _, h => by omega
  | fuel + 1, i, h1, h2 => by
    rw [ref07_Run_Get.l0]
    by_cases hi : i < l.length
    · obtain ⟨x, hx, ex⟩ := getE hi
      have hk := hok x (List.mem_of_getElem? hx)
      unfold okS at hk
      rw [if_pos (dlt hi), ix_of hx, Option.bind_some, ex]
      unfold getS
      rw [List.find?_cons]
      by_cases e : x.Time = t
      · rw [if_pos (by simpa using e), Option.bind_some, apd_of (by simp; omega), Option.bind_some]
        simp [e]
      · rw [if_neg (by simpa using e), w64_nat i (by omega), rget_l0 hn hok fuel (i + 1) (by omega) (by omega)]
        simp [e, getS]
    · rw [if_neg (dnl (show l.length ≤ i by omega)), List.drop_of_length_le (by omega)]; rfl
theorem rget_eq {l : List Sm} {t : Int} (hn : l.length < 1000000) (hok : ∀ x ∈ l, okS x) : ref07_Run_Get ⟨l⟩ t = some (getS l t) := by
  unfold ref07_Run_Get
  rw [fuel_nat]
  have := rget_l0 (t := t) hn hok (l.length + 1) 0 (Nat.zero_le _) (by omega)
  rw [List.drop_zero] at this
  exact this
theorem radd_done {l : List Sm} {t : Int} {v : List api_Value} (hn : l.length < 1000000) : ∀ (fuel i : Nat) (acc : List Sm), i ≤ l.length → l.length < i + fuel → acc.length ≤ i + 1 →
    ref07_Run_Add.l0 ⟨l⟩ t v fuel acc true (i : Int) = some (true, ⟨acc ++ l.drop i⟩)
  | 0, i, acc, _, h, _ => by omega
  | fuel + 1, i, acc, h1, h2, h3 => by
    rw [ref07_Run_Add.l0]
    by_cases hi : i < l.length
    · obtain ⟨x, hx, ex⟩ := getE hi
      have step : ref07_Run_Add.j2 (ref07_Run_Add.l0 ⟨l⟩ t v fuel) ⟨l⟩ (i : Int) acc true = some (true, ⟨acc ++ l.drop i⟩) := by
        unfold ref07_Run_Add.j2
        rw [ix_of hx, Option.bind_some, apd_of (by simp only [List.length_singleton]; omega), Option.bind_some, w64_nat i (by omega), radd_done hn fuel (i + 1) _ (by omega) (by omega) (by simp; omega), ex]
        simp
      rw [if_pos (dlt hi), ix_of hx, Option.bind_some]
      unfold ref07_Run_Add.j1
      by_cases e : x.Time > t
      · rw [if_pos (by simpa using e), if_neg (by decide)]; exact step
      · rw [if_neg (by simpa using e), if_neg (by decide)]; exact step
    · rw [if_neg (dnl (show l.length ≤ i by omega)), if_neg (by decide), List.drop_of_length_le (by omega), List.append_nil]
theorem radd_l0 {l : List Sm} {t : Int} {v : List api_Value} (hl : Inc l) (hno : hasAt l t = false) (hn : l.length < 1000000) : ∀ (fuel i : Nat), i ≤ lb l t → l.length < i + fuel →
    ref07_Run_Add.l0 ⟨l⟩ t v fuel (l.take i) false (i : Int) = some (true, ⟨put l ⟨t, v⟩⟩)
  | 0, i, h1, h => by have := lb_le l t; omega
  | fuel + 1, i, h1, h2 => by
    have hle := lb_le l t
    have hne : ∀ x ∈ l, x.Time ≠ t := fun x hx e => by
      have := (hasAt_iff (t := t) hl).2 ⟨x, hx, e⟩
      rw [hno] at this; cases this
    rw [ref07_Run_Add.l0]
    by_cases hi : i < l.length
    · obtain ⟨x, hx, ex⟩ := getE hi
      have hlt := lb_lt (t := t) hl hx
      have hxt := hne x (List.mem_of_getElem? hx)
      rw [if_pos (dlt hi), ix_of hx, Option.bind_some]
      unfold ref07_Run_Add.j1
      by_cases e : x.Time > t
      · have hil : i = lb l t := by
          have : ¬ i < lb l t := fun h => by have := hlt.2 h; omega
          omega
        rw [if_pos (by simpa using e), if_pos (by decide), apd_of (by simp only [List.length_take, List.length_singleton]; omega), Option.bind_some]
        unfold ref07_Run_Add.j2
        rw [ix_of hx, Option.bind_some, apd_of (by simp only [List.length_append, List.length_take, List.length_singleton]; omega), Option.bind_some, w64_nat i (by omega), radd_done hn fuel (i + 1) _ (by omega) (by omega) (by simp only [List.length_append, List.length_take, List.length_singleton]; omega)]
        unfold put
        rw [← hil, ex]
        simp
      · have hil : i < lb l t := hlt.1 (by omega)
        rw [if_neg (by simpa using e), if_neg (by decide)]
        unfold ref07_Run_Add.j2
        rw [ix_of hx, Option.bind_some, apd_of (by simp only [List.length_take, List.length_singleton]; omega), Option.bind_some, w64_nat i (by omega)]
        have : l.take i ++ [x] = l.take (i + 1) := by rw [List.take_add_one, hx]; rfl
        rw [this]
        exact radd_l0 hl hno hn fuel (i + 1) (by omega) (by omega)
    · have hil : i = lb l t := by omega
      rw [if_neg (dnl (show l.length ≤ i by omega)), if_pos (by decide), apd_of (by simp only [List.length_take, List.length_singleton]; omega), Option.bind_some]
      unfold put
      rw [← hil, List.drop_of_length_le (by omega)]
theorem raddP_eq {l : List Sm} {t : Int} {v : List api_Value} (hl : Inc l) (hn : l.length < 1000000) (hok : ∀ x ∈ l, okS x) (hv : v.length * 96 ≤ 140737488351232) :
    ref07_Run_Add ⟨l⟩ t v = some (if hasAt l t then (false, ⟨l⟩) else (true, ⟨put l ⟨t, v⟩⟩)) := by
  unfold ref07_Run_Add
  rw [rget_eq hn hok, Option.bind_some, getS_has hl]
  cases hh : hasAt l t with
  | true => simp
  | false =>
    rw [if_neg (by decide), if_neg (by decide), apd_of (by simp; omega), Option.bind_some, List.nil_append, fuel_nat]
    have := radd_l0 (v := v) hl hh hn (l.length + 1) 0 (Nat.zero_le _) (by omega)
    rw [List.take_zero] at this
    exact this
theorem rrange_l0 {l : List Sm} {a b : Int} (hn : l.length < 1000000) : ∀ (fuel i : Nat), i ≤ l.length → l.length < i + fuel →
    ref07_Run_Range.l0 ⟨l⟩ a b fuel (fr (l.take i) a b) (i : Int) = some (fr l a b, ⟨l⟩)
  | 0, i, _, h => by omega
  | fuel + 1, i, h1, h2 => by
    rw [ref07_Run_Range.l0]
    by_cases hi : i < l.length
    · obtain ⟨x, hx, ex⟩ := getE hi
      have hfl : (fr (l.take i) a b).length ≤ i := Nat.le_trans (List.length_filter_le _ _) (by rw [List.length_take]; omega)
      have e : fr (l.take (i + 1)) a b = fr (l.take i) a b ++ (if (decide (a ≤ x.Time) && decide (x.Time ≤ b)) = true then [x] else []) := by
        unfold fr
        rw [List.take_add_one, hx, List.filter_append]
        congr 1
        simp only [Option.toList_some, List.filter_cons, List.filter_nil]
      have ih := rrange_l0 (a := a) (b := b) hn fuel (i + 1) (by omega) (by omega)
      rw [if_pos (dlt hi), ix_of hx, Option.bind_some]
      simp only [ref07_Run_Range.j1, ref07_Run_Range.j2, w64_nat i (by omega), ix_of hx, Option.bind_some]
      by_cases c1 : x.Time ≥ a
      · rw [if_pos (by simpa using c1)]
        by_cases c2 : x.Time ≤ b
        · rw [if_pos (by simp only [Bool.and_eq_true, decide_eq_true_eq]; exact ⟨c1, c2⟩)] at e
          rw [if_pos (by simpa using c2), apd_of (by simp only [List.length_singleton]; omega), Option.bind_some, ← e]; exact ih
        · rw [if_neg (by simp [c2]), List.append_nil] at e
          rw [if_neg (by simpa using c2), ← e]; exact ih
      · rw [if_neg (by simp only [Bool.and_eq_true, decide_eq_true_eq]; omega), List.append_nil] at e
        rw [if_neg (by simpa using c1), if_neg (by decide), ← e]; exact ih
    · rw [if_neg (dnl (show l.length ≤ i by omega)), List.take_of_length_le (by omega)]
theorem rrange_eq {l : List Sm} {a b : Int} (hn : l.length < 1000000) : ref07_Run_Range ⟨l⟩ a b = some (fr l a b, ⟨l⟩) := by
  unfold ref07_Run_Range
  rw [fuel_nat]
  exact rrange_l0 hn (l.length + 1) 0 (Nat.zero_le _) (by omega)
theorem rclone_eq {l : List Sm} (hn : l.length < 1000000) : runs_Run_Clone ⟨l⟩ = some ⟨l⟩ := by
  unfold runs_Run_Clone slices_Clone_api_Sample_api_Sample
  rw [apd_of (by simp; omega)]; rfl
/-- What Add leaves. -/
def addS (l : List Sm) (s : Sm) : Bool × List Sm := if hasAt l s.Time then (false, l) else (true, put l s)
structure Run (l : List Sm) (n : Nat) : Prop where
  inc : Inc l
  len : l.length ≤ n
  ok : ∀ x ∈ l, okS x ∧ inR x
theorem Run.add {l : List Sm} {n : Nat} (h : Run l n) {s : Sm} (hs : okS s ∧ inR s) : Run (addS l s).2 (n + 1) := by
  unfold addS
  cases hh : hasAt l s.Time with
  | true => exact ⟨h.inc, by have := h.len; simp; omega, h.ok⟩
  | false =>
    have hp := put_perm l s
    refine ⟨put_inc h.inc hh, by have := hp.length_eq; have := h.len; simp at *; omega, fun x hx => ?_⟩
    have := hp.mem_iff.1 hx
    rcases List.mem_cons.1 this with rfl | hx
    · exact hs
    · exact h.ok x hx
theorem Run.okv {l : List Sm} {n : Nat} (h : Run l n) {t : Int} : (getS l t).1.length * 96 ≤ 140737488351232 := by
  unfold getS
  split
  · rename_i x hx; exact (h.ok x (List.mem_of_find?_eq_some hx)).1
  · decide
/-! the play -/
section
variable {a0 : List Sm} {a1 a2 : List Int}
theorem plays_j7 {kl1 : List Sm → List Sm → Int → Option Bool} {l : List Sm} {i : Nat} {b b' : Bool} {x : Bool} (h : Run l 1000) (hi : i < 150) (hx : x = true → i < a1.length ∧ i < a2.length) (hk : kl1 l l ((i + 1 : Nat) : Int) = some true) :
    law07_RunsPlays.j7 kl1 a0 a1 a2 (i : Int) (b, ⟨l⟩) (b', ⟨l⟩) x = some true := by
  have hlen := h.len
  have j8 : law07_RunsPlays.j8 kl1 a0 (i : Int) (b, ⟨l⟩) l = some true := by
    unfold law07_RunsPlays.j8
    rw [w64_nat i (by omega)]; exact hk
  unfold law07_RunsPlays.j7
  cases x with
  | false => rw [if_neg (by decide)]; exact j8
  | true =>
    obtain ⟨h1, h2⟩ := hx rfl
    obtain ⟨p, hp, _⟩ := getE h1
    obtain ⟨q, hq, _⟩ := getE h2
    have hfr : ∀ y ∈ fr l p q, okS y := fun y hy => (h.ok y (List.mem_filter.1 hy).1).1
    have hfl : (fr l p q).length < 1000000 := Nat.lt_of_le_of_lt (List.length_filter_le _ _) (by omega)
    rw [if_pos rfl, ix_of hp, Option.bind_some, ix_of hq, Option.bind_some, range_eq h.inc (by omega) (fun y hy => (h.ok y hy).1), Option.bind_some, Option.bind_some, Option.bind_some, rrange_eq (by omega), Option.bind_some, same_refl hfl hfr, Option.bind_some, if_neg (by decide)]
    have j10 : ∀ y : List Sm, law07_RunsPlays.j10 kl1 a0 (i : Int) (b, ⟨l⟩) (y, (⟨l⟩ : catchmentref07_Run)) = some true := fun y => by unfold law07_RunsPlays.j10; exact j8
    have j9f : law07_RunsPlays.j9 kl1 a0 (i : Int) (b, ⟨l⟩) (fr l p q) (fr l p q, (⟨l⟩ : catchmentref07_Run)) false = some true := by
      unfold law07_RunsPlays.j9
      rw [if_neg (by decide)]; exact j10 _
    by_cases hpos : ((fr l p q).length : Int) > 0
    · obtain ⟨y, hy, _⟩ := getE (l := fr l p q) (i := 0) (by omega)
      have iy : ix (fr l p q) 0 = some y := ix_of hy
      rw [if_pos (by simpa using hpos), iy, Option.bind_some]
      by_cases hv : (y.Vals.length : Int) > 0
      · have hd : decide ((y.Vals.length : Int) > 0) = true := decide_eq_true hv
        rw [hd]
        unfold law07_RunsPlays.j9
        obtain ⟨u, hu, _⟩ := getE (l := y.Vals) (i := 0) (by omega)
        have iu : ix y.Vals 0 = some u := ix_of hu
        rw [if_pos rfl, iy, Option.bind_some, iu, Option.bind_some]; exact j10 _
      · have hd : decide ((y.Vals.length : Int) > 0) = false := decide_eq_false hv
        rw [hd]; exact j9f
    · rw [if_neg (by simpa using hpos)]; exact j9f
theorem plays_l6 {kl1 : List Sm → List Sm → Int → Option Bool} {l : List Sm} {i : Nat} {b b' : Bool} {g : List api_Value × Bool} (h : Run l 1000) (hi : i < 150) (hk : kl1 l l ((i + 1 : Nat) : Int) = some true) : ∀ (fuel m : Nat) (vs : List api_Value), vs.length < 4611686018427387904 → m ≤ vs.length → vs.length < m + fuel →
    law07_RunsPlays.l6 kl1 a0 a1 a2 (i : Int) (b, ⟨l⟩) (b', ⟨l⟩) g fuel vs (m : Int) = some true
  | 0, m, vs, _, _, h => by omega
  | fuel + 1, m, vs, h0, h1, h2 => by
    rw [law07_RunsPlays.l6]
    by_cases hm : m < vs.length
    · obtain ⟨v, hv, _⟩ := getE hm
      rw [if_pos (dlt hm), ix_of hv, Option.bind_some, w64_nat m (by omega)]
      have hl : (upd vs (m : Int) (⟨9, 0, ⟨#[]⟩, ⟨0, 0, 0, 0, 0, 0, 0, 0⟩⟩ : api_Value)).length = vs.length := upd_length
      exact plays_l6 h hi hk fuel (m + 1) _ (by rw [hl]; exact h0) (by rw [hl]; omega) (by rw [hl]; omega)
    · rw [if_neg (dnl (by omega))]
      by_cases c1 : (i : Int) < (a1.length : Int)
      · rw [if_pos (by simpa using c1)]
        exact plays_j7 h hi (fun hx => by simp at hx; omega) hk
      · rw [if_neg (by simpa using c1)]
        exact plays_j7 h hi (fun hx => by cases hx) hk
theorem plays_l4 {kl1 : List Sm → List Sm → Int → Option Bool} {l : List Sm} {i : Nat} {b : Bool} {own : List api_Value} (h : Run l 1000) (hi : i < 150) (hia : i < a0.length) (hk : kl1 l l ((i + 1 : Nat) : Int) = some true) : ∀ (fuel m : Nat) (vs : List api_Value), vs.length < 4611686018427387904 → m ≤ vs.length → vs.length < m + fuel →
    law07_RunsPlays.l4 kl1 a0 a1 a2 (i : Int) own (b, ⟨l⟩) (b, ⟨l⟩) fuel vs (m : Int) = some true
  | 0, m, vs, _, _, h => by omega
  | fuel + 1, m, vs, h0, h1, h2 => by
    have hlen := h.len
    rw [law07_RunsPlays.l4]
    by_cases hm : m < vs.length
    · obtain ⟨v, hv, _⟩ := getE hm
      rw [if_pos (dlt hm), ix_of hv, Option.bind_some, w64_nat m (by omega)]
      have hl : (upd vs (m : Int) (⟨0, 0, ⟨#[]⟩, ⟨0, 0, 0, 0, 0, 0, 0, 0⟩⟩ : api_Value)).length = vs.length := upd_length
      exact plays_l4 h hi hia hk fuel (m + 1) _ (by rw [hl]; exact h0) (by rw [hl]; omega) (by rw [hl]; omega)
    · obtain ⟨s, hs, _⟩ := getE hia
      have hov := h.okv (t := s.Time)
      rw [if_neg (dnl (by omega)), ix_of hs, Option.bind_some, pget_eq h.inc (by omega) (fun y hy => (h.ok y hy).1), Option.bind_some, Option.bind_some, rget_eq (by omega) (fun y hy => (h.ok y hy).1), Option.bind_some, vals_refl hov, Option.bind_some, if_neg (by simp), if_neg (by decide), if_neg (by simp)]
      unfold runs_Run_Len
      rw [Option.bind_some]
      have hne : ((l.length : Int) != (l.length : Int)) = false := by simp
      rw [hne]
      unfold law07_RunsPlays.j5
      rw [if_neg (by decide), fuel_nat]
      exact plays_l6 h hi hk _ 0 _ (by omega) (Nat.zero_le _) (by omega)
theorem plays_j3 {kl1 : List Sm → List Sm → Int → Option Bool} {l : List Sm} {i : Nat} {s : Sm} (h : Run l i) (hi : i < 150) (hs : a0[i]? = some s) (hok : okS s ∧ inR s) (hk : kl1 (addS l s).2 (addS l s).2 ((i + 1 : Nat) : Int) = some true) :
    law07_RunsPlays.j3 kl1 a0 a1 a2 l (i : Int) s.Vals l = some true := by
  have hlen := h.len
  have hsv : s.Vals.length * 96 ≤ 140737488351232 := hok.1
  have ha := h.add hok
  have ha' : Run (addS l s).2 1000 := ⟨ha.inc, by have := ha.len; omega, ha.ok⟩
  unfold law07_RunsPlays.j3
  rw [ix_of hs, Option.bind_some, add_eq h.inc (by omega) hsv, Option.bind_some, Option.bind_some, Option.bind_some, raddP_eq h.inc (by omega) (fun y hy => (h.ok y hy).1) hsv, Option.bind_some, fuel_nat]
  have e1 : (if hasAt l s.Time then (false, (⟨l⟩ : runs_Run)) else (true, (⟨put l ⟨s.Time, s.Vals⟩⟩ : runs_Run))) = ((addS l s).1, (⟨(addS l s).2⟩ : runs_Run)) := by unfold addS; cases hasAt l s.Time <;> rfl
  have e2 : (if hasAt l s.Time then (false, (⟨l⟩ : catchmentref07_Run)) else (true, (⟨put l ⟨s.Time, s.Vals⟩⟩ : catchmentref07_Run))) = ((addS l s).1, (⟨(addS l s).2⟩ : catchmentref07_Run)) := by unfold addS; cases hasAt l s.Time <;> rfl
  rw [e1, e2]
  exact plays_l4 ha' hi (List.getElem?_eq_some_iff.1 hs).1 hk _ 0 _ (by omega) (Nat.zero_le _) (by omega)
theorem plays_end {kl1 : List Sm → List Sm → Int → Option Bool} {l : List Sm} {i : Nat} (h : Run l i) (hi : i ≤ 150) : law07_RunsPlays.j2 kl1 a0 a1 a2 l l (i : Int) false = some true := by
  have hlen := h.len
  unfold law07_RunsPlays.j2
  rw [if_neg (by decide)]
  have hsp : ∃ p q, runs_Run_Span ⟨l⟩ = some (if l.length = 0 then (0, 0, false) else (p, q, true)) ∧ (0 < l.length → (∃ x, l[0]? = some x ∧ p = x.Time) ∧ ∃ y, l[l.length - 1]? = some y ∧ q = y.Time) := by
    unfold runs_Run_Span
    by_cases h0 : l.length = 0
    · exact ⟨0, 0, by rw [if_pos (by simp [h0]), if_pos h0], fun hp => by omega⟩
    · obtain ⟨x, hx, _⟩ := getE (l := l) (i := 0) (by omega)
      obtain ⟨y, hy, _⟩ := getE (l := l) (i := l.length - 1) (by omega)
      have e : (l.length : Int) - 1 = ((l.length - 1 : Nat) : Int) := by omega
      have ix0 : ix l 0 = some x := ix_of hx
      refine ⟨x.Time, y.Time, ?_, fun _ => ⟨⟨x, hx, rfl⟩, ⟨y, hy, rfl⟩⟩⟩
      have hz : ¬ ((l.length : Int) == 0) = true := by simp only [beq_iff_eq]; omega
      rw [if_neg hz, if_neg h0, ix0, Option.bind_some, w64 (x := (l.length : Int) - 1) (by omega) (by omega), e, ix_of hy, Option.bind_some]
  obtain ⟨p, q, e1, e2⟩ := hsp
  have hsame := same_refl (l := l) (by omega) (fun y hy => (h.ok y hy).1)
  rw [e1, Option.bind_some, range_eq h.inc (by omega) (fun y hy => (h.ok y hy).1), Option.bind_some, fr_all (fun y hy => (h.ok y hy).2), hsame, Option.bind_some]
  by_cases h0 : l.length = 0
  · rw [if_pos (by simp [h0]), if_pos h0]
    simp [law07_RunsPlays.j11]
  · obtain ⟨⟨x, hx, ex⟩, y, hy, ey⟩ := e2 (by omega)
    have e : (l.length : Int) - 1 = ((l.length - 1 : Nat) : Int) := by omega
    have ix0 : ix l 0 = some x := ix_of hx
    have hz : ¬ ((l.length : Int) == 0) = true := by simp only [beq_iff_eq]; omega
    rw [if_neg hz, if_neg h0, if_pos rfl, ix0, Option.bind_some, if_pos (by simp [ex]), w64 (by omega) (by omega), e, ix_of hy, Option.bind_some, if_pos (by simp [ey])]
theorem plays_l1 (hn : a0.length < 4611686018427387904) (ha : ∀ x ∈ a0, okS x ∧ inR x) : ∀ (fuel i : Nat) (l : List Sm), Run l i → i ≤ 150 → i ≤ a0.length → a0.length < i + fuel →
    law07_RunsPlays.l1 a0 a1 a2 fuel l l (i : Int) = some true
  | 0, i, l, _, _, _, h => by omega
  | fuel + 1, i, l, h, h150, h1, h2 => by
    have hlen := h.len
    rw [law07_RunsPlays.l1]
    by_cases hi : i < a0.length
    · rw [if_pos (dlt hi)]
      by_cases hl : i < 150
      · obtain ⟨s, hs, _⟩ := getE hi
        have hok := ha s (List.mem_of_getElem? hs)
        have hsv : s.Vals.length * 96 ≤ 140737488351232 := hok.1
        have hd : decide ((i : Int) < 150) = true := by simp; omega
        rw [hd]
        unfold law07_RunsPlays.j2
        have hk := plays_l1 hn ha fuel (i + 1) (addS l s).2 (h.add hok) (by omega) (by omega) (by omega)
        have hj3 := plays_j3 (a1 := a1) (a2 := a2) (kl1 := law07_RunsPlays.l1 a0 a1 a2 fuel) h hl hs hok hk
        rw [if_pos rfl, ix_of hs, Option.bind_some, apd_of (by simp; omega), Option.bind_some, List.nil_append]
        by_cases h6 : ((i : Int).tmod 6) = 5
        · have nilok : ([] : List api_Value).length * 96 ≤ 140737488351232 := by decide
          have hr1 : Run (addS l ⟨s.Time, []⟩).2 (i + 1) := h.add ⟨nilok, hok.2⟩
          have hl1 := hr1.len
          have e1 : (if hasAt l s.Time then (false, (⟨l⟩ : runs_Run)) else (true, (⟨put l ⟨s.Time, []⟩⟩ : runs_Run))) = ((addS l ⟨s.Time, []⟩).1, (⟨(addS l ⟨s.Time, []⟩).2⟩ : runs_Run)) := by unfold addS; cases hasAt l s.Time <;> rfl
          rw [if_pos (by simpa using h6), rclone_eq (by omega), Option.bind_some, Option.bind_some, add_eq h.inc (by omega) nilok, Option.bind_some, e1]
          rw [add_eq hr1.inc (by omega) nilok, Option.bind_some]
          exact hj3
        · rw [if_neg (by simpa using h6)]
          exact hj3
      · have hd : decide ((i : Int) < 150) = false := by simp; omega
        rw [hd]
        exact plays_end h h150
    · rw [if_neg (dnl (by omega))]
      exact plays_end h h150
end
theorem RunsPlays_pure (l : List api_Sample) (ol : l.length * 32 ≤ 140737488351232 ∧ ∀ x ∈ l, ok_api_Sample x) (from_ : List Int) (of_ : from_.length * 8 ≤ 140737488351232 ∧ ∀ x ∈ from_, (Lit.int .i64 x).wf = true) (to : List Int) (ot : to.length * 8 ≤ 140737488351232 ∧ ∀ x ∈ to, (Lit.int .i64 x).wf = true) : law07_RunsPlays l from_ to = some true := by
  unfold law07_RunsPlays runs_New
  rw [shown_ok, Option.bind_some, Option.bind_some, if_neg (by decide)]
  unfold law07_RunsPlays.j0
  rw [if_neg (by decide), fuel_nat]
  exact plays_l1 (by omega) (fun x hx => sm_ok (ol.2 x hx)) _ 0 [] ⟨List.Pairwise.nil, Nat.le_refl _, fun x hx => by cases hx⟩ (by omega) (Nat.zero_le _) (by omega)
end Go.Proofs.Ytafkcbacdfiniaa.M
