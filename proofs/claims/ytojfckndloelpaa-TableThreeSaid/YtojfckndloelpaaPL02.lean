/- The plain laws of layer 2 (tables). -/
import Derived.Test.YtojfckndloelpaaPure
import Derived.Test.YtojfckndloelpaaPLTp
import Derived.Test.YtojfckndloelpaaPLTr
namespace Go.Proofs.Ytojfckndloelpaa.M
open Go Go.Eng Go.Proofs Go.RowKit
set_option maxRecDepth 100000
set_option linter.unusedVariables false
set_option linter.unusedSimpArgs false

def szB (t : api_Table) : Bool := decide (t.Cols.length ≤ 1000) && t.Cols.all (fun c => decide (c.Name.size ≤ 1000)) && decide (t.Rows.length ≤ 1000) && t.Rows.all (fun r => decide (r.length ≤ 1000) && r.all (fun v => decide (v.S.size ≤ 1000)))
theorem szT_B {t : api_Table} (h : szB t = true) : szT t := by
  simp only [szB, Bool.and_eq_true, decide_eq_true_eq, List.all_eq_true] at h
  obtain ⟨⟨⟨h1, h2⟩, h3⟩, h4⟩ := h
  exact ⟨by omega, fun c hc => by have := h2 c hc; omega, by omega, fun r hr => by have := (h4 r hr).1; omega, fun r hr v hv => by have := (h4 r hr).2 v hv; omega⟩
def isortS (t : api_Table) : api_Table := ⟨t.Cols, isortC cmpR t.Rows⟩
theorem canonI (t : api_Table) : canonS t = isortS t := by unfold canonS isortS; rw [sortC_isort cmpR_cmp cmpR_zero]
def vS (b : UInt8) : api_Value := ⟨2, 0, ⟨#[b]⟩, H0⟩
def vN (n : Int) : api_Value := ⟨1, n, ⟨#[]⟩, H0⟩
def cK : api_Col := ⟨⟨#[107]⟩, 2⟩
def cN : api_Col := ⟨⟨#[110]⟩, 1⟩
def T1 : api_Table := ⟨[cK, cN], [[vS 98, vN 1], [vS 97, vN 2], [vS 97, vN 1]]⟩
def T2 : api_Table := ⟨[cK, cN], [[vS 97, vN 1], [vS 97, vN 2], [vS 98, vN 1]]⟩
theorem shown_ok : law02_shown = some true := by
  have e1 : law02_small (⟨#[98, 97, 97]⟩ : ByteArray) [1, 2, 1] = some T1 := by kernel_rfl
  have e2 : law02_small (⟨#[97, 97, 98]⟩ : ByteArray) [1, 2, 1] = some T2 := by kernel_rfl
  have s1 : szT T1 := szT_B (by decide +kernel)
  have c1 : canonS T1 = T2 := by rw [canonI]; decide +kernel
  have k1 : keepS T1 [(⟨#[110]⟩ : ByteArray)] = (⟨[cN], [[vN 1], [vN 1], [vN 2]]⟩, 0) := by
    have p : placesS T1.Cols [] [(⟨#[110]⟩ : ByteArray)] = some [1] := by decide +kernel
    have z : checkS T1 = 0 := by decide +kernel
    unfold keepS
    rw [if_neg (by rw [z]; decide), p]
    dsimp only
    rw [if_neg (by decide), canonI]
    decide +kernel
  have u1 : unionS T1 T1 = (isortS ⟨T1.Cols, T1.Rows ++ T1.Rows⟩, 0) := by
    have z : checkS T1 = 0 := by decide +kernel
    unfold unionS
    rw [if_neg (by rw [z]; decide), if_neg (by rw [z]; decide), if_neg (by simp), canonI]
  unfold law02_shown
  rw [e1, Option.bind_some, e2, Option.bind_some, canon_eq s1, Option.bind_some, keep_eq s1 (by decide), Option.bind_some, union_eq s1 s1 (by decide +kernel), Option.bind_some, same_eq s1.canon, Option.bind_some, c1, k1, u1]
  decide +kernel
def cutS (t : api_Table) : api_Table := ⟨t.Cols, t.Rows.take 200⟩
theorem cut_eq' (t : api_Table) : law02_cut t = some (cutS t) := by
  unfold law02_cut cutS
  by_cases h : t.Rows.length > 200
  · rw [if_pos (by simp; omega), cut_of (by omega) (by omega) (by omega)]; rfl
  · rw [if_neg (by simp; omega), List.take_of_length_le (by omega)]
theorem szT.cut {t : api_Table} (h : szT t) : szT (cutS t) := h.sub rfl (by simp [cutS]; omega) (fun r hr => List.mem_of_mem_take hr)
theorem cut_len (t : api_Table) : (cutS t).Rows.length ≤ 200 := by simp [cutS]; omega
theorem lent_l0 {t : api_Table} {cols : List api_Col} (hr : t.Rows.length * 24 ≤ 140737488355328) (hw : ∀ r ∈ t.Rows, r.length * 96 ≤ 140737488355328) : ∀ (fuel i : Nat), i ≤ t.Rows.length → t.Rows.length < i + fuel →
    law02_lent.l0 t cols fuel (t.Rows.take i) (i : Int) = some ⟨cols, t.Rows⟩
  | 0, i, _, h => by omega
  | fuel + 1, i, h1, h2 => by
    rw [law02_lent.l0]
    by_cases hi : i < t.Rows.length
    · obtain ⟨r, hx, ex⟩ := getE hi
      rw [if_pos (dlt hi), ix_of hx, Option.bind_some, apd_of (by simpa using hw r (List.mem_of_getElem? hx)), Option.bind_some, List.nil_append, apd_of (by simp only [List.length_take, List.length_singleton]; omega), Option.bind_some, w64_nat i (by omega)]
      have e : t.Rows.take i ++ [r] = t.Rows.take (i + 1) := by rw [List.take_add_one, hx]; rfl
      rw [e]
      exact lent_l0 hr hw fuel (i + 1) (by omega) (by omega)
    · rw [if_neg (dnl (by omega)), List.take_of_length_le (by omega)]
theorem lent_eq {t : api_Table} (h : szT t) : law02_lent t = some t := by
  unfold law02_lent
  have hc := h.c
  rw [apd_of (by simp; omega), Option.bind_some, fuel_nat, List.nil_append]
  exact lent_l0 (by have := h.r; omega) (fun r hr => by have := h.w r hr; omega) _ 0 (Nat.zero_le _) (by omega)
theorem TableChecks_pure (t : api_Table) (ot : ok_api_Table t) (name : ByteArray) (on : name.size ≤ 140737488351232) : law02_TableChecks t name = some true := by
  have h := (szT_of ot).cut
  unfold law02_TableChecks
  rw [shown_ok, Option.bind_some, cut_eq', Option.bind_some, if_pos rfl, check_eq h.cols h.rows, Option.bind_some, rcheck_eq h.cols h.rows, Option.bind_some, if_pos (by simp), name_eq (by omega), Option.bind_some, rname_eq (by omega), Option.bind_some, if_pos (by simp), find_eq h.cols.1, Option.bind_some, rfind_eq h.cols.1, Option.bind_some]
  simp
theorem TableCanon_pure (t : api_Table) (ot : ok_api_Table t) : law02_TableCanon t = some true := by
  have h := (szT_of ot).cut
  unfold law02_TableCanon
  rw [shown_ok, Option.bind_some, cut_eq', Option.bind_some, lent_eq h, Option.bind_some, canon_eq h, Option.bind_some, rcanon_eq h, Option.bind_some, rsame_eq h, Option.bind_some, rsame_eq h.canon, Option.bind_some, canon_eq h.canon, Option.bind_some, canonS_canonS, rsame_eq h.canon, Option.bind_some]
  simp
theorem order_l3 {t : api_Table} {xs : List (List api_Value)} (ht : szT t) (hl : t.Rows.length ≤ 200) (hp : xs.Perm t.Rows) : ∀ (fuel i : Nat), i ≤ t.Rows.length → i < fuel →
    law02_TableOrder.l3 true t xs fuel ((t.Rows.drop i).reverse) ((i : Int) - 1) = some true
  | 0, i, _, h => by omega
  | fuel + 1, i, h1, h2 => by
    rw [law02_TableOrder.l3]
    cases i with
    | zero =>
      have hx : szT ⟨t.Cols, xs⟩ := ht.sub rfl (Nat.le_of_eq hp.length_eq) (fun r hr => hp.mem_iff.1 hr)
      have hb : szT ⟨t.Cols, (t.Rows.drop 0).reverse⟩ := ht.sub rfl (by simp) (fun r hr => by simpa using hr)
      have e1 : canonS ⟨t.Cols, xs⟩ = canonS t := canonS_perm rfl hp
      have e2 : canonS ⟨t.Cols, (t.Rows.drop 0).reverse⟩ = canonS t := canonS_perm rfl (by simp [List.reverse_perm])
      rw [if_neg (by simp), canon_eq ht, Option.bind_some, if_pos rfl, canon_eq hx, Option.bind_some, e1, same_eq ht.canon, Option.bind_some, if_pos (by simp), canon_eq hb, Option.bind_some, e2, same_eq ht.canon, Option.bind_some, if_pos (by simp)]
      simp [canonS, sortC_len]
    | succ i =>
      obtain ⟨r, hx, ex⟩ := getE (l := t.Rows) (i := i) (by omega)
      have e : ((i + 1 : Nat) : Int) - 1 = (i : Int) := by omega
      rw [e, if_pos (by simp), ix_of hx, Option.bind_some, apd_of (by simp only [List.length_reverse, List.length_drop, List.length_singleton]; omega), Option.bind_some, w64 (by omega) (by omega)]
      have e2 : (t.Rows.drop (i + 1)).reverse ++ [r] = (t.Rows.drop i).reverse := by rw [ex]; simp
      rw [e2]
      exact order_l3 ht hl hp fuel i (by omega) (by omega)
theorem order_j1 {t : api_Table} (ht : szT t) (hl : t.Rows.length ≤ 200) {k : Int} (h0 : 0 ≤ k) (h1 : k ≤ (t.Rows.length : Int)) : law02_TableOrder.j1 true t k = some true := by
  unfold law02_TableOrder.j1 law02_TableOrder.j2
  rw [cut_of h0 h1 (Int.le_refl _), Option.bind_some, cut_of (by omega) h0 h1, Option.bind_some]
  simp only [Int.toNat_natCast, Int.toNat_zero, List.drop_zero, Nat.sub_zero]
  have eb : (t.Rows.drop k.toNat).take (t.Rows.length - k.toNat) = t.Rows.drop k.toNat := List.take_of_length_le (by simp)
  rw [eb, apd_of (by simp; omega), Option.bind_some, List.nil_append, apd_of (by simp; omega), Option.bind_some, w64 (by omega) (by omega)]
  have hp : (t.Rows.drop k.toNat ++ t.Rows.take k.toNat).Perm t.Rows := by
    have := List.perm_append_comm (l₁ := t.Rows.drop k.toNat) (l₂ := t.Rows.take k.toNat)
    rwa [List.take_append_drop] at this
  have := order_l3 ht hl hp ((((t.Rows.length : Int) - 1) - 0).toNat + 2) t.Rows.length (Nat.le_refl _) (by omega)
  rw [List.drop_of_length_le (Nat.le_refl _)] at this
  exact this
theorem tmod_range {x : Int} {n : Nat} (hx : 0 ≤ x) (hn : 0 < n) : 0 ≤ x.tmod (n : Int) ∧ x.tmod (n : Int) < (n : Int) :=
  ⟨Int.tmod_nonneg _ hx, Int.tmod_lt_of_pos _ (by omega)⟩
theorem order_j0 {t : api_Table} (ht : szT t) (hl : t.Rows.length ≤ 200) {x : Int} (h0 : 0 ≤ x) : law02_TableOrder.j0 true t x = some true := by
  unfold law02_TableOrder.j0
  by_cases hn : 0 < t.Rows.length
  · have := tmod_range h0 hn
    rw [if_pos (by simp only [decide_eq_true_eq]; omega), if_pos (by simp only [bne_iff_ne, ne_eq]; omega)]
    exact order_j1 ht hl this.1 (by omega)
  · rw [if_neg (by simp only [decide_eq_true_eq]; omega)]
    exact order_j1 ht hl (by omega) (by omega)
theorem TableOrder_pure (t : api_Table) (ot : ok_api_Table t) (at_ : Int) (oa : (Lit.int .i64 at_).wf = true) : law02_TableOrder t at_ = some true := by
  have h := (szT_of ot).cut
  have hr := i64_range oa
  unfold law02_TableOrder
  rw [shown_ok, Option.bind_some, cut_eq', Option.bind_some]
  by_cases ha : at_ < 0
  · rw [if_pos (by simpa using ha)]
    exact order_j0 h (cut_len t) (folded hr.1 ha)
  · rw [if_neg (by simpa using ha)]
    exact order_j0 h (cut_len t) (by omega)
theorem TableSame_pure (a : api_Table) (oa : ok_api_Table a) (b : api_Table) (ob : ok_api_Table b) : law02_TableSame a b = some true := by
  have h := (szT_of oa).cut
  have k := (szT_of ob).cut
  unfold law02_TableSame
  rw [shown_ok, Option.bind_some, cut_eq', Option.bind_some, cut_eq', Option.bind_some, if_pos rfl, same_eq h, Option.bind_some, rsame_eq h, Option.bind_some, if_pos (by simp), same_eq h, Option.bind_some, if_pos (by simp), Option.bind_some, same_eq k, Option.bind_some]
  congr 1
  by_cases e : cutS a = cutS b
  · simp [e]
  · have : cutS b ≠ cutS a := fun h => e h.symm
    simp [e, this]
theorem szT_none2 : szT none2 := szT_B (by decide +kernel)
theorem szT_union {a b : api_Table} (ha : szT a) (hb : szT b) (h : (a.Rows.length + b.Rows.length) * 24 ≤ 140737488351232) : szT (unionS a b).1 := by
  unfold unionS
  split
  · exact szT_none2
  · split
    · exact szT_none2
    · split
      · exact szT_none2
      · refine szT.canon ⟨ha.c, ha.n, by simpa using h, fun r hr => ?_, fun r hr v hv => ?_⟩
        · rcases List.mem_append.1 hr with hr | hr
          · exact ha.w r hr
          · exact hb.w r hr
        · rcases List.mem_append.1 hr with hr | hr
          · exact ha.s r hr v hv
          · exact hb.s r hr v hv
theorem union_zero {a b : api_Table} (h : (unionS a b).2 = 0) : checkS a = 0 ∧ checkS b = 0 ∧ a.Cols = b.Cols ∧ unionS a b = (canonS ⟨a.Cols, a.Rows ++ b.Rows⟩, 0) := by
  by_cases h1 : checkS a = 0
  · by_cases h2 : checkS b = 0
    · by_cases h3 : a.Cols = b.Cols
      · exact ⟨h1, h2, h3, by unfold unionS; rw [if_neg (by simp [h1]), if_neg (by simp [h2]), if_neg (by simp [h3])]⟩
      · unfold unionS at h; rw [if_neg (by simp [h1]), if_neg (by simp [h2]), if_pos h3] at h; simp at h
    · unfold unionS at h; rw [if_neg (by simp [h1]), if_pos h2] at h; exact absurd h h2
  · unfold unionS at h; rw [if_pos h1] at h; exact absurd h h1
theorem union_of {a b : api_Table} (h1 : checkS a = 0) (h2 : checkS b = 0) (h3 : a.Cols = b.Cols) : unionS a b = (canonS ⟨a.Cols, a.Rows ++ b.Rows⟩, 0) := by
  unfold unionS; rw [if_neg (by simp [h1]), if_neg (by simp [h2]), if_neg (by simp [h3])]
theorem union_comm {a b : api_Table} (h : (unionS a b).2 = 0) : unionS b a = unionS a b := by
  obtain ⟨h1, h2, h3, h4⟩ := union_zero h
  rw [h4, union_of h2 h1 h3.symm]
  congr 1
  exact canonS_perm h3.symm List.perm_append_comm
theorem TableUnions_pure (a : api_Table) (oa : ok_api_Table a) (b : api_Table) (ob : ok_api_Table b) : law02_TableUnions a b = some true := by
  have h := (szT_of oa).cut
  have k := (szT_of ob).cut
  have la := cut_len a
  have lb := cut_len b
  unfold law02_TableUnions
  have hu := szT_union h k (by omega)
  rw [shown_ok, Option.bind_some, cut_eq', Option.bind_some, cut_eq', Option.bind_some, union_eq h k (by omega), Option.bind_some, runion_eq h k (by omega), Option.bind_some, rsame_eq hu, Option.bind_some]
  by_cases h2 : (unionS (cutS a) (cutS b)).2 = 0
  · rw [if_pos (by simpa using h2), union_eq k h (by omega), Option.bind_some, union_comm h2, rsame_eq hu, Option.bind_some, if_neg (by simpa using h2)]
    simp [law02_TableUnions.j1, law02_TableUnions.j0]
  · rw [if_neg (by simpa using h2)]
    simp [law02_TableUnions.j0]
theorem szT_keep {t : api_Table} {names : List ByteArray} (h : szT t) (hn : names.length ≤ 1000) : szT (keepS t names).1 := by
  unfold keepS
  split
  · exact szT_none2
  · split
    · exact szT_none2
    · rename_i at_ hp
      split
      · exact szT_none2
      · have hl := places_len hp
        have la : ∀ {α : Type} (xs : List α), (pickS at_ xs).length ≤ 1000 := fun xs => Nat.le_trans (List.length_filterMap_le _ _) (by simp at hl; omega)
        have me : ∀ {α : Type} {xs : List α} {x : α}, x ∈ pickS at_ xs → x ∈ xs := fun hx => by
          obtain ⟨k, _, hk⟩ := List.mem_filterMap.1 hx
          exact List.mem_of_getElem? hk
        refine szT.canon ⟨?_, fun c hc => h.n c (me hc), ?_, fun r hr => ?_, fun r hr v hv => ?_⟩
        · have := la t.Cols; show (pickS at_ t.Cols).length * 24 ≤ _; omega
        · show (t.Rows.map _).length * 24 ≤ _; rw [List.length_map]; exact h.r
        · obtain ⟨q, _, rfl⟩ := List.mem_map.1 hr
          have := la q; omega
        · obtain ⟨q, hq, rfl⟩ := List.mem_map.1 hr
          exact h.s q hq v (me hv)
theorem keeps_j0 {t : api_Table} {names : List ByteArray} (h : szT t) (hn : names.length ≤ 1000) : law02_TableKeeps.j0 true t names = some true := by
  unfold law02_TableKeeps.j0
  rw [keep_eq h hn, Option.bind_some, rkeep_eq h hn, Option.bind_some, rsame_eq (szT_keep h hn), Option.bind_some]
  simp
theorem TableKeeps_pure (t : api_Table) (ot : ok_api_Table t) (names : List ByteArray) (on : names.length * 16 ≤ 140737488351232 ∧ ∀ x ∈ names, x.size ≤ 140737488351232) : law02_TableKeeps t names = some true := by
  have h := (szT_of ot).cut
  unfold law02_TableKeeps
  rw [shown_ok, Option.bind_some, cut_eq', Option.bind_some]
  by_cases hl : names.length > 40
  · rw [if_pos (by simp; omega), cut_of (by omega) (by omega) (by omega), Option.bind_some]
    exact keeps_j0 h (by simp; omega)
  · rw [if_neg (by simp; omega)]
    exact keeps_j0 h (by omega)
theorem allFrom_get {α : Type} {p : Nat → α → Bool} : ∀ {xs : List α} {i : Nat}, allFrom p i xs = true → ∀ (j : Nat) x, xs[j]? = some x → p (i + j) x = true
  | [], _, _, j, x, hx => by simp at hx
  | y :: r, i, h, j, x, hx => by
    simp only [allFrom, Bool.and_eq_true] at h
    cases j with
    | zero => simp at hx; subst hx; exact h.1
    | succ j =>
      have := allFrom_get h.2 j x (by simpa using hx)
      rwa [show i + (j + 1) = i + 1 + j by omega]
theorem cols_find {cols : List api_Col} (h : colsS cols = true) {i : Nat} {c : api_Col} (hc : cols[i]? = some c) : findS cols c.Name = (i : Int) := by
  unfold colsS at h
  rw [Bool.and_eq_true] at h
  have := allFrom_get h.1 i c hc
  unfold colOk at this
  simp only [Bool.and_eq_true, decide_eq_true_eq, Nat.zero_add] at this
  exact this.2
theorem cols_len {cols : List api_Col} (h : colsS cols = true) : 1 ≤ cols.length ∧ cols.length ≤ 16 := by
  unfold colsS at h
  rw [Bool.and_eq_true] at h
  simpa using h.2
def intsS (k m : Nat) : List Int := (List.range' k m).map fun (i : Nat) => (i : Int)
theorem intsS_succ (k m : Nat) : intsS k (m + 1) = intsS k m ++ [((k + m : Nat) : Int)] := by
  unfold intsS
  rw [List.range'_concat, List.map_append]; simp
theorem places_drop {cols : List api_Col} (h : colsS cols = true) {k : Nat} : ∀ (m j : Nat), j + m = cols.length → k ≤ j → placesS cols (intsS k (j - k)) ((cols.drop j).map (·.Name)) = some (intsS k (cols.length - k))
  | 0, j, h1, h2 => by
    rw [List.drop_of_length_le (by omega)]
    simp only [List.map_nil, placesS]
    rw [show j = cols.length by omega]
  | m + 1, j, h1, h2 => by
    obtain ⟨c, hc, ec⟩ := getE (l := cols) (i := j) (by omega)
    have hf := cols_find h hc
    rw [ec, List.map_cons, placesS, if_neg (by
      rw [hf]
      intro h3
      rcases h3 with h3 | h3
      · omega
      · unfold intsS at h3
        obtain ⟨q, hq, e⟩ := List.mem_map.1 h3
        have := List.mem_range'_1.1 hq
        omega), hf]
    have e : intsS k (j - k) ++ [(j : Int)] = intsS k (j + 1 - k) := by
      rw [show j + 1 - k = (j - k) + 1 by omega, intsS_succ, show k + (j - k) = j by omega]
    rw [e]
    exact places_drop h m (j + 1) (by omega) (by omega)
theorem pick_drop {α : Type} (xs : List α) : ∀ (m k : Nat), k + m = xs.length → pickS (intsS k m) xs = xs.drop k
  | 0, k, h => by rw [List.drop_of_length_le (by omega)]; rfl
  | m + 1, k, h => by
    obtain ⟨x, hx, ex⟩ := getE (l := xs) (i := k) (by omega)
    have : intsS k (m + 1) = (k : Int) :: intsS (k + 1) m := by unfold intsS; rw [List.range'_succ]; rfl
    rw [this, ex, ← pick_drop xs m (k + 1) (by omega)]
    simp [pickS, hx]
theorem keep_drop {t : api_Table} (h : checkS t = 0) {k : Nat} (hk : k < t.Cols.length) : keepS t ((t.Cols.drop k).map (·.Name)) = (canonS ⟨t.Cols.drop k, t.Rows.map (List.drop k)⟩, 0) := by
  obtain ⟨hc, hr⟩ := checkS_zero.1 h
  have hp := places_drop (k := k) hc (t.Cols.length - k) k (by omega) (Nat.le_refl _)
  rw [Nat.sub_self, show intsS k 0 = [] from rfl] at hp
  unfold keepS
  rw [if_neg (by simp [h]), hp]
  dsimp only
  have hne : (t.Cols.drop k).map (·.Name) ≠ [] := by
    intro e
    have := congrArg List.length e
    simp at this
    omega
  have er : t.Rows.map (pickS (intsS k (t.Cols.length - k))) = t.Rows.map (List.drop k) := List.map_congr_left fun r hm => by
    have := rowOk_len (hr r hm)
    exact pick_drop r _ k (by omega)
  rw [if_neg hne, pick_drop t.Cols _ k (by omega), er]
theorem keep_all {t : api_Table} (h : checkS t = 0) : keepS t (t.Cols.map (·.Name)) = (canonS t, 0) := by
  have hc := cols_len (checkS_zero.1 h).1
  have := keep_drop h (k := 0) (by omega)
  rw [List.drop_zero] at this
  have e : t.Rows.map (List.drop 0) = t.Rows := by rw [show (List.drop 0 : List api_Value → List api_Value) = id from rfl, List.map_id]
  rw [this, e]
theorem all_j1 {t : api_Table} (ht : szT t) (h : checkS t = 0) {x : Int} (hx : 0 ≤ x) : law02_TableAll.j1 true t (t.Cols.map (·.Name)) (canonS t, 0) true x = some true := by
  have hc := cols_len (checkS_zero.1 h).1
  unfold law02_TableAll.j1
  have hl : ((t.Cols.map (·.Name)).length : Int) = t.Cols.length := by rw [List.length_map]
  have hm := tmod_range hx (n := t.Cols.length) (by omega)
  rw [if_pos (by simp only [bne_iff_ne, ne_eq, hl]; omega), hl, cut_of hm.1 (by omega) (by omega), Option.bind_some]
  obtain ⟨k, hk⟩ : ∃ k : Nat, x.tmod (t.Cols.length : Int) = k := ⟨(x.tmod (t.Cols.length : Int)).toNat, by omega⟩
  rw [hk]
  have hkn : k < t.Cols.length := by omega
  have en : ((t.Cols.map (·.Name)).drop (k : Int).toNat).take ((t.Cols.length : Int).toNat - (k : Int).toNat) = (t.Cols.drop k).map (·.Name) := by
    rw [Int.toNat_natCast, Int.toNat_natCast, List.take_of_length_le (by simp), List.map_drop]
  have hn : ((t.Cols.drop k).map (·.Name)).length ≤ 1000 := by simp; omega
  have h' : checkS (canonS t) = 0 := by rw [checkS_canon]; exact h
  have e1 : keepS (canonS t) ((t.Cols.drop k).map (·.Name)) = keepS t ((t.Cols.drop k).map (·.Name)) := by
    rw [keep_drop h hkn, show t.Cols = (canonS t).Cols from rfl, keep_drop h' (k := k) hkn]
    congr 1
    exact canonS_perm rfl ((sortC_perm cmpR t.Rows).map _)
  rw [en, keep_eq ht.canon hn, Option.bind_some, keep_eq ht hn, Option.bind_some, e1, rsame_eq (szT_keep ht hn), Option.bind_some, keep_drop h hkn]
  simp [canonS, sortC_len]
theorem all_l0 {t : api_Table} {a : Int} (ht : szT t) (h : checkS t = 0) (ha : -9223372036854775808 ≤ a) : ∀ (fuel i : Nat), i ≤ t.Cols.length → t.Cols.length < i + fuel →
    law02_TableAll.l0 a true t fuel ((t.Cols.take i).map (·.Name)) (i : Int) = some true
  | 0, i, _, h => by omega
  | fuel + 1, i, h1, h2 => by
    have hc := cols_len (checkS_zero.1 h).1
    rw [law02_TableAll.l0]
    by_cases hi : i < t.Cols.length
    · obtain ⟨c, hx, ex⟩ := getE hi
      rw [if_pos (dlt hi), ix_of hx, Option.bind_some, apd_of (by simp only [List.length_map, List.length_take, List.length_singleton]; omega), Option.bind_some, w64_nat i (by omega)]
      have e : (t.Cols.take i).map (·.Name) ++ [c.Name] = (t.Cols.take (i + 1)).map (·.Name) := by rw [List.take_add_one, hx]; simp
      rw [e]
      exact all_l0 ht h ha fuel (i + 1) (by omega) (by omega)
    · have hn : (t.Cols.map (·.Name)).length ≤ 1000 := by simp; omega
      rw [if_neg (dnl (by omega)), List.take_of_length_le (by omega), keep_eq ht hn, Option.bind_some, keep_all h, rcanon_eq ht, Option.bind_some, rsame_eq ht.canon, Option.bind_some]
      simp only [decide_true]
      by_cases hneg : a < 0
      · rw [if_pos (by simpa using hneg)]; exact all_j1 ht h (folded ha hneg)
      · rw [if_neg (by simpa using hneg)]; exact all_j1 ht h (by omega)
theorem TableAll_pure (t : api_Table) (ot : ok_api_Table t) (n : Int) (on : (Lit.int .i64 n).wf = true) : law02_TableAll t n = some true := by
  have h := (szT_of ot).cut
  unfold law02_TableAll
  rw [shown_ok, Option.bind_some, cut_eq', Option.bind_some, rcheck_eq h.cols h.rows, Option.bind_some]
  by_cases hz : checkS (cutS t) = 0
  · rw [if_neg (by simpa using hz), fuel_nat]
    exact all_l0 h hz (i64_range on).1 _ 0 (Nat.zero_le _) (by omega)
  · rw [if_pos (by simpa using hz)]
end Go.Proofs.Ytojfckndloelpaa.M
