/-
  The engine, part 8: rows that the library sorts.
-/
import Derived.Test.YtabdokppkcgdlaaEng7
import Derived.Shelf.SlSortCmp.NoneTotal
namespace Go.Eng
open Go.RowKit Go.Sort Go.Shelf Go.Lib Go.Proofs
set_option linter.unusedVariables false
set_option linter.unusedSimpArgs false
section
variable {α : Type}
def ltc (c : α → α → Option Int) (x y : α) : Bool := match c x y with
  | some i => decide (i < 0)
  | none => false
/-- What slices.SortFunc asks of a comparison, at the elements that there are; and that it parts whatever two are not the same. -/
structure SortOk (c : α → α → Option Int) (xs : List α) : Prop where
  isSome : ∀ x ∈ xs, ∀ y ∈ xs, (c x y).isSome = true
  irrefl : ∀ x ∈ xs, ltc c x x = false
  trans : ∀ x ∈ xs, ∀ y ∈ xs, ∀ z ∈ xs, ltc c x y = true → ltc c y z = true → ltc c x z = true
  ntrans : ∀ x ∈ xs, ∀ y ∈ xs, ∀ z ∈ xs, ltc c x y = false → ltc c y z = false → ltc c x z = false
  anti : ∀ x ∈ xs, ∀ y ∈ xs, ltc c x y = false → ltc c y x = false → x = y
open Classical in
/-- What slices.SortFunc makes of a row, wherever the comparison is an order. -/
noncomputable def sortBy (c : α → α → Option Int) (xs : List α) : Option (List α) := if SortOk c xs ∧ xs.length < 4611686018427387904 then some (xs.mergeSort fun x y => !ltc c y x) else none
theorem sortBy_some {c : α → α → Option Int} {xs r : List α} (h : sortBy c xs = some r) : SortOk c xs ∧ xs.length < 4611686018427387904 ∧ r = xs.mergeSort fun x y => !ltc c y x := by
  unfold sortBy at h
  split at h
  · rename_i h0; exact ⟨h0.1, h0.2, (Option.some.inj h).symm⟩
  · cases h
theorem sortBy_of {c : α → α → Option Int} {xs : List α} (h : SortOk c xs) (hl : xs.length < 4611686018427387904) : sortBy c xs = some (xs.mergeSort fun x y => !ltc c y x) := by
  unfold sortBy; rw [if_pos ⟨h, hl⟩]
end
/-- What slices.Grow makes of nothing. -/
def grow0 {α : Type} (B : Nat) (xs : List α) (k : Int) : Option (List α) := if 0 ≤ k ∧ k.toNat * B ≤ 140737488355328 then some xs else none
theorem grow0_some {α : Type} {B : Nat} {xs ys : List α} {k : Int} (h : grow0 B xs k = some ys) : ∃ n : Nat, k = (n : Int) ∧ n * B ≤ 140737488355328 ∧ xs = ys := by
  unfold grow0 at h
  split at h
  · rename_i h0; exact ⟨k.toNat, by omega, h0.2, Option.some.inj h⟩
  · cases h
theorem World.eq_grow {W w' : World} (h : Bel [] W w') : ∃ q os', w' = grow (W.drewN q) os' := by
  refine ⟨w'.drawn - W.drawn, w'.heap.extract W.heap.size w'.heap.size, ?_⟩
  obtain ⟨h1, h2, h3, h4, h5, h6⟩ := h
  have h5 : W.drawn ≤ w'.drawn := h5
  have hh : w'.heap = W.heap ++ w'.heap.extract W.heap.size w'.heap.size := by
    apply Array.ext_getElem?
    intro k
    rw [Array.getElem?_append]
    split
    · rename_i hk; exact h6 k hk blks_nil
    · rename_i hk
      rw [Array.getElem?_extract]
      split
      · congr 1; omega
      · rw [Array.getElem?_eq_none (by omega)]
  have hd : w'.drawn = W.drawn + (w'.drawn - W.drawn) := by omega
  cases w' with
  | mk heap tape drawn os output =>
    simp only [grow, World.drewN] at *
    subst h1; subst h2; subst h3
    congr 1
section
variable {α : Type} {ty : Ty α} {P : Program} {ρ : Ren}
/-- Data of one cell each, as pairs. -/
theorem pairs_of {R : Hp} (h1 : ty.n = 1) (L : List α) : ∀ (cs : List Value) (xs : List α), Reps ty R cs xs → (∀ x ∈ xs, x ∈ L) → ∃ dl : List { p : Value × α // ty.rep R [p.1] p.2 ∧ p.2 ∈ L }, dl.map (·.1.1) = cs ∧ dl.map (·.1.2) = xs := by
  intro cs xs h hL
  obtain ⟨css, e, hl, hall, hrep⟩ := h.all
  subst e
  clear h
  induction css generalizing xs with
  | nil =>
    have : xs = [] := List.eq_nil_of_length_eq_zero (by simpa using hl.symm)
    subst this
    exact ⟨[], rfl, rfl⟩
  | cons c css ih =>
    cases xs with
    | nil => simp at hl
    | cons x xs =>
      obtain ⟨u, rfl⟩ : ∃ u, c = [u] := by
        have := (hall c (by simp)).1
        rw [h1] at this
        match c, this with
        | [u], _ => exact ⟨u, rfl⟩
      obtain ⟨dl, e1, e2⟩ := ih xs (fun x hx => hL x (by simp [hx])) (by simpa using hl) (fun c hc => hall c (by simp [hc])) (fun i c x hc hx => hrep (i + 1) c x (by simpa using hc) (by simpa using hx))
      exact ⟨⟨(u, x), hrep 0 [u] x rfl rfl, hL x (by simp)⟩ :: dl, by simp [e1], by simp [e2]⟩
theorem reps_pairs {R : Hp} (L : List α) (dl : List { p : Value × α // ty.rep R [p.1] p.2 ∧ p.2 ∈ L }) : Reps ty R (dl.map (·.1.1)) (dl.map (·.1.2)) := by
  induction dl with
  | nil => exact Reps.nil _ _
  | cons d r ih => exact Reps.cons d.2.1 ih

theorem sort_calls (L : SlLaysF.n6 P ρ) {c : α → α → Option Int} {g : Nat} {cb : Array Value} {w0 : World} {M : List Own} {R : Hp} {v : Value} {e : Nat} {cs : List Value} {xs r : List α} (h1 : ty.n = 1) (eg : ∀ args w, (callFunc g args).run P w = .ok (.enter g args) w)
    (hS0 : St M w0 w0 R [.row e 1 v xs.length cs]) (h0 : Reps ty R cs xs)
    (hc : ∀ w, (lentOf [.row e 1 v xs.length cs] w0).sub w → ∀ u1 u2 x y i, ty.rep (lentOf [.row e 1 v xs.length cs] w0) [u1] x → ty.rep (lentOf [.row e 1 v xs.length cs] w0) [u2] y → c x y = some i → CallsV P g (#[u1, u2] ++ cb) w (.int .i64 i))
    (H : sortBy c xs = some r) :
    Calls P (ρ.f 6) #[v, .func (.func g) #[] cb] w0 (Rets fun u w' => ∃ (R' : Hp) (cs' : List Value), u = .tuple #[] ∧ St M w0 w' R' [.row e 1 v r.length cs'] ∧ RLe M w0 R R' ∧ Reps ty R' cs' r ∧ cs'.Perm cs) := by
  obtain ⟨hok, hlen, hr⟩ := sortBy_some H
  have hown : w0.ownsRow 0 e 1 v xs.length cs := hS0.own (.row e 1 v xs.length cs) (List.mem_cons_self ..)
  rcases hown.2 with ⟨hv, hn⟩ | ⟨b, cap, cur, hv, hbg, hheap, hnc, hcm, hcz, htake⟩
  · have hx : xs = [] := List.eq_nil_of_length_eq_zero hn
    subst hx
    subst hr
    have hcs : cs = [] := List.eq_nil_of_length_eq_zero (by rw [hown.1]; simp)
    subst hcs; subst hv
    have h := AnyF.slices_SortFunc_none (P := P) (ρ := ρ) { L with } none 0 (.func (.func g) #[] cb) w0
    refine h.mono ?_
    rintro e' w' ⟨rfl, rfl⟩
    exact ⟨_, rfl, R, [], rfl, by simpa using hS0, RLe.refl _ _, by simpa using h0, List.Perm.refl _⟩
  · by_cases hx0 : xs = []
    · subst hx0
      subst hr
      have hcs : cs = [] := List.eq_nil_of_length_eq_zero (by rw [hown.1]; simp)
      subst hcs; subst hv
      have h := AnyF.slices_SortFunc_none (P := P) (ρ := ρ) { L with } (some ⟨b, 0, none⟩) cap (.func (.func g) #[] cb) w0
      refine h.mono ?_
      rintro e' w' ⟨rfl, rfl⟩
      exact ⟨_, rfl, R, [], rfl, by simpa using hS0, RLe.refl _ _, by simpa using h0, List.Perm.refl _⟩
    · obtain ⟨X, hX⟩ : ∃ X : List α, ∀ x, x ∈ X ↔ x ∈ xs := ⟨xs, fun _ => Iff.rfl⟩
      have hok : SortOk c X := ⟨fun x hx y hy => hok.isSome x ((hX x).1 hx) y ((hX y).1 hy), fun x hx => hok.irrefl x ((hX x).1 hx), fun x hx y hy z hz => hok.trans x ((hX x).1 hx) y ((hX y).1 hy) z ((hX z).1 hz), fun x hx y hy z hz => hok.ntrans x ((hX x).1 hx) y ((hX y).1 hy) z ((hX z).1 hz), fun x hx y hy => hok.anti x ((hX x).1 hx) y ((hX y).1 hy)⟩
      obtain ⟨dl, hd1, hd2⟩ := pairs_of h1 X cs xs h0 (fun x h => (hX x).2 h)
      have hne : dl ≠ [] := by rintro rfl; exact hx0 (by simpa using hd2.symm)
      let A := { p : Value × α // ty.rep R [p.1] p.2 ∧ p.2 ∈ X }
      letI : Inhabited A := ⟨dl.head hne⟩
      let enc : A → Value := fun p => p.1.1
      let cf : A → A → Int := fun p q => (c p.1.2 q.1.2).getD 0
      have hlt : ∀ p q : A, ltOf cf p q = ltc c p.1.2 q.1.2 := fun p q => by
        have := hok.isSome _ p.2.2 _ q.2.2
        unfold ltOf ltc
        show decide ((c p.1.2 q.1.2).getD 0 < 0) = _
        cases hcc : c p.1.2 q.1.2 with
        | none => rw [hcc] at this; cases this
        | some i => rfl
      have hO : SWO (ltOf cf) := ⟨fun p => by rw [hlt]; exact hok.irrefl _ p.2.2, fun p q s h1 h2 => by rw [hlt] at *; exact hok.trans _ p.2.2 _ q.2.2 _ s.2.2 h1 h2,
        fun p q s h1 h2 => by rw [hlt] at *; exact hok.ntrans _ p.2.2 _ q.2.2 _ s.2.2 h1 h2⟩
      have h1c : OneCell enc := fun p => ty.one p.2.1 p.1.1 (by simp)
      have hdl : dl.length = xs.length := by rw [← hd2, List.length_map]
      have hcsl : cs.length = xs.length := by rw [← hd1, List.length_map, hdl]
      have hblk : b < w0.heap.size := (Array.getElem?_eq_some_iff.1 hheap).1
      have hcurlen : xs.length ≤ cur.size := by rw [hcz]; omega
      have hH : Holds enc w0 b 0 dl.toArray := fun j hj => by
        have hj' : j < dl.length := by simpa using hj
        have hcell : cs[j]? = some (enc dl[j]) := by rw [← hd1, List.getElem?_map, List.getElem?_eq_getElem hj']; rfl
        refine ⟨?_, ?_⟩
        · rw [getElem!_pos dl.toArray j hj]
          subst hv
          have := hown.cells (g := b) rfl j _ hcell
          rwa [add_lit] at this
        · simp [World.frozen?, hheap]
      have hN : ∀ {k o}, lentOf [.row e 1 v xs.length cs] w0 k = some o → k ≠ b ∧ w0.heap[k]? = some o := fun {k o} hk => by
        have h2 := lentOf_sub _ _ k o hk
        refine ⟨?_, h2⟩
        rintro rfl
        rw [lentOf_not k ⟨_, List.mem_cons_self .., by rw [hv]; rfl⟩] at hk
        cases hk
      have hRle : R.le (lentOf [.row e 1 v xs.length cs] w0) := hS0.rLe (N := [.row e 1 v xs.length cs]) (O := [])
      have hheapW : ∀ (m : Nat) (os : Array Obj) (dk : Array A) (k : Nat), k < w0.heap.size → k ≠ b → (sortWorld enc w0 b 0 m dk os).heap[k]? = w0.heap[k]? := fun m os dk k hk hkb => by
        unfold sortWorld
        rw [heap_grow_old _ _ (by simpa using hk)]
        simp only [putRow, mapBlock, Array.getElem?_modify]
        rw [if_neg (Ne.symm hkb)]
        rfl
      have hcmp : CmpLays1 P g cb enc cf b 0 dl.toArray.size w0 := fun m os dk hs p q => by
        have hsub : (lentOf [.row e 1 v xs.length cs] w0).sub (sortWorld enc w0 b 0 m dk os) := fun k o hk => by
          obtain ⟨h2, h3⟩ := hN hk
          rw [hheapW m os dk k (Array.getElem?_eq_some_iff.1 h3).1 h2]
          exact h3
        have hi := hok.isSome _ p.2.2 _ q.2.2
        obtain ⟨i, hi⟩ := Option.isSome_iff_exists.1 hi
        have := hc _ hsub p.1.1 q.1.1 p.1.2 q.1.2 i (ty.mono hRle p.2.1) (ty.mono hRle q.2.1) hi
        refine this.mono fun e' w' ⟨he, hb⟩ => ⟨?_, World.eq_grow hb⟩
        rw [he]
        show _ = Ending.returned (.int .i64 ((c p.1.2 q.1.2).getD 0))
        rw [hi]; rfl
      have key := Any.slices_SortFunc L enc h1c cf hO g cb b 0 cap dl.toArray w0 eg hcmp hH hblk (by simpa [hdl] using hlen)
      have hsz : dl.toArray.size = xs.length := by simpa using hdl
      rw [hsz] at key
      subst hv
      refine key.mono ?_
      rintro e' w' ⟨rfl, d', n, os, hp, hs, rfl⟩
      -- the elements
      have hperm : (d'.toList.map (·.1.2)).Perm xs := by
        have h2 := hp.2.2
        have hs2 := hp.1
        rw [← hsz] at h2
        have e1 : d'.extract 0 dl.toArray.size = d' := by rw [← hs2]; exact Array.extract_size
        rw [e1, Array.extract_size] at h2
        have h3 := h2.map (fun p : A => p.1.2)
        rw [← hd2]
        exact h3
      have hpermC : (d'.toList.map (·.1.1)).Perm cs := by
        have h2 := hp.2.2
        have hs2 := hp.1
        rw [← hsz] at h2
        have e1 : d'.extract 0 dl.toArray.size = d' := by rw [← hs2]; exact Array.extract_size
        rw [e1, Array.extract_size] at h2
        have h3 := h2.map (fun p : A => p.1.1)
        rw [← hd1]
        exact h3
      have hd' : d'.toList.map (·.1.2) = r := by
        subst hr
        refine List.Perm.eq_of_pairwise (le := fun x y => (!ltc c y x) = true) ?_ ?_ ?_ (hperm.trans (List.mergeSort_perm _ _).symm)
        · intro x y hx hy h2 h3
          simp only [Bool.not_eq_true'] at h2 h3
          exact hok.anti x ((hX x).2 (hperm.mem_iff.1 hx)) y ((hX y).2 ((List.mergeSort_perm _ _).mem_iff.1 hy)) h3 h2
        · rw [List.pairwise_map, List.pairwise_iff_getElem]
          intro i j hi hj hij
          have hi' : i < d'.size := by simpa using hi
          have hj' : j < d'.size := by simpa using hj
          have := hs i j (Nat.zero_le _) hij (by rw [← hsz, ← hp.1]; exact hj')
          rw [getElem!_pos d' j hj', getElem!_pos d' i hi', hlt] at this
          simpa using this
        · have hkey : (xs.mergeSort fun x y => !ltc c y x) = (dl.mergeSort fun x y => !ltOf cf y x).map (·.1.2) := by
            rw [← hd2]
            exact (List.map_mergeSort (r := fun p q : A => !ltOf cf q p) (s := fun x y => !ltc c y x) (f := fun p : A => p.1.2) (l := dl) (fun p _ q _ => by rw [hlt])).symm
          rw [hkey, List.pairwise_map]
          refine (List.pairwise_mergeSort (le := fun x y : A => !ltOf cf y x) ?_ ?_ dl).imp ?_
          · intro x y z h2 h3
            simp only [Bool.not_eq_true'] at h2 h3 ⊢
            exact hO.ntrans z y x h3 h2
          · intro x y
            cases h : ltOf cf y x with
            | false => simp
            | true =>
              have : ltOf cf x y = false := by
                cases h4 : ltOf cf x y with
                | false => rfl
                | true => have := hO.trans y x y h h4; rw [hO.irrefl] at this; cases this
              simp [this]
          · intro p q h2
            rw [hlt] at h2; exact h2
      have hrl : r.length = xs.length := by rw [hr, List.length_mergeSort]
      have hdsz : d'.size = xs.length := by rw [hp.1]; exact hsz
      refine ⟨_, rfl, R, d'.toList.map (·.1.1), rfl, ?_, RLe.refl _ _, by rw [← hd']; exact reps_pairs X d'.toList, hpermC⟩
      rw [hrl]
      have hsize : w0.heap.size ≤ (sortWorld enc w0 b 0 n d' os).heap.size := by
        unfold sortWorld; rw [size_grow, Go.Sort.size_putRow]; show w0.heap.size ≤ w0.heap.size + _; omega
      refine hS0.turn rfl rfl rfl hsize (by show w0.drawn ≤ w0.drawn + n; omega) (fun k hk hkb => hheapW n os d' k hk (fun e => hkb (by subst e; rfl))) ?_ (fun b' hb' => Or.inl hb')
      refine ⟨by simp [hdsz], Or.inr ⟨b, cap, putCells enc 0 d' cur, rfl, Nat.zero_le _, ?_, hnc, hcm, by simp [putCells, hcz], ?_⟩⟩
      · unfold sortWorld
        rw [heap_grow_old _ _ (by simpa using hblk)]
        simp only [putRow, mapBlock, Array.getElem?_modify, if_true]
        show Option.map _ (w0.heap[b]?) = _
        rw [hheap]
        rfl
      · apply List.ext_getElem?
        intro k
        rw [List.getElem?_take, Nat.mul_one, List.getElem?_map]
        split
        · rename_i hk
          have hk1 : k < cur.size := by omega
          have hk2 : k < d'.size := by omega
          rw [Array.getElem?_toList, Array.getElem?_toList, putCells, Array.getElem?_mapIdx, Array.getElem?_eq_getElem hk1, Array.getElem?_eq_getElem hk2, Option.map_some, Option.map_some, if_pos ⟨Nat.zero_le _, by omega⟩, Nat.sub_zero, getElem!_pos d' k hk2]
        · rename_i hk
          have : d'.toList[k]? = none := by rw [List.getElem?_eq_none]; simpa [hdsz] using hk
          rw [this]; rfl
end
end Go.Eng
