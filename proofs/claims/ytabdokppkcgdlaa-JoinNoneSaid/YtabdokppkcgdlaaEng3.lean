/-
  The engine, part 3: data in memory (Ty, SlR, Reps), slices that are read, rows that grow.
-/
import Derived.Test.YtabdokppkcgdlaaEng2
namespace Go.Eng
open Go.RowKit
set_option linter.unusedVariables false
set_option linter.unusedSimpArgs false

/-- How data lie in cells: n cells a datum. -/
structure Ty (α : Type) where
  n : Nat
  rep : Hp → List Value → α → Prop
  mono : ∀ {R R' : Hp} {cs : List Value} {x : α}, R.le R' → rep R cs x → rep R' cs x
  len : ∀ {R : Hp} {cs : List Value} {x : α}, rep R cs x → cs.length = n
  one : ∀ {R : Hp} {cs : List Value} {x : α}, rep R cs x → ∀ u ∈ cs, u.oneCell' = true

/-- Data without memory of their own. -/
def Ty.flat {α : Type} (n : Nat) (enc : α → List Value) (h : ∀ x, (enc x).length = n) (h1 : ∀ x, ∀ u ∈ enc x, u.oneCell' = true) : Ty α where
  n := n
  rep := fun _ cs x => cs = enc x
  mono := fun _ h => h
  len := fun h' => by subst h'; exact h _
  one := fun h' => by subst h'; exact h1 _
def tyInt (k : IntKind) : Ty Int := Ty.flat 1 (fun x => [.int k x]) (fun _ => rfl) (fun _ => all_cons rfl all_nil)
def tyBool : Ty Bool := Ty.flat 1 (fun x => [.bool x]) (fun _ => rfl) (fun _ => all_cons rfl all_nil)
def tyStr : Ty ByteArray := Ty.flat 1 (fun x => [.string x]) (fun _ => rfl) (fun _ => all_cons rfl all_nil)

/-- A slice that is read. -/
def SlR {α : Type} (ty : Ty α) (R : Hp) (v : Value) (xs : List α) : Prop :=
  ∃ ad cap, v = .slice ad xs.length cap ∧ xs.length ≤ cap ∧ (xs ≠ [] → ∃ b o, ad = some ⟨b, o, none⟩ ∧ ∀ i x, xs[i]? = some x → ∃ cs, ty.rep R cs x ∧ ∀ j u, cs[j]? = some u → R.cell b (o + i * ty.n + j) = some u)
theorem SlR.mono {α : Type} {ty : Ty α} {R R' : Hp} {v : Value} {xs : List α} (h : SlR ty R v xs) (hR : R.le R') : SlR ty R' v xs := by
  obtain ⟨ad, cap, h1, h2, h3⟩ := h
  refine ⟨ad, cap, h1, h2, fun hne => ?_⟩
  obtain ⟨b, o, h4, h5⟩ := h3 hne
  refine ⟨b, o, h4, fun i x hx => ?_⟩
  obtain ⟨cs, h6, h7⟩ := h5 i x hx
  exact ⟨cs, ty.mono hR h6, fun j u hu => Hp.cell_le hR (h7 j u hu)⟩
theorem SlR.one {α : Type} {ty : Ty α} {R : Hp} {v : Value} {xs : List α} (h : SlR ty R v xs) : v.oneCell' = true := by
  obtain ⟨ad, cap, h1, _⟩ := h; subst h1; rfl
def tySl {α : Type} (ty : Ty α) : Ty (List α) where
  n := 1
  rep := fun R cs xs => ∃ v, cs = [v] ∧ SlR ty R v xs
  mono := fun hR ⟨v, h, h'⟩ => ⟨v, h, h'.mono hR⟩
  len := fun ⟨v, h, _⟩ => by subst h; rfl
  one := fun ⟨v, h, h'⟩ => by subst h; exact all_cons h'.one all_nil
theorem SlR.nil {α : Type} (ty : Ty α) (R : Hp) : SlR ty R (.slice none 0 0) ([] : List α) := ⟨none, 0, rfl, Nat.le_refl _, fun h => absurd rfl h⟩

/-- An element at a Go index. -/
def ix {α : Type} (xs : List α) (i : Int) : Option α := if 0 ≤ i then xs[i.toNat]? else none
theorem ix_some {α : Type} {xs : List α} {i : Int} {x : α} (h : ix xs i = some x) : 0 ≤ i ∧ i < (xs.length : Int) ∧ xs[i.toNat]? = some x := by
  unfold ix at h
  split at h
  · rename_i h0
    have := (List.getElem?_eq_some_iff.1 h).1
    exact ⟨h0, by omega, h⟩
  · cases h
theorem ix_nat {α : Type} (xs : List α) (i : Nat) : ix xs (i : Int) = xs[i]? := by simp [ix]
theorem SlR.ix {α : Type} {ty : Ty α} {R : Hp} {v : Value} {xs : List α} (h : SlR ty R v xs) {i : Int} {x : α} (hx : Eng.ix xs i = some x) :
    ∃ b o c cs, v = .slice (some ⟨b, o, none⟩) xs.length c ∧ ty.rep R cs x ∧ (∀ j u, cs[j]? = some u → R.cell b (o + i.toNat * ty.n + j) = some u) ∧ 0 ≤ i ∧ i < (xs.length : Int) := by
  obtain ⟨h0, h1, h2⟩ := ix_some hx
  obtain ⟨ad, cap, e, _, h3⟩ := h
  have hne : xs ≠ [] := by intro e; subst e; simp at h2
  obtain ⟨b, o, h4, h5⟩ := h3 hne
  obtain ⟨cs, h6, h7⟩ := h5 _ _ h2
  exact ⟨b, o, cap, cs, by rw [e, h4], h6, h7, h0, h1⟩
/-- A byte of a string. -/
def ixs (s : ByteArray) (i : Int) : Option Int := if 0 ≤ i then (if i < (s.size : Int) then some ((s.data.toList.getD i.toNat 0).toNat : Int) else none) else none
theorem ixs_some {s : ByteArray} {i : Int} {x : Int} (h : ixs s i = some x) : 0 ≤ i ∧ i < (s.size : Int) ∧ x = ((s.data.toList.getD i.toNat 0).toNat : Int) := by
  unfold ixs at h
  split at h
  · split at h
    · exact ⟨by assumption, by assumption, (Option.some.inj h).symm⟩
    · cases h
  · cases h

/-- Cells that are data, one behind the other. -/
def Reps {α : Type} (ty : Ty α) (R : Hp) (cs : List Value) (xs : List α) : Prop :=
  ∃ css : List (List Value), cs = css.flatten ∧ css.length = xs.length ∧ ∀ (i : Nat) c x, css[i]? = some c → xs[i]? = some x → ty.rep R c x
section
variable {α : Type} {ty : Ty α} {R R' : Hp}
theorem Reps.nil (ty : Ty α) (R : Hp) : Reps ty R [] [] := ⟨[], rfl, rfl, fun i c x h => by simp at h⟩
theorem Reps.mono {cs : List Value} {xs : List α} (h : Reps ty R cs xs) (hR : R.le R') : Reps ty R' cs xs := by
  obtain ⟨css, h1, h2, h3⟩ := h
  exact ⟨css, h1, h2, fun i c x hc hx => ty.mono hR (h3 i c x hc hx)⟩
theorem Reps.append {cs ds : List Value} {xs ys : List α} (h : Reps ty R cs xs) (h' : Reps ty R ds ys) : Reps ty R (cs ++ ds) (xs ++ ys) := by
  obtain ⟨css, h1, h2, h3⟩ := h
  obtain ⟨dss, k1, k2, k3⟩ := h'
  refine ⟨css ++ dss, by rw [h1, k1, List.flatten_append], by simp [h2, k2], fun i c x hc hx => ?_⟩
  rw [List.getElem?_append] at hc hx
  by_cases hi : i < css.length
  · rw [if_pos hi] at hc; rw [if_pos (by omega)] at hx; exact h3 i c x hc hx
  · rw [if_neg hi] at hc; rw [if_neg (by omega)] at hx; rw [h2] at hc; exact k3 _ c x hc hx
theorem Reps.one_ {c : List Value} {x : α} (h : ty.rep R c x) : Reps ty R c [x] :=
  ⟨[c], by simp, rfl, fun i c' x' hc hx => by
    cases i with
    | zero => simp at hc hx; subst hc; subst hx; exact h
    | succ i => simp at hc⟩
theorem Reps.cons {c ds : List Value} {x : α} {xs : List α} (h : ty.rep R c x) (h' : Reps ty R ds xs) : Reps ty R (c ++ ds) (x :: xs) := (Reps.one_ h).append h'
theorem flatten_len {css : List (List Value)} {n : Nat} (h : ∀ c ∈ css, c.length = n) : css.flatten.length = css.length * n := by
  induction css with
  | nil => simp
  | cons c r ih =>
    simp only [List.flatten_cons, List.length_append, List.length_cons, h c (by simp), ih (fun d hd => h d (by simp [hd]))]
    rw [Nat.add_mul, Nat.one_mul, Nat.add_comm]
theorem Reps.all {cs : List Value} {xs : List α} (h : Reps ty R cs xs) : ∃ css : List (List Value), cs = css.flatten ∧ css.length = xs.length ∧ (∀ c ∈ css, c.length = ty.n ∧ ∀ u ∈ c, u.oneCell' = true) ∧ ∀ (i : Nat) c x, css[i]? = some c → xs[i]? = some x → ty.rep R c x := by
  obtain ⟨css, h1, h2, h3⟩ := h
  refine ⟨css, h1, h2, fun c hc => ?_, h3⟩
  obtain ⟨i, hi, e⟩ := List.getElem_of_mem hc
  have hx : xs[i]? = some (xs[i]'(by omega)) := List.getElem?_eq_getElem (by omega)
  have := h3 i c _ (by rw [List.getElem?_eq_getElem hi, e]) hx
  exact ⟨ty.len this, ty.one this⟩
theorem Reps.length {cs : List Value} {xs : List α} (h : Reps ty R cs xs) : cs.length = xs.length * ty.n := by
  obtain ⟨css, h1, h2, h3, _⟩ := h.all
  rw [h1, flatten_len (fun c hc => (h3 c hc).1), h2]
theorem Reps.one {cs : List Value} {xs : List α} (h : Reps ty R cs xs) : ∀ u ∈ cs, u.oneCell' = true := by
  obtain ⟨css, h1, h2, h3, _⟩ := h.all
  intro u hu
  rw [h1] at hu
  obtain ⟨c, hc, huc⟩ := List.mem_flatten.1 hu
  exact (h3 c hc).2 u huc
theorem flatten_get {css : List (List Value)} {n : Nat} (h : ∀ c ∈ css, c.length = n) {i j : Nat} {c : List Value} {u : Value} (hc : css[i]? = some c) (hu : c[j]? = some u) : css.flatten[i * n + j]? = some u := by
  induction css generalizing i with
  | nil => simp at hc
  | cons d r ih =>
    have hd : d.length = n := h d (by simp)
    rw [List.flatten_cons]
    cases i with
    | zero =>
      simp at hc; subst hc
      have := (List.getElem?_eq_some_iff.1 hu).1
      rw [Nat.zero_mul, Nat.zero_add, List.getElem?_append_left this]; exact hu
    | succ i =>
      simp only [List.getElem?_cons_succ] at hc
      rw [List.getElem?_append_right (by rw [hd, Nat.add_mul]; omega)]
      have e : (i + 1) * n + j - d.length = i * n + j := by rw [hd, Nat.add_mul]; omega
      rw [e]
      exact ih (fun c hc => h c (by simp [hc])) hc
/-- Element i of cells that are data. -/
theorem Reps.get {cs : List Value} {xs : List α} (h : Reps ty R cs xs) {i : Nat} {x : α} (hx : xs[i]? = some x) : ∃ c, ty.rep R c x ∧ ∀ j u, c[j]? = some u → cs[i * ty.n + j]? = some u := by
  obtain ⟨css, h1, h2, h3, h4⟩ := h.all
  have hi := (List.getElem?_eq_some_iff.1 hx).1
  have hc : css[i]? = some (css[i]'(by omega)) := List.getElem?_eq_getElem (by omega)
  exact ⟨_, h4 i _ x hc hx, fun j u hu => by rw [h1]; exact flatten_get (fun c hc => (h3 c hc).1) hc hu⟩

/-- The cells of a slice that is read. -/
theorem SlR.cells {v : Value} {xs : List α} (h : SlR ty R v xs) : ∃ ad cap cs, v = .slice ad xs.length cap ∧ xs.length ≤ cap ∧ Reps ty R cs xs ∧ (xs ≠ [] → ∃ b o, ad = some ⟨b, o, none⟩ ∧ ∀ j u, cs[j]? = some u → R.cell b (o + j) = some u) := by
  obtain ⟨ad, cap, h1, h2, h3⟩ := h
  by_cases hne : xs = []
  · subst hne
    exact ⟨ad, cap, [], h1, h2, Reps.nil _ _, fun h => absurd rfl h⟩
  obtain ⟨b, o, h4, h5⟩ := h3 hne
  refine ⟨ad, cap, ?_⟩
  have key : ∀ (ys : List α) (k : Nat), (∀ i x, ys[i]? = some x → ∃ cs, ty.rep R cs x ∧ ∀ j u, cs[j]? = some u → R.cell b (k + i * ty.n + j) = some u) → ∃ cs, Reps ty R cs ys ∧ ∀ j u, cs[j]? = some u → R.cell b (k + j) = some u := by
    intro ys
    induction ys with
    | nil => intro k _; exact ⟨[], Reps.nil _ _, fun j u hu => by simp at hu⟩
    | cons y r ih =>
      intro k hk
      obtain ⟨c, hc1, hc2⟩ := hk 0 y rfl
      obtain ⟨ds, hd1, hd2⟩ := ih (k + ty.n) (fun i x hx => by
        obtain ⟨c', h1, h2⟩ := hk (i + 1) x (by simpa using hx)
        refine ⟨c', h1, fun j u hu => ?_⟩
        have := h2 j u hu
        rwa [show k + (i + 1) * ty.n + j = k + ty.n + i * ty.n + j from by rw [Nat.add_mul]; omega] at this)
      have hl := ty.len hc1
      refine ⟨c ++ ds, Reps.cons hc1 hd1, fun j u hu => ?_⟩
      by_cases hj : j < c.length
      · rw [List.getElem?_append_left hj] at hu
        have := hc2 j u hu
        simpa using this
      · rw [List.getElem?_append_right (by omega)] at hu
        have := hd2 _ u hu
        rwa [hl, show k + ty.n + (j - ty.n) = k + j from by omega] at this
  obtain ⟨cs, hcs1, hcs2⟩ := key xs o (fun i x hx => h5 i x hx)
  exact ⟨cs, h1, h2, hcs1, fun _ => ⟨b, o, h4, hcs2⟩⟩
theorem SlR.of_cells {v : Value} {xs : List α} {cs : List Value} {b o cap : Nat} (hv : v = .slice (some ⟨b, o, none⟩) xs.length cap) (hc : xs.length ≤ cap) (h : Reps ty R cs xs) (hcell : ∀ j u, cs[j]? = some u → R.cell b (o + j) = some u) : SlR ty R v xs :=
  ⟨_, cap, hv, hc, fun _ => ⟨b, o, rfl, fun i x hx => by
    obtain ⟨c, h1, h2⟩ := h.get hx
    exact ⟨c, h1, fun j u hu => by rw [Nat.add_assoc]; exact hcell _ u (h2 j u hu)⟩⟩⟩
end

section
variable {α : Type} {ty : Ty α}
variable {P : Program} {ops : Array Oper} {Q : Exit → Act → World → Prop} {C : World → Prop} {QQ : Act → Prop} {a : Act} {w0 w : World} {M : List Own} {R : Hp} {O : List Own} {rest : List Oper} {n : Fr} {L : Sl}
variable {d : Option Tmp} {ty' : TypeId} {pos : String} {af : Array Edge} {g : Option (Nat × Bool)}

theorem r_len_R {x : Operand} {t e : TypeId} {v : Value} {xs : List α} (hu : P.underlying t = some (.slice e)) (hs : SlR ty R v xs) (hK : Kn n a L) (hx : ev L x = some v) : Runs P w a ⟨d, .call { callee := .builtin .len, args := #[x], argTypes := #[t] }, ty', pos, af, g⟩ (.int .i64 (xs.length : Int)) := by
  obtain ⟨ad, cap, h1, _⟩ := hs
  exact r_len_sl hu hK (by rw [hx, h1])
theorem r_indexAddr_R {t e : TypeId} {x y : Operand} {b o m c z : Nat} {k : IntKind} {i : Int} {v : Value} (hu : P.underlying t = some (.slice e)) (hz : ∀ w, (sizeOf e).run P w = .ok z w) (hv : v = .slice (some ⟨b, o, none⟩) m c) (h0 : 0 ≤ i) (h1 : i < (m : Int)) (hK : Kn n a L) (hx : ev L x = some v) (hy : ev L y = some (.int k i)) :
    Runs P w a ⟨d, .indexAddr t x y, ty', pos, af, g⟩ (.pointer (some ⟨b, o + i.toNat * z, none⟩)) := r_indexAddr_sl hu hz hK (by rw [hx, hv]) hy h0 h1

/-! slicing -/
def cut {β : Type} (xs : List β) (l h : Int) : Option (List β) := if 0 ≤ l then (if l ≤ h then (if h ≤ (xs.length : Int) then some ((xs.drop l.toNat).take (h.toNat - l.toNat)) else none) else none) else none
theorem cut_some {β : Type} {xs ys : List β} {l h : Int} (hc : cut xs l h = some ys) : 0 ≤ l ∧ l ≤ h ∧ h ≤ (xs.length : Int) ∧ ys = (xs.drop l.toNat).take (h.toNat - l.toNat) := by
  unfold cut at hc
  split at hc
  · split at hc
    · split at hc
      · exact ⟨by assumption, by assumption, by assumption, (Option.some.inj hc).symm⟩
      · cases hc
    · cases hc
  · cases hc
theorem run_bound {y : Nat} {i : Int} {k : IntKind} {code : BoundsCode} (h0 : 0 ≤ i) (h1 : i ≤ (y : Int)) : (Instr.sliceBound (.int k i) y code).run P w = .ok i.toNat w := by
  simp [Instr.sliceBound, asIntOf, h0, h1]
theorem SlR.slice {xs ys : List α} {ad : Option Addr} {cap l h : Nat} (hs : SlR ty R (.slice ad xs.length cap) xs) (hl : l ≤ h) (hh : h ≤ xs.length) (hy : ys = (xs.drop l).take (h - l)) :
    SlR ty R (.slice (if cap = l then ad else ad.map (·.add (l * ty.n))) (h - l) (cap - l)) ys := by
  obtain ⟨ad', cap', e, hc, h3⟩ := hs
  cases e
  have hlen : ys.length = h - l := by subst hy; simp; omega
  refine ⟨_, cap - l, by rw [hlen], by omega, fun hne => ?_⟩
  have hlt : l < h := by
    have : 0 < ys.length := List.length_pos_iff.2 hne
    omega
  obtain ⟨b, o, h4, h5⟩ := h3 (by intro e; subst e; simp at hh; omega)
  refine ⟨b, o + l * ty.n, by rw [if_neg (by omega), h4]; simp [add_lit], fun i x hx => ?_⟩
  have hx' : xs[l + i]? = some x := by
    subst hy
    rw [List.getElem?_take] at hx
    split at hx
    · simpa using hx
    · cases hx
  obtain ⟨cs, h6, h7⟩ := h5 _ x hx'
  refine ⟨cs, h6, fun j u hu => ?_⟩
  have := h7 j u hu
  rwa [show o + (l + i) * ty.n + j = o + l * ty.n + i * ty.n + j from by rw [Nat.add_mul]; omega] at this
/-- s[l:h], s[l:], s[:h], s[:]: the bounds as they are told. -/
theorem r_slice_R {t e : TypeId} {x : Operand} {lo hi : Option Operand} {v : Value} {xs ys : List α} {l h : Int} (hu : P.underlying t = some (.slice e)) (hz : ∀ w, (sizeOf e).run P w = .ok ty.n w) (hs : SlR ty R v xs) (hc : cut xs l h = some ys) (hK : Kn n a L) (hx : ev L x = some v)
    (hl : match lo with | some y => ∃ k, ev L y = some (.int k l) | none => l = 0) (hh : match hi with | some y => ∃ k, ev L y = some (.int k h) | none => h = (xs.length : Int)) :
    ∃ v', SlR ty R v' ys ∧ ∀ (a : Act) (w : World) (d : Option Tmp) (ty' : TypeId) (pos : String) (af : Array Edge) (g : Option (Nat × Bool)), Kn n a L → Runs P w a ⟨d, .slice t x lo hi none, ty', pos, af, g⟩ v' := by
  obtain ⟨h0, h1, h2, hy⟩ := cut_some hc
  obtain ⟨ad, cap, e1, hcap, h3⟩ := hs
  have hs' : SlR ty R (.slice ad xs.length cap) xs := ⟨ad, cap, rfl, hcap, h3⟩
  subst e1
  refine ⟨_, hs'.slice (l := l.toNat) (h := h.toNat) (by omega) (by omega) hy, fun a w d ty' pos af g hK => ?_⟩
  have elo : ∀ w, (match lo.map a.eval with | some v => Instr.sliceBound v h.toNat (.sliceB) | none => pure 0 : Sem Nat).run P w = .ok l.toNat w := by
    intro w
    cases lo with
    | none => simp only at hl; subst hl; rfl
    | some y => obtain ⟨k, hk⟩ := hl; simp only [Option.map_some, hK.ev hk]; exact run_bound h0 (by omega)
  have ehi : ∀ w, (match hi.map a.eval with | some v => Instr.sliceBound v cap (.sliceAcap) | none => pure xs.length : Sem Nat).run P w = .ok h.toNat w := by
    intro w
    cases hi with
    | none => simp only at hh; subst hh; rfl
    | some y => obtain ⟨k, hk⟩ := hh; simp only [Option.map_some, hK.ev hk]; exact run_bound (by omega) (by omega)
  have hb : ∀ w, (Instr.sliceBounds true xs.length cap (lo.map a.eval) (hi.map a.eval) none).run P w = .ok (l.toNat, h.toNat, cap) w := by
    intro w
    unfold Instr.sliceBounds
    simp only [Sem.run_bind, Sem.run_pure, Result.andThen_ok]
    have ehi' := ehi w
    have elo' := elo w
    cases hi with
    | none =>
      cases lo with
      | none => simp at elo' ehi' ⊢; exact ⟨elo', ehi'⟩
      | some y => simp at elo' ehi' ⊢; simp [ehi', elo']
    | some z =>
      cases lo with
      | none => simp at elo' ehi' ⊢; simp [ehi', elo']
      | some y => simp at elo' ehi' ⊢; simp [ehi', elo']
  simp only [Runs, execOp, hK.ev hx, Instr.sliceAt, Instr.slice, Sem.run_bind, run_underlying hu, Result.andThen_ok, Option.map_none, hb, hz, Sem.run_pure]
end
end Go.Eng
