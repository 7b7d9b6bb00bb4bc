/-
  The engine, part 6: from a law's contract to its row: what the arguments read as.
-/
import Derived.Test.YtabdokppkcgdlaaEngQ
import Derived.ProofKit
import Derived.OpenShut
import Derived.ShutString
import Derived.ChangeOld
import Derived.SizedLaws
import Derived.Deep.Slices
namespace Go.Eng
open Go.RowKit Go.ChangeShapes Go.WideShapes
set_option linter.unusedVariables false
set_option linter.unusedSimpArgs false

/-- Whatever reads as a datum of type t lies as 'ty' says, and is 'ok'. -/
def Opn {α : Type} (P : Program) (t : TypeId) (ty : Ty α) (ok : α → Prop) : Prop :=
  ∀ {H : Type} (enc : TypeId × Value → H) (w : World) (held : Bool) (fuel : Nat) (cs : List Value) (d : DataW H) (p : List MemPlace),
    DataW.trod enc P w 0 (fun _ => true) held fuel t cs = some (d, p) → (∀ n ∈ d.weights P t, n ≤ reachBytes) → ∃ x, ty.rep (hpOf w) cs x ∧ ok x
section
variable {P : Program} {t : TypeId}
theorem opn_int {k : IntKind} (hu : P.underlying t = some (.int k)) : Opn P t (tyInt k) (fun x => (Lit.int k x).wf = true) := by
  intro H enc w held fuel cs d p h _
  obtain ⟨n, h1, h2, h3⟩ := DataW.trod_int hu h
  exact ⟨n, h1, h3⟩
theorem opn_bool (hu : P.underlying t = some .bool) : Opn P t tyBool (fun _ => True) := by
  intro H enc w held fuel cs d p h _
  obtain ⟨b, h1, _⟩ := DataW.trod_bool hu h
  exact ⟨b, h1, trivial⟩
theorem opn_str (hu : P.underlying t = some .string) : Opn P t tyStr (fun s => s.size ≤ 140737488351232) := by
  intro H enc w held fuel cs d p h hw
  obtain ⟨s, h1, h2, _⟩ := DataW.trod_string hu h
  simp only [Prod.mk.injEq] at h2
  obtain ⟨rfl, _⟩ := h2
  refine ⟨s, h1, ?_⟩
  have := hw s.data.toList.length (by simp [DataW.weights])
  rw [Array.length_toList] at this
  exact this
theorem weightsAll_mem {H : Type} {e : TypeId} : ∀ {ds : List (DataW H)} {d : DataW H}, d ∈ ds → ∀ n ∈ d.weights P e, n ∈ DataW.weightsAll P e ds
  | d0 :: ds, d, hd, n, hn => by
    simp only [DataW.weightsAll, List.mem_append]
    cases hd with
    | head => exact Or.inl hn
    | tail _ hd => exact Or.inr (weightsAll_mem hd n hn)
theorem opn_slice {α : Type} {e : TypeId} {ty : Ty α} {ok : α → Prop} {B : Nat} (hu : P.underlying t = some (.slice e)) (hc : P.cellsOf e = ty.n) (hpos : 0 < ty.n) (hB : P.bytesOf e = B) (he : Opn P e ty ok) :
    Opn P t (tySl ty) (fun xs => xs.length * B ≤ 140737488351232 ∧ ∀ x ∈ xs, ok x) := by
  intro H enc w held fuel cs d p h hw
  rcases Go.Deep.open_slice hu h with ⟨rfl, hx⟩ | ⟨a, len, cap, m, n, D, Pl, rfl, _, hl, _, hm, hx, hel⟩
  · exact ⟨[], ⟨_, rfl, SlR.nil _ _⟩, by simp, by simp⟩
  · simp only [if_true] at hm
    subst hm
    simp only [Prod.mk.injEq] at hx
    obtain ⟨rfl, _⟩ := hx
    have hmemw : ∀ i, i < len → ∀ n ∈ (D i).weights P e, n ≤ reachBytes := fun i hi n hn => hw n (by
      simp only [DataW.weights, hu, List.mem_cons, List.mem_append]
      exact Or.inr (Or.inl (weightsAll_mem (List.mem_map.2 ⟨i, List.mem_range.2 hi, rfl⟩) n hn)))
    have hsz := hw ((len + (m - len)) * P.bytesOf e) (by simp [DataW.weights, hu])
    rw [hB] at hsz
    have hex : ∀ i, i < len → ∃ x, (∃ cs', w.cells? 0 (a.add (i * ty.n)) ty.n = some cs' ∧ ty.rep (hpOf w) cs' x) ∧ ok x := fun i hi => by
      obtain ⟨cs', h1, h2⟩ := hel i (by omega)
      rw [hc] at h1
      obtain ⟨x, h3, h4⟩ := he enc w held n cs' (D i) (Pl i) h2 (hmemw i hi)
      exact ⟨x, ⟨cs', h1, h3⟩, h4⟩
    have hlist : ∀ k, k ≤ len → ∃ xs : List α, xs.length = k ∧ ∀ i x, xs[i]? = some x → (∃ cs', w.cells? 0 (a.add (i * ty.n)) ty.n = some cs' ∧ ty.rep (hpOf w) cs' x) ∧ ok x := by
      intro k
      induction k with
      | zero => intro _; exact ⟨[], rfl, fun i x h => by simp at h⟩
      | succ k ih =>
        intro hk
        obtain ⟨xs, h1, h2⟩ := ih (by omega)
        obtain ⟨x, h3⟩ := hex k (by omega)
        refine ⟨xs ++ [x], by simp [h1], fun i y hy => ?_⟩
        rw [List.getElem?_append] at hy
        by_cases hi : i < xs.length
        · rw [if_pos hi] at hy; exact h2 i y hy
        · rw [if_neg hi] at hy
          have : i = k := by
            have := (List.getElem?_eq_some_iff.1 hy).1
            simp at this; omega
          subst this
          rw [h1, Nat.sub_self] at hy
          simp at hy; subst hy
          exact h3
    obtain ⟨xs, hxl, hxs⟩ := hlist len (Nat.le_refl _)
    refine ⟨xs, ⟨_, rfl, some a, m, by rw [hxl], by omega, fun hne => ?_⟩, ?_, fun x hx => ?_⟩
    · have h0 : xs[0]? = some (xs.head hne) := by cases xs with | nil => exact absurd rfl hne | cons x r => rfl
      obtain ⟨⟨cs', h1, h2⟩, _⟩ := hxs 0 _ h0
      obtain ⟨_, hlen, hget⟩ := World.cells?_some h1
      have hsp : a.spot = none := by
        have hl' := ty.len h2
        match cs', hl' with
        | [], hl' => simp at hl'; omega
        | c :: _, _ =>
          have := hget 0 hpos
          simp only [List.getElem?_cons_zero] at this
          simp only [Nat.zero_mul] at this
          have e0 : (a.add 0).add 0 = a := by simp [Addr.add]
          rw [e0] at this
          unfold World.cell? at this
          split at this
          · split at this
            · cases this
            · rename_i hs; simpa using hs
          · cases this
      obtain ⟨b, o, s⟩ := a
      simp only at hsp
      subst hsp
      refine ⟨b, o, rfl, fun i x hx => ?_⟩
      obtain ⟨⟨cs'', h3, h4⟩, _⟩ := hxs i x hx
      refine ⟨cs'', h4, fun j u hu => ?_⟩
      obtain ⟨_, _, hget'⟩ := World.cells?_some h3
      have hjl := (List.getElem?_eq_some_iff.1 hu).1
      rw [ty.len h4] at hjl
      have hcell := hget' j hjl
      rw [hu] at hcell
      rw [add_lit, add_lit] at hcell
      unfold World.cell? at hcell
      unfold Hp.cell hpOf
      split at hcell
      · rename_i hh; rw [hh]; simpa using hcell
      · cases hcell
    · have : len + (m - len) = m := by omega
      rw [this] at hsz
      rw [hxl]
      have : reachBytes = 140737488351232 := rfl
      rw [this] at hsz
      exact Nat.le_trans (Nat.mul_le_mul_right _ hl) hsz
    · obtain ⟨i, hi, e⟩ := List.getElem_of_mem hx
      exact (hxs i x (by rw [List.getElem?_eq_getElem hi, e])).2

/-- A struct's fields, one by one. -/
theorem struct_open {H : Type} {enc : TypeId × Value → H} {w : World} {held : Bool} {fuel : Nat} {cs : List Value} {d : DataW H} {p : List MemPlace} {fs : Array Field} (hu : P.underlying t = some (.struct fs)) (h : DataW.trod enc P w 0 (fun _ => true) held fuel t cs = some (d, p)) (hw : ∀ n ∈ d.weights P t, n ≤ reachBytes) :
    cs.length = P.cellsOf t ∧ ∃ m, ∀ (i : Nat) (f : Field), fs[i]? = some f → ∃ d' p', DataW.trod enc P w 0 (fun _ => true) held m f.type ((cs.drop f.offset).take (P.cellsOf f.type)) = some (d', p') ∧ ∀ n ∈ d'.weights P f.type, n ≤ reachBytes := by
  cases fuel with
  | zero => simp [DataW.trod] at h
  | succ fuel =>
    rw [DataW.trod_step] at h
    unfold DataW.trodStep at h
    simp only [hu] at h
    split at h
    · rename_i hl
      refine ⟨hl, fuel, fun i f hf => ?_⟩
      rw [Option.map_eq_some_iff] at h
      obtain ⟨xs, hxs, he⟩ := h
      simp only [Prod.mk.injEq] at he
      obtain ⟨rfl, _⟩ := he
      have hm := hxs
      have key : ∀ (l : List Field) (ys : List (DataW H × List MemPlace)), l.mapM (fun f => DataW.trod enc P w 0 (fun _ => true) held fuel f.type ((cs.drop f.offset).take (P.cellsOf f.type))) = some ys → ∀ (i : Nat) (f : Field), l[i]? = some f → ∃ y, ys[i]? = some y ∧ DataW.trod enc P w 0 (fun _ => true) held fuel f.type ((cs.drop f.offset).take (P.cellsOf f.type)) = some y := by
        intro l
        induction l with
        | nil => intro ys _ i f hf; simp at hf
        | cons g l ih =>
          intro ys hys i f hf
          rw [List.mapM_cons] at hys
          simp only [Option.bind_eq_bind, Option.bind_eq_some_iff, Option.pure_def, Option.some.injEq] at hys
          obtain ⟨y, hy, zs, hzs, rfl⟩ := hys
          cases i with
          | zero => simp at hf; subst hf; exact ⟨y, rfl, hy⟩
          | succ i => simp only [List.getElem?_cons_succ] at hf ⊢; exact ih zs hzs i f hf
      obtain ⟨y, hy1, hy2⟩ := key fs.toList xs hm i f (by simpa using hf)
      refine ⟨y.1, y.2, hy2, fun n hn => hw n ?_⟩
      simp only [DataW.weights, hu]
      exact DataW.weights_mem_each (j := i) (t := f.type) (d := y.1) (by simp [hf]) (by simp [hy1]) n hn
    · cases h
/-- Arrays of whole numbers. -/
def ok_Arr8 (h : Arr8) : Prop := ∀ x ∈ h.list, (Lit.int .i64 x).wf = true
def ok_Arr2 (h : Arr2) : Prop := ∀ x ∈ h.list, (Lit.int .i64 x).wf = true
theorem ints_of {k : IntKind} : ∀ (cs : List Value), (∀ i, i < cs.length → ∃ x, cs[i]? = some (Value.int k x) ∧ (Lit.int k x).wf = true) → ∃ xs : List Int, cs = xs.map (Value.int k ·) ∧ ∀ x ∈ xs, (Lit.int k x).wf = true
  | [], _ => ⟨[], rfl, fun _ h => by cases h⟩
  | c :: r, h => by
    obtain ⟨x, h1, h2⟩ := h 0 (by simp)
    obtain ⟨xs, h3, h4⟩ := ints_of r (fun i hi => by simpa using h (i + 1) (by simpa using hi))
    have h1' : c = Value.int k x := by simpa using h1
    exact ⟨x :: xs, by rw [h1', h3]; rfl, fun y hy => by
      cases hy with
      | head => exact h2
      | tail _ hy => exact h4 y hy⟩
theorem arr_open {H : Type} {enc : TypeId × Value → H} {w : World} {held : Bool} {fuel : Nat} {cs : List Value} {d : DataW H} {p : List MemPlace} {n : Nat} {e : TypeId} {k : IntKind} (hu : P.underlying t = some (.array n e)) (he : P.underlying e = some (.int k)) (hce : P.cellsOf e = 1) (hct : P.cellsOf t = n)
    (h : DataW.trod enc P w 0 (fun _ => true) held fuel t cs = some (d, p)) : ∃ xs : List Int, xs.length = n ∧ cs = xs.map (Value.int k ·) ∧ ∀ x ∈ xs, (Lit.int k x).wf = true := by
  cases fuel with
  | zero => simp [DataW.trod] at h
  | succ fuel =>
    rw [DataW.trod_step] at h
    unfold DataW.trodStep at h
    simp only [hu] at h
    split at h
    · rename_i hl
      rw [Option.map_eq_some_iff] at h
      obtain ⟨ys, hys, _⟩ := h
      have key : ∀ (l : List Nat) (ys : List (DataW H × List MemPlace)), l.mapM (fun i => DataW.trod enc P w 0 (fun _ => true) held fuel e ((cs.drop (i * P.cellsOf e)).take (P.cellsOf e))) = some ys → ∀ i ∈ l, ∃ y, DataW.trod enc P w 0 (fun _ => true) held fuel e ((cs.drop (i * P.cellsOf e)).take (P.cellsOf e)) = some y := by
        intro l
        induction l with
        | nil => intro ys _ i hi; cases hi
        | cons g l ih =>
          intro ys hys i hi
          rw [List.mapM_cons] at hys
          simp only [Option.bind_eq_bind, Option.bind_eq_some_iff, Option.pure_def, Option.some.injEq] at hys
          obtain ⟨y, hy, zs, hzs, rfl⟩ := hys
          cases hi with
          | head => exact ⟨y, hy⟩
          | tail _ hi => exact ih zs hzs i hi
      rw [hct] at hl
      obtain ⟨xs, h1, h2⟩ := ints_of (k := k) cs (fun i hi => by
        obtain ⟨y, hy⟩ := key _ ys hys i (List.mem_range.2 (by omega))
        obtain ⟨x, h3, _, h4⟩ := DataW.trod_int he (show DataW.trod enc P w 0 (fun _ => true) held fuel e _ = some (y.1, y.2) from hy)
        rw [hce, Nat.mul_one] at h3
        refine ⟨x, ?_, h4⟩
        have := congrArg (fun l : List Value => l[0]?) h3
        simpa using this)
      exact ⟨xs, by rw [h1, List.length_map] at hl; exact hl, h1, h2⟩
    · cases h
theorem opn_Arr8 {e : TypeId} (hu : P.underlying t = some (.array 8 e)) (hce : P.cellsOf e = 1) (hct : P.cellsOf t = 8) (he : P.underlying e = some (.int .i64)) : Opn P t ty_Arr8 ok_Arr8 := by
  intro H enc w held fuel cs d p h hw
  obtain ⟨xs, h1, h2, h3⟩ := arr_open hu he hce hct h
  match xs, h1 with
  | [a0, a1, a2, a3, a4, a5, a6, a7], _ => exact ⟨⟨a0, a1, a2, a3, a4, a5, a6, a7⟩, h2, h3⟩
theorem opn_Arr2 {e : TypeId} (hu : P.underlying t = some (.array 2 e)) (hce : P.cellsOf e = 1) (hct : P.cellsOf t = 2) (he : P.underlying e = some (.int .i64)) : Opn P t ty_Arr2 ok_Arr2 := by
  intro H enc w held fuel cs d p h hw
  obtain ⟨xs, h1, h2, h3⟩ := arr_open hu he hce hct h
  match xs, h1 with
  | [a0, a1], _ => exact ⟨⟨a0, a1⟩, h2, h3⟩
theorem Opn.field {α : Type} {H : Type} {enc : TypeId × Value → H} {w : World} {held : Bool} {cs : List Value} {fs : Array Field} {m : Nat} {ty : Ty α} {ok : α → Prop} {ft off k : Nat}
    (hall : ∀ (i : Nat) (f : Field), fs[i]? = some f → ∃ d' p', DataW.trod enc P w 0 (fun _ => true) held m f.type ((cs.drop f.offset).take (P.cellsOf f.type)) = some (d', p') ∧ ∀ n ∈ d'.weights P f.type, n ≤ reachBytes)
    (i : Nat) (f : Field) (hf : fs[i]? = some f) (ht : f.type = ft) (ho : f.offset = off) (hc : P.cellsOf ft = k) (he : Opn P ft ty ok) : ∃ x, ty.rep (hpOf w) ((cs.drop off).take k) x ∧ ok x := by
  obtain ⟨d', p', h1, h2⟩ := hall i f hf
  subst ht; subst ho; subst hc
  exact he enc w held m _ d' p' h1 h2
theorem hp_cell {w : World} {b i : Nat} {v : Value} (h : w.cell? ⟨b, i, none⟩ = some v) : (hpOf w).cell b i = some v := by
  unfold World.cell? at h
  unfold Hp.cell hpOf
  split at h
  · rename_i hh; rw [hh]; simpa using h
  · cases h
theorem arr_of {cs : Array Value} {l : List Value} (h : cs.toList = l) : cs = l.toArray := by subst h; simp
theorem okWide_agg {w : World} {r : Reach} {base : Nat} {v : Value} {d : TypeDesc} (ht : P.underlying t = some d) (hd : (match d with | .struct _ | .array _ _ => true | _ => false) = true) (h : Value.okWide P w r base t v) : ∃ cs, v = .agg cs := by
  simp only [Value.okWide, ht] at h
  cases d <;> simp at hd
  · obtain ⟨cs, h1, _⟩ := h; exact ⟨cs, h1⟩
  · obtain ⟨cs, h1, _⟩ := h; exact ⟨cs, h1⟩
theorem okWide_one {w : World} {r : Reach} {base : Nat} {v : Value} {d : TypeDesc} (ht : P.underlying t = some d) (hd : (match d with | .int _ | .bool | .string | .slice _ => true | _ => false) = true) (h : Value.okWide P w r base t v) : v.cells.toList = [v] := by
  simp only [Value.okWide, ht] at h
  cases d <;> simp at hd <;> cases v <;> simp_all [Cell.okWide, Cell.ok, Value.cells]
/-- An argument. -/
theorem Opn.arg {α : Type} {ty : Ty α} {ok : α → Prop} {H : Type} {enc : TypeId × Value → H} {w : World} {v : Value} {d : DataW H} {p : List MemPlace} (he : Opn P t ty ok) (h : DataW.Trod enc P w 0 (fun _ => true) true t v d p) {ts : List TypeId} {ds : List (DataW H)} (hsz : (DataW.weightsEach P ts ds).all (· ≤ reachBytes) = true) {j : Nat} (ht : ts[j]? = some t) (hd : ds[j]? = some d) :
    ∃ x, ty.rep (hpOf w) v.cells.toList x ∧ ok x := by
  obtain ⟨fuel, hf⟩ := h
  exact he enc w true fuel _ d p hf (fun n hn => by simpa using List.all_eq_true.1 hsz n (DataW.weights_mem_each ht hd n hn))
end
theorem Bel.of_grow (w : World) (k : Nat) (os : Array Obj) : Bel [] w (Sort.grow (w.drewN k) os) :=
  ⟨rfl, rfl, rfl, by show w.heap.size ≤ (w.heap ++ os).size; simp, .of (by show w.drawn ≤ w.drawn + k; omega), fun j hj _ => by show (w.heap ++ os)[j]? = w.heap[j]?; rw [Array.getElem?_append_left hj]⟩
theorem cell_lt {w : World} {a : Addr} {v : Value} (h : w.cell? a = some v) : a.block < w.heap.size := by
  rcases Nat.lt_or_ge a.block w.heap.size with h' | h'
  · exact h'
  · simp [World.cell?, Array.getElem?_eq_none h'] at h
end Go.Eng
