/-
  The engine, part 6 once more: what arguments of a small bulk read as; and the row's wrap for them.
-/
import Derived.Test.YtffleadhhhpnlaaDoorEngL
import Derived.HandedShaped
import Derived.Deep.CondSized
namespace Go.Eng
open Go.RowKit Go.ChangeShapes Go.WideShapes
set_option linter.unusedVariables false
set_option linter.unusedSimpArgs false
def kM : Nat := 1048576

/-- Whatever reads as a datum of type t lies as 'ty' says, and is 'ok'. -/
def OpnM {α : Type} (mu : ∀ {H : Type}, DataW H → Nat) (P : Program) (t : TypeId) (ty : Ty α) (ok : α → Prop) : Prop :=
  ∀ {H : Type} (enc : TypeId × Value → H) (w : World) (held : Bool) (fuel : Nat) (cs : List Value) (d : DataW H) (p : List MemPlace),
    DataW.trod enc P w 0 (fun _ => true) held fuel t cs = some (d, p) → mu d ≤ kM → ∃ x, ty.rep (hpOf w) cs x ∧ ok x
/-- A measure of what is read: a string's letters, a slice's places, and what lies in a part. -/
structure Mu (mu : ∀ {H : Type}, DataW H → Nat) : Prop where
  str : ∀ {H : Type} (b : List UInt8), b.length ≤ mu (.lit (.string b) : DataW H)
  sl : ∀ {H : Type} (el sp : List (DataW H)), el.length + sp.length ≤ mu (.slice el sp)
  el : ∀ {H : Type} (el sp : List (DataW H)) (d : DataW H), d ∈ el → mu d ≤ mu (.slice el sp)
  ag : ∀ {H : Type} (ps : List (DataW H)) (d : DataW H), d ∈ ps → mu d ≤ mu (.agg ps)
section
variable {mu : ∀ {H : Type}, DataW H → Nat} {P : Program} {t : TypeId}
theorem opm_int {k : IntKind} (hu : P.underlying t = some (.int k)) : OpnM @mu P t (tyInt k) (fun x => (Lit.int k x).wf = true) := by
  intro H enc w held fuel cs d p h _
  obtain ⟨n, h1, h2, h3⟩ := DataW.trod_int hu h
  exact ⟨n, h1, h3⟩
theorem opm_bool (hu : P.underlying t = some .bool) : OpnM @mu P t tyBool (fun _ => True) := by
  intro H enc w held fuel cs d p h _
  obtain ⟨b, h1, _⟩ := DataW.trod_bool hu h
  exact ⟨b, h1, trivial⟩
theorem opm_str (hmu : Mu @mu) (hu : P.underlying t = some .string) : OpnM @mu P t tyStr (fun s => s.size ≤ 1048576) := by
  intro H enc w held fuel cs d p h hw
  obtain ⟨s, h1, h2, _⟩ := DataW.trod_string hu h
  simp only [Prod.mk.injEq] at h2
  obtain ⟨rfl, _⟩ := h2
  refine ⟨s, h1, ?_⟩
  have := Nat.le_trans (hmu.str s.data.toList) hw
  rw [Array.length_toList] at this
  exact this
theorem opm_slice {α : Type} {e : TypeId} {ty : Ty α} {ok : α → Prop} (hmu : Mu @mu) (hu : P.underlying t = some (.slice e)) (hc : P.cellsOf e = ty.n) (hpos : 0 < ty.n) (he : OpnM @mu P e ty ok) :
    OpnM @mu P t (tySl ty) (fun xs => xs.length ≤ 1048576 ∧ ∀ x ∈ xs, ok x) := by
  intro H enc w held fuel cs d p h hw
  rcases Go.Deep.open_slice hu h with ⟨rfl, hx⟩ | ⟨a, len, cap, m, n, D, Pl, rfl, _, hl, _, hm, hx, hel⟩
  · exact ⟨[], ⟨_, rfl, SlR.nil _ _⟩, by simp, by simp⟩
  · simp only [if_true] at hm
    subst hm
    simp only [Prod.mk.injEq] at hx
    obtain ⟨rfl, _⟩ := hx
    have hmemw : ∀ i, i < len → mu (D i) ≤ kM := fun i hi => Nat.le_trans (hmu.el _ _ _ (List.mem_map.2 ⟨i, List.mem_range.2 hi, rfl⟩)) hw
    have hsz := Nat.le_trans (hmu.sl _ _) hw
    have hex : ∀ i, i < len → ∃ x, (∃ cs', w.cells? 0 (a.add (i * ty.n)) ty.n = some cs' ∧ ty.rep (hpOf w) cs' x) ∧ ok x := fun i hi => by
      obtain ⟨cs', h1, h2⟩ := hel i (by omega)
      rw [hc] at h1
      obtain ⟨x, h3, h4⟩ := he enc w held n cs' (D i) (Pl i) h2 (hmemw i hi)
      exact ⟨x, ⟨cs', h1, h3⟩, h4⟩
    have hlist : ∀ k, k ≤ len → ∃ xs : List α, xs.length = k ∧ ∀ i x, xs[i]? = some x → (∃ cs', w.cells? 0 (a.add (i * ty.n)) ty.n = some cs' ∧ ty.rep (hpOf w) cs' x) ∧ ok x := by
      intro k
      induction k with
      | zero => intro _; exact ⟨[], rfl, fun i x h => by simp at h⟩
      | succ k ih =>
        intro hk
        obtain ⟨xs, h1, h2⟩ := ih (by omega)
        obtain ⟨x, h3⟩ := hex k (by omega)
        refine ⟨xs ++ [x], by simp [h1], fun i y hy => ?_⟩
        rw [List.getElem?_append] at hy
        by_cases hi : i < xs.length
        · rw [if_pos hi] at hy; exact h2 i y hy
        · rw [if_neg hi] at hy
          have : i = k := by
            have := (List.getElem?_eq_some_iff.1 hy).1
            simp at this; omega
          subst this
          rw [h1, Nat.sub_self] at hy
          simp at hy; subst hy
          exact h3
    obtain ⟨xs, hxl, hxs⟩ := hlist len (Nat.le_refl _)
    refine ⟨xs, ⟨_, rfl, some a, m, by rw [hxl], by omega, fun hne => ?_⟩, ?_, fun x hx => ?_⟩
    · have h0 : xs[0]? = some (xs.head hne) := by cases xs with | nil => exact absurd rfl hne | cons x r => rfl
      obtain ⟨⟨cs', h1, h2⟩, _⟩ := hxs 0 _ h0
      obtain ⟨_, hlen, hget⟩ := World.cells?_some h1
      have hsp : a.spot = none := by
        have hl' := ty.len h2
        match cs', hl' with
        | [], hl' => simp at hl'; omega
        | c :: _, _ =>
          have := hget 0 hpos
          simp only [List.getElem?_cons_zero] at this
          simp only [Nat.zero_mul] at this
          have e0 : (a.add 0).add 0 = a := by simp [Addr.add]
          rw [e0] at this
          unfold World.cell? at this
          split at this
          · split at this
            · cases this
            · rename_i hs; simpa using hs
          · cases this
      obtain ⟨b, o, s⟩ := a
      simp only at hsp
      subst hsp
      refine ⟨b, o, rfl, fun i x hx => ?_⟩
      obtain ⟨⟨cs'', h3, h4⟩, _⟩ := hxs i x hx
      refine ⟨cs'', h4, fun j u hu => ?_⟩
      obtain ⟨_, _, hget'⟩ := World.cells?_some h3
      have hjl := (List.getElem?_eq_some_iff.1 hu).1
      rw [ty.len h4] at hjl
      have hcell := hget' j hjl
      rw [hu] at hcell
      rw [add_lit, add_lit] at hcell
      unfold World.cell? at hcell
      unfold Hp.cell hpOf
      split at hcell
      · rename_i hh; rw [hh]; simpa using hcell
      · cases hcell
    · rw [hxl]
      simp only [List.length_map, List.length_range] at hsz
      have : kM = 1048576 := rfl
      omega
    · obtain ⟨i, hi, e⟩ := List.getElem_of_mem hx
      exact (hxs i x (by rw [List.getElem?_eq_getElem hi, e])).2

/-- A struct's fields, one by one. -/
theorem struct_openM {H : Type} {enc : TypeId × Value → H} {w : World} {held : Bool} {fuel : Nat} {cs : List Value} {d : DataW H} {p : List MemPlace} {fs : Array Field} (hu : P.underlying t = some (.struct fs)) (h : DataW.trod enc P w 0 (fun _ => true) held fuel t cs = some (d, p)) (hmu : Mu @mu) (hw : mu d ≤ kM) :
    cs.length = P.cellsOf t ∧ ∃ m, ∀ (i : Nat) (f : Field), fs[i]? = some f → ∃ d' p', DataW.trod enc P w 0 (fun _ => true) held m f.type ((cs.drop f.offset).take (P.cellsOf f.type)) = some (d', p') ∧ mu d' ≤ kM := by
  cases fuel with
  | zero => simp [DataW.trod] at h
  | succ fuel =>
    rw [DataW.trod_step] at h
    unfold DataW.trodStep at h
    simp only [hu] at h
    split at h
    · rename_i hl
      refine ⟨hl, fuel, fun i f hf => ?_⟩
      rw [Option.map_eq_some_iff] at h
      obtain ⟨xs, hxs, he⟩ := h
      simp only [Prod.mk.injEq] at he
      obtain ⟨rfl, _⟩ := he
      have hm := hxs
      have key : ∀ (l : List Field) (ys : List (DataW H × List MemPlace)), l.mapM (fun f => DataW.trod enc P w 0 (fun _ => true) held fuel f.type ((cs.drop f.offset).take (P.cellsOf f.type))) = some ys → ∀ (i : Nat) (f : Field), l[i]? = some f → ∃ y, ys[i]? = some y ∧ DataW.trod enc P w 0 (fun _ => true) held fuel f.type ((cs.drop f.offset).take (P.cellsOf f.type)) = some y := by
        intro l
        induction l with
        | nil => intro ys _ i f hf; simp at hf
        | cons g l ih =>
          intro ys hys i f hf
          rw [List.mapM_cons] at hys
          simp only [Option.bind_eq_bind, Option.bind_eq_some_iff, Option.pure_def, Option.some.injEq] at hys
          obtain ⟨y, hy, zs, hzs, rfl⟩ := hys
          cases i with
          | zero => simp at hf; subst hf; exact ⟨y, rfl, hy⟩
          | succ i => simp only [List.getElem?_cons_succ] at hf ⊢; exact ih zs hzs i f hf
      obtain ⟨y, hy1, hy2⟩ := key fs.toList xs hm i f (by simpa using hf)
      exact ⟨y.1, y.2, hy2, Nat.le_trans (hmu.ag _ _ (List.mem_map.2 ⟨y, List.mem_of_getElem? hy1, rfl⟩)) hw⟩
    · cases h
theorem opm_Arr8 {e : TypeId} (hu : P.underlying t = some (.array 8 e)) (hce : P.cellsOf e = 1) (hct : P.cellsOf t = 8) (he : P.underlying e = some (.int .i64)) : OpnM @mu P t ty_Arr8 ok_Arr8 := by
  intro H enc w held fuel cs d p h hw
  obtain ⟨xs, h1, h2, h3⟩ := arr_open hu he hce hct h
  match xs, h1 with
  | [a0, a1, a2, a3, a4, a5, a6, a7], _ => exact ⟨⟨a0, a1, a2, a3, a4, a5, a6, a7⟩, h2, h3⟩
theorem opm_Arr2 {e : TypeId} (hu : P.underlying t = some (.array 2 e)) (hce : P.cellsOf e = 1) (hct : P.cellsOf t = 2) (he : P.underlying e = some (.int .i64)) : OpnM @mu P t ty_Arr2 ok_Arr2 := by
  intro H enc w held fuel cs d p h hw
  obtain ⟨xs, h1, h2, h3⟩ := arr_open hu he hce hct h
  match xs, h1 with
  | [a0, a1], _ => exact ⟨⟨a0, a1⟩, h2, h3⟩
theorem OpnM.field {α : Type} {H : Type} {enc : TypeId × Value → H} {w : World} {held : Bool} {cs : List Value} {fs : Array Field} {m : Nat} {ty : Ty α} {ok : α → Prop} {ft off k : Nat}
    (hall : ∀ (i : Nat) (f : Field), fs[i]? = some f → ∃ d' p', DataW.trod enc P w 0 (fun _ => true) held m f.type ((cs.drop f.offset).take (P.cellsOf f.type)) = some (d', p') ∧ mu d' ≤ kM)
    (i : Nat) (f : Field) (hf : fs[i]? = some f) (ht : f.type = ft) (ho : f.offset = off) (hc : P.cellsOf ft = k) (he : OpnM @mu P ft ty ok) : ∃ x, ty.rep (hpOf w) ((cs.drop off).take k) x ∧ ok x := by
  obtain ⟨d', p', h1, h2⟩ := hall i f hf
  subst ht; subst ho; subst hc
  exact he enc w held m _ d' p' h1 h2
/-- An argument. -/
theorem OpnM.arg {α : Type} {ty : Ty α} {ok : α → Prop} {H : Type} {enc : TypeId × Value → H} {w : World} {v : Value} {d : DataW H} {p : List MemPlace} (he : OpnM @mu P t ty ok) (h : DataW.Trod enc P w 0 (fun _ => true) true t v d p) (hw : mu d ≤ kM) :
    ∃ x, ty.rep (hpOf w) v.cells.toList x ∧ ok x := by
  obtain ⟨fuel, hf⟩ := h
  exact he enc w true fuel _ d p hf hw
end
/-- A small bulk, and the library's variables' shape. -/
theorem upto_all {H : Type} {enc : TypeId × Value → H} {a : Assume} {C : Checked} {os : Os} {f : FuncId} {fn : Func} {s : OpenSpec} {k : (H : Type) → List (DataW H) → Bool} (hk : s.cond = some k) {F : Stop.Interp} {conds : List PathCond} {apart fresh handsOn again : Bool}
    (own : ownKnob C.prog.godebug = none) (started : os.Started) (noInit : C.prog.inits.idxOf? f = none) (hfn : C.prog.funcs[f]? = some fn)
    (witness : ∃ (w : World) (tape : Tape) (i : Input), w.os = os ∧ (w.forCall tape i).Shaped C.prog ∧ i.vars = [] ∧ Input.okWide C.prog (w.forCall tape i) .any w.heap.size f i ∧
      s.pre6 enc C.prog fn conds apart (w.forCall tape i).memory i.args ∧ a.holds C.prog (lone (Frame.enter C.prog f i.args .normal) [] (w.forCall tape i)))
    (contract : ∀ (W : World) (base : Nat) (args : Array Value) (ds gs : List (DataW H)) (before : List MemPlace),
      (∀ (j : Nat) t v, fn.params[j]? = some t → args[j]? = some v → Value.okWide C.prog W .any base t v) →
      DataW.Whole enc C.prog fn.params.toList s.vars apart W args.toList ds gs before → k H (ds ++ gs) = true → W.ShapedOpen C.prog →
      Calls C.prog f args W fun e W' => ∃ v, e = .returned v ∧ (s.at F).post enc C.prog fn apart fresh handsOn again W args v W') :
    ReturnsInHanded a C os f .any (s.pre6 enc C.prog fn conds apart) ((s.at F).post enc C.prog fn apart fresh handsOn again) := by
  refine returnsInHanded_of_calls own started noInit witness ?_
  intro w tape i _ hsh _ hok hpre hholds
  obtain ⟨_, _, _, fn', hfn', _, _, _, _, hval⟩ := hok
  have e : fn' = fn := Option.some.inj (hfn'.symm.trans hfn)
  subst e
  obtain ⟨ds, gs, before, hw, hc, hkk⟩ := (OpenSpec.pre_some hk conds apart _ _).1 hpre.1
  have hw' := DataW.Whole.of_heap (w' := w.forCall tape i) (by rfl) hw
  refine (contract (w.forCall tape i) w.heap.size i.args ds gs before hval hw' hkk hsh).mono fun e W' ⟨v, he, hp⟩ => ?_
  subst he
  exact ChangeSpec.post_blind hp
end Go.Eng
