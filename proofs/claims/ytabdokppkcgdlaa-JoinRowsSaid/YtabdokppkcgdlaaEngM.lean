/-
  Maps whose keys and elements are single cells of plain data: what makes, reads, turns them; lending, cloning.
-/
import Derived.Test.YtabdokppkcgdlaaEngL
import Derived.MapKept
namespace Go.Eng
open Go.RowKit Go.MapKept
set_option linter.unusedVariables false
set_option linter.unusedSimpArgs false

/-! ### Plain -/
section
variable {κ ν : Type} [DecidableEq κ]
def mget : List (κ × ν) → κ → Option ν
  | [], _ => none
  | p :: r, x => if p.1 = x then some p.2 else mget r x
def mset : List (κ × ν) → κ → ν → List (κ × ν)
  | [], x, y => [(x, y)]
  | p :: r, x, y => if p.1 = x then (x, y) :: r else p :: mset r x y
theorem mget_mset (m : List (κ × ν)) (x z : κ) (y : ν) : mget (mset m x y) z = if x = z then some y else mget m z := by
  induction m with
  | nil => simp [mset, mget]
  | cons p r ih =>
    simp only [mset]
    by_cases h : p.1 = x
    · simp only [if_pos h, mget]
      by_cases hz : x = z
      · simp [hz]
      · simp only [if_neg hz]
        rw [if_neg (by rw [h]; exact hz)]
    · simp only [if_neg h, mget, ih]
      by_cases hp : p.1 = z
      · by_cases hz : x = z
        · exact absurd (hp.trans hz.symm) h
        · simp [hp, hz]
      · simp [hp]
end
def kvs {κ ν : Type} (fk : κ → Value) (fv : ν → Value) (m : List (κ × ν)) : List (Value × Value) := m.map fun p => (fk p.1, fv p.2)

/-- Keys of a kind. -/
structure KeyT {κ : Type} [DecidableEq κ] (d : TypeDesc) (fk : κ → Value) : Prop where
  isKey : ∀ x, IsKey d (fk x)
  same : ∀ x y, Instr.sameNow d (fk x) (fk y) = some (decide (x = y))
theorem key_str : KeyT .string Value.string := ⟨fun _ => trivial, fun x y => by
  simp only [Instr.sameNow]
  congr 1
  rw [Bool.eq_iff_iff, bytes_beq]
  simp⟩
theorem key_int (k : IntKind) : KeyT (.int k) (Value.int k) := ⟨fun _ => rfl, fun x y => by
  simp only [Instr.sameNow, if_true]
  congr 1⟩

section
variable {κ ν : Type} [DecidableEq κ] {kd : TypeDesc} {fk : κ → Value} {fv : ν → Value}
theorem find_kvs (hk : KeyT kd fk) (x : κ) : ∀ (l : List MapEntry) (m : List (κ × ν)) (i : Nat), l.map (fun e => (e.key, e.val)) = kvs fk fv m →
    (Instr.findNow kd (fk x) l i = some none ∧ mget m x = none ∧ ∀ y, mset m x y = m ++ [(x, y)]) ∨
    ∃ j y e, Instr.findNow kd (fk x) l i = some (some (i + j, fv y)) ∧ mget m x = some y ∧ l[j]? = some e ∧ e.key = fk x ∧ j < l.length ∧ ∀ z, mset m x z = m.set j (x, z)
  | [], m, i, h => by
    cases m with
    | nil => exact .inl ⟨rfl, rfl, fun y => rfl⟩
    | cons p r => simp [kvs] at h
  | e :: es, m, i, h => by
    cases m with
    | nil => simp [kvs] at h
    | cons p r =>
      simp only [kvs, List.map_cons, List.cons.injEq, Prod.mk.injEq] at h
      obtain ⟨⟨h1, h2⟩, h3⟩ := h
      by_cases hp : p.1 = x
      · right
        refine ⟨0, p.2, e, ?_, by simp [mget, hp], rfl, by rw [h1, hp], by simp, fun z => by simp [mset, hp]⟩
        simp only [Instr.findNow, h1, hk.same, hp, decide_true, h2, Nat.add_zero]
      · have hne : ¬ x = p.1 := fun q => hp q.symm
        have hf : Instr.findNow kd (fk x) (e :: es) i = Instr.findNow kd (fk x) es (i + 1) := by
          simp only [Instr.findNow, h1, hk.same, decide_eq_false hne]
        rcases find_kvs hk x es r (i + 1) h3 with ⟨g1, g2, g3⟩ | ⟨j, y, e', g1, g2, g3, g4, g5, g6⟩
        · left
          exact ⟨by rw [hf, g1], by simp [mget, hp, g2], fun y => by simp [mset, hp, g3]⟩
        · right
          refine ⟨j + 1, y, e', by rw [hf, g1]; congr 3; omega, by simp [mget, hp, g2], by simpa using g3, g4, by simpa using g5, fun z => by simp [mset, hp, g6]⟩
end

/-- A map that is read. -/
def MpR (R : Hp) (b : Nat) (kv : List (Value × Value)) : Prop := ∃ es cl, R b = some (.map es cl) ∧ entriesOf es = kv
theorem MpR.mono {R R' : Hp} {b : Nat} {kv : List (Value × Value)} (h : MpR R b kv) (hR : R.le R') : MpR R' b kv := by
  obtain ⟨es, cl, h1, h2⟩ := h
  exact ⟨es, cl, hR _ _ h1, h2⟩

section
variable {κ ν : Type} [DecidableEq κ] {kd : TypeDesc} {fk : κ → Value} {fv : ν → Value}
variable {P : Program} {ops : Array Oper} {Q : Exit → Act → World → Prop} {a : Act} {w0 w : World} {M : List Own} {R : Hp} {O : List Own} {rest : List Oper} {n : Fr} {L : Sl}
variable {d : Option Tmp} {ty' : TypeId} {pos : String} {af : Array Edge} {g : Option (Nat × Bool)}

theorem lookup_run {t kt et : TypeId} {b : Nat} {es : Array MapEntry} {cl : Nat} {m : List (κ × ν)} {x : κ} {z : ν} (ok : Bool) (hm : P.underlying t = some (.map kt et)) (hd : P.underlying kt = some kd) (hk : KeyT kd fk) (hz : ∀ w, (zeroValue et).run P w = .ok (fv z) w)
    (hb : w.heap[b]? = some (.map es cl)) (he : entriesOf es = kvs fk fv m) :
    (Instr.lookup t (.map (some b)) (fk x) ok).run P w = .ok (if ok then .tuple #[fv ((mget m x).getD z), .bool (mget m x).isSome] else fv ((mget m x).getD z)) w := by
  rcases find_kvs (fv := fv) hk x es.toList m 0 he with ⟨h1, h2, _⟩ | ⟨j, y, e, h1, h2, _⟩
  · cases ok <;> simp [Instr.lookup, run_underlying hm, MapKept.run_getObj_map hb, MapKept.run_checkKey hd (hk.isKey x), MapKept.run_findKey hd h1, Result.andThen, h2, hz]
  · cases ok <;> simp [Instr.lookup, run_underlying hm, MapKept.run_getObj_map hb, MapKept.run_checkKey hd (hk.isKey x), MapKept.run_findKey hd h1, Result.andThen, h2]

theorem r_lookup {mp key : Operand} {t kt et : TypeId} {b : Nat} {es : Array MapEntry} {cl : Nat} {m : List (κ × ν)} {x : κ} {z : ν} {ok : Bool} {v : Value} (hm : P.underlying t = some (.map kt et)) (hd : P.underlying kt = some kd) (hk : KeyT kd fk) (hz : ∀ w, (zeroValue et).run P w = .ok (fv z) w)
    (hb : w.heap[b]? = some (.map es cl)) (he : entriesOf es = kvs fk fv m) (hv : v = if ok then .tuple #[fv ((mget m x).getD z), .bool (mget m x).isSome] else fv ((mget m x).getD z)) (hK : Kn n a L) (hx : ev L mp = some (.map (some b))) (hy : ev L key = some (fk x)) :
    Runs P w a ⟨d, .lookup t mp key ok, ty', pos, af, g⟩ v := by
  subst hv
  simp [Runs, execOp, hK.ev hx, hK.ev hy, lookup_run ok hm hd hk hz hb he]
/-- A look into a map of one's own. -/
theorem r_lookup_O {mp key : Operand} {t kt et : TypeId} {b : Nat} {m : List (κ × ν)} {x : κ} {z : ν} {ok : Bool} {v : Value} (hm : P.underlying t = some (.map kt et)) (hd : P.underlying kt = some kd) (hk : KeyT kd fk) (hz : ∀ w, (zeroValue et).run P w = .ok (fv z) w)
    (hS : St M w0 w R O) (hmem : Own.mp b (kvs fk fv m) ∈ O) (hv : v = if ok then .tuple #[fv ((mget m x).getD z), .bool (mget m x).isSome] else fv ((mget m x).getD z)) (hK : Kn n a L) (hx : ev L mp = some (.map (some b))) (hy : ev L key = some (fk x)) :
    Runs P w a ⟨d, .lookup t mp key ok, ty', pos, af, g⟩ v := by
  obtain ⟨es, cl, hb, he⟩ := hS.own _ hmem
  exact r_lookup hm hd hk hz hb he hv hK hx hy
/-- .. into one that is read. -/
theorem r_lookup_R {mp key : Operand} {t kt et : TypeId} {b : Nat} {m : List (κ × ν)} {x : κ} {z : ν} {ok : Bool} {v : Value} {RA : Hp} (hm : P.underlying t = some (.map kt et)) (hd : P.underlying kt = some kd) (hk : KeyT kd fk) (hz : ∀ w, (zeroValue et).run P w = .ok (fv z) w)
    (h : MpR RA b (kvs fk fv m)) (hA : RA.sub w) (hv : v = if ok then .tuple #[fv ((mget m x).getD z), .bool (mget m x).isSome] else fv ((mget m x).getD z)) (hK : Kn n a L) (hx : ev L mp = some (.map (some b))) (hy : ev L key = some (fk x)) :
    Runs P w a ⟨d, .lookup t mp key ok, ty', pos, af, g⟩ v := by
  obtain ⟨es, cl, hb, he⟩ := h
  exact r_lookup hm hd hk hz (hA _ _ hb) he hv hK hx hy

/-- A map is made. -/
theorem sl_makeMap {dd : Nat} {t : TypeId} (hS : St M w0 w R O) (hK : Kn n a L) (hd : dd < n.n) (hw : wantedL ops L ⟨some dd, .makeMap t none, ty', pos, af, g⟩ = some true)
    (h : ∀ a w b, St M w0 w R (.mp b [] :: O) → Kn n a ((dd, .map (some b)) :: L) → wpList P ops Q rest a w) : wpList P ops Q (⟨some dd, .makeMap t none, ty', pos, af, g⟩ :: rest) a w := by
  refine slw hK hd hw rfl (w' := w.alloc (.map #[] 0)) (v := .map (some w.heap.size)) ?_ fun a' hK' => h a' _ w.heap.size (hS.new (.mp w.heap.size []) (.map #[] 0) ⟨#[], 0, heap_alloc_new w _, rfl⟩ rfl) hK'
  simp [execOp, Instr.makeMap, Result.andThen]

theorem heap_map {r : Nat} {o o' : Obj} (hb : w.heap[r]? = some o) : (w.heap.setIfInBounds r o')[r]? = some o' := (heap_set hb).1

omit [DecidableEq κ] in
theorem map_set {es : Array MapEntry} {m : List (κ × ν)} {j : Nat} {x : κ} {y : ν} {k' : Value} (he : entriesOf es = kvs fk fv m) (hk : k' = fk x) : entriesOf (es.modify j fun e => { e with key := k', val := fv y }) = kvs fk fv (m.set j (x, y)) := by
  subst hk
  apply List.ext_getElem?
  intro i
  have hi := congrArg (fun l => l[i]?) he
  simp only [entriesOf, kvs, List.getElem?_map, Array.getElem?_toList] at hi ⊢
  rw [Array.getElem?_modify, List.getElem?_set]
  by_cases hij : j = i
  · subst hij
    simp only [if_true]
    by_cases hl : j < m.length
    · rw [if_pos hl]
      rw [List.getElem?_eq_getElem hl] at hi
      cases hE : es[j]? with
      | none => rw [hE] at hi; simp at hi
      | some e => simp
    · rw [if_neg hl]
      rw [List.getElem?_eq_none (by omega)] at hi
      cases hE : es[j]? with
      | none => simp
      | some e => rw [hE] at hi; simp at hi
  · simp only [if_neg hij]
    exact hi

/-- An entry is stored. -/
theorem sl_mapUpdate {mp key val : Operand} {t kt et : TypeId} {b : Nat} {m : List (κ × ν)} {x : κ} {y : ν} (hm : P.underlying t = some (.map kt et)) (hd : P.underlying kt = some kd) (hk : KeyT kd fk)
    (hS : St M w0 w R (.mp b (kvs fk fv m) :: O)) (hK : Kn n a L) (hw : wantedL ops L ⟨none, .mapUpdate t mp key val, ty', pos, af, g⟩ = some true) (hx : ev L mp = some (.map (some b))) (hy : ev L key = some (fk x)) (hv : ev L val = some (fv y))
    (h : ∀ a w, St M w0 w R (.mp b (kvs fk fv (mset m x y)) :: O) → Kn n a L → wpList P ops Q rest a w) : wpList P ops Q (⟨none, .mapUpdate t mp key val, ty', pos, af, g⟩ :: rest) a w := by
  obtain ⟨es, cl, hb, he⟩ := hS.own _ (List.mem_cons_self ..)
  have hstep : ∀ o', (∃ es' cl', o' = .map es' cl' ∧ entriesOf es' = kvs fk fv (mset m x y)) → (execOp a.eval ⟨none, .mapUpdate t mp key val, ty', pos, af, g⟩).run P w = .ok .skip { w with heap := w.heap.setIfInBounds b o' } →
      wpList P ops Q (⟨none, .mapUpdate t mp key val, ty', pos, af, g⟩ :: rest) a w := by
    rintro o' ⟨es', cl', rfl, he'⟩ hr
    refine sls hK hw rfl hr fun a' hK' => h a' _ (hS.turn (w' := { w with heap := w.heap.setIfInBounds b (.map es' cl') }) (y := .mp b (kvs fk fv (mset m x y))) rfl rfl rfl (by simp) (Nat.le_refl _) (fun k _ hne => ?_) ⟨es', cl', (heap_set hb).1, he'⟩ (fun b' hb' => Or.inl hb')) hK'
    exact (heap_set hb).2 k (fun e => hne (by rw [e]; rfl))
  rcases find_kvs (fv := fv) hk x es.toList m 0 he with ⟨h1, _, h2⟩ | ⟨j, z, e, h1, _, h2, h3, h4, h5⟩
  · refine hstep (.map (es.push { key := fk x, val := fv y, born := cl }) (cl + 1)) ⟨_, _, rfl, ?_⟩ ?_
    · rw [h2]
      simp only [entriesOf, kvs] at he ⊢
      simp [he]
    · simp [execOp, hK.ev hx, hK.ev hy, hK.ev hv, Instr.mapUpdate, run_underlying hm, MapKept.run_getObj_map hb, MapKept.run_checkKey hd (hk.isKey x), MapKept.run_findKey hd h1, MapKept.run_setObj_map _ hb, Result.andThen]
  · have hj : es[j]? = some e := by simpa using h2
    refine hstep (.map (es.modify j fun e => { e with key := fk x, val := fv y }) cl) ⟨_, _, rfl, ?_⟩ ?_
    · rw [h5]
      exact map_set he rfl
    · simp [execOp, hK.ev hx, hK.ev hy, hK.ev hv, Instr.mapUpdate, run_underlying hm, MapKept.run_getObj_map hb, MapKept.run_checkKey hd (hk.isKey x), MapKept.run_findKey hd h1, hj, h3, MapKept.run_keyThatStays (hk.isKey x), MapKept.run_setObj_map _ hb, Result.andThen]

/-- A map of one's own is lent. -/
theorem St.lend_map {b : Nat} {kv : List (Value × Value)} {N : List Own} (h : St M w0 w R (N ++ O)) (hmem : Own.mp b kv ∈ O) : MpR (lentOf N w) b kv := by
  obtain ⟨es, cl, hb, he⟩ := h.own _ (List.mem_append_right N hmem)
  exact ⟨es, cl, h.ownLent hmem rfl hb, he⟩
theorem St.lend_map0 {b : Nat} {kv : List (Value × Value)} (h : St M w0 w R O) (hmem : Own.mp b kv ∈ O) : MpR (lentOf [] w) b kv := St.lend_map (N := []) h hmem
theorem if_max (p q : Int) : (if p < q then q else p) = max p q := by
  by_cases h : p < q
  · rw [if_pos h, Int.max_eq_right (by omega)]
  · rw [if_neg h, Int.max_eq_left (by omega)]
theorem r_max2 {x y : Operand} {t1 t2 : TypeId} {k : IntKind} {p q : Int} (hK : Kn n a L) (hx : ev L x = some (.int k p)) (hy : ev L y = some (.int k q)) : Runs P w a ⟨d, .call { callee := .builtin .max, args := #[x, y], argTypes := #[t1, t2] }, ty', pos, af, g⟩ (.int k (max p q)) := by
  simp [Runs, execOp, resolve, invoke, builtin, hK.ev hx, hK.ev hy, Builtin.max_, Builtin.max2]
  first | exact if_max p q | (rw [← if_max p q])
/-! ### maps.Clone -/
theorem eq_mnil' {t kt et : TypeId} {b : Nat} (hu : P.underlying t = some (.map kt et)) (dd : Nat) : (Op.equalIn (dd + 1) t (.map (some b)) (.map none)).run P w = .ok false w := by
  simp [Op.equalIn, run_underlying hu]
theorem eq_mnil {t kt et : TypeId} {b : Nat} (hu : P.underlying t = some (.map kt et)) : (Op.equal t (.map (some b)) (.map none)).run P w = .ok false w := eq_mnil' hu 9999
theorem r_meq {t t' kt et : TypeId} {x y : Operand} {b : Nat} (hu : P.underlying t = some (.map kt et)) (hK : Kn n a L) (hx : ev L x = some (.map (some b))) (hy : ev L y = some (.map none)) : Runs P w a ⟨d, .binOp .eql t x y t', ty', pos, af, g⟩ (.bool false) := by
  simp [Runs, execOp, hK.ev hx, hK.ev hy, eqGuard, binOp, eq_mnil hu]
theorem r_mne {t t' kt et : TypeId} {x y : Operand} {b : Nat} (hu : P.underlying t = some (.map kt et)) (hK : Kn n a L) (hx : ev L x = some (.map (some b))) (hy : ev L y = some (.map none)) : Runs P w a ⟨d, .binOp .neq t x y t', ty', pos, af, g⟩ (.bool true) := by
  simp [Runs, execOp, hK.ev hx, hK.ev hy, eqGuard, binOp, eq_mnil hu]
theorem r_mkifaceM {t kt et : TypeId} {x : Operand} {v : Value} (hu : P.underlying t = some (.map kt et)) (hK : Kn n a L) (hx : ev L x = some v) : Runs P w a ⟨d, .makeInterface t x, ty', pos, af, g⟩ (.iface t v) := by
  simp [Runs, execOp, hK.ev hx, Instr.makeInterface, run_underlying hu]
theorem r_tassertM {t xt kt et : TypeId} {x : Operand} {v : Value} (hu : P.underlying t = some (.map kt et)) (hK : Kn n a L) (hx : ev L x = some (.iface t v)) : Runs P w a ⟨d, .typeAssert x xt t false, ty', pos, af, g⟩ v := by
  simp [Runs, execOp, hK.ev hx, Instr.typeAssert, run_underlying hu]
/-- The run-time's copy of a map. -/
theorem sl_mapsClone {dd f b t : Nat} {z x : Operand} {ts : Array TypeId} {kv : List (Value × Value)} {RA : Hp} {fn : Func} (hf : P.funcs[f]? = some fn) (hname : (fn.name == "runtime.NumGoroutine") = false) (hb : fn.body.isNone = true) (hn : Extern.findNext fn = none) (he : Extern.find fn = some Extern.MapsClone.clone)
    (hm : MpR RA b kv) (hA : RA.sub w) (hS : St M w0 w R O) (hK : Kn n a L) (hd : dd < n.n) (hw : wantedL ops L ⟨some dd, .call { callee := .value z, args := #[x], argTypes := ts }, ty', pos, af, g⟩ = some true) (hz : ev L z = some (.func (.func f) #[] #[])) (hx : ev L x = some (.iface t (.map (some b))))
    (h : ∀ a w b', St M w0 w R (.mp b' kv :: O) → Kn n a ((dd, .iface t (.map (some b'))) :: L) → wpList P ops Q rest a w) : wpList P ops Q (⟨some dd, .call { callee := .value z, args := #[x], argTypes := ts }, ty', pos, af, g⟩ :: rest) a w := by
  obtain ⟨es, cl, hb0, he0⟩ := hm
  have hr : (callFunc f #[.iface t (.map (some b))]).run P w = .ok (.value (.iface t (.map (some w.heap.size)))) (w.alloc (.map es cl)) := by
    rw [run_callFunc_extern hf hname hb hn he]
    have e : Extern.MapsClone.clone #[.iface t (.map (some b))] = (getObj b >>= fun o => match o with
      | .map entries clock => (newObj (.map entries clock) >>= fun n => pure (.iface t (.map (some n))))
      | _ => stuck "maps.clone: a map expected") := rfl
    rw [e]
    simp [MapKept.run_getObj_map (hA _ _ hb0), Result.andThen]
  refine slw hK hd hw rfl (w' := w.alloc (.map es cl)) (v := .iface t (.map (some w.heap.size))) ?_ fun a' hK' => h a' _ w.heap.size (hS.new (.mp w.heap.size kv) (.map es cl) ⟨es, cl, heap_alloc_new w _, he0⟩ rfl) hK'
  simp [execOp, resolve, hK.ev hz, hK.ev hx, Deferred.ofValue, invoke, hr]
end
/-! ### make and copy of elements of several cells -/
section
variable {α : Type} {ty : Ty α}
variable {P : Program} {ops : Array Oper} {Q : Exit → Act → World → Prop} {a : Act} {w0 w : World} {M : List Own} {R : Hp} {O : List Own} {rest : List Oper} {n : Fr} {L : Sl}
variable {d : Option Tmp} {ty' : TypeId} {pos : String} {af : Array Edge} {g : Option (Nat × Bool)}

theorem made_many {zc : List Value} {z : Nat} (hz : zc.length = z) (hpos : 0 < z) : ∀ n, madeCells zc.toArray (n * z) = (List.replicate n zc).flatten.toArray := by
  intro n
  apply Array.ext
  · simp [madeCells, hz]
  · intro i h1 h2
    have hi : i < n * z := by simpa [madeCells] using h1
    have hm : i % z < zc.length := by rw [hz]; exact Nat.mod_lt _ hpos
    have e1 : (List.replicate n zc).flatten[i]? = zc[i % z]? := by
      clear h1 h2
      induction n generalizing i with
      | zero => simp at hi
      | succ n ih =>
        rw [List.replicate_succ, List.flatten_cons, List.getElem?_append]
        by_cases h : i < zc.length
        · rw [if_pos h, Nat.mod_eq_of_lt (by omega)]
        · rw [if_neg h, hz]
          have hle : z ≤ i := by omega
          rw [ih (i - z) (by rw [Nat.succ_mul] at hi; omega) (by rw [← Nat.mod_eq_sub_mod hle]; exact hm), ← Nat.mod_eq_sub_mod hle]
    have e2 : ((List.replicate n zc).flatten.toArray)[i]? = zc[i % z]? := by simpa using e1
    rw [Array.getElem?_eq_getElem h2, List.getElem?_eq_getElem hm] at e2
    have e3 := Option.some.inj e2
    rw [e3]
    have e4 : zc[i % z]? = some zc[i % z] := List.getElem?_eq_getElem hm
    simp [madeCells, hz, e4]
theorem Reps.replicateN {zc : List Value} {z : α} (h : ty.rep R zc z) : ∀ n, Reps ty R (List.replicate n zc).flatten (List.replicate n z)
  | 0 => Reps.nil _ _
  | n + 1 => by
    have := Reps.cons h (Reps.replicateN h n)
    simpa [List.replicate_succ] using this
theorem sl_makeN {dd : Nat} {t e bytes z : Nat} {x y : Operand} {k k2 : IntKind} {m : Int} {zv : Value} {zc : List Value} {x0 : α} {xs : List α} (hE : ElT P t e z bytes) (hB : 1 ≤ bytes) (hty : ty.n = z) (hZ : ∀ w, (zeroValue e).run P w = .ok zv w) (hzc : zv.cells = zc.toArray) (hrep : ty.rep R zc x0) (hm : mkS bytes m x0 = some xs)
    (hS : St M w0 w R O) (hK : Kn n a L) (hd : dd < n.n) (hw : wantedL ops L ⟨some dd, .makeSlice t x y, ty', pos, af, g⟩ = some true) (hx : ev L x = some (.int k m)) (hy : ev L y = some (.int k2 m))
    (h : ∀ a w v cs, Reps ty R cs xs → St M w0 w R (.row e z v xs.length cs :: O) → Kn n a ((dd, v) :: L) → wpList P ops Q rest a w) : wpList P ops Q (⟨some dd, .makeSlice t x y, ty', pos, af, g⟩ :: rest) a w := by
  obtain ⟨h0, hb, rfl⟩ := mkS_some hm
  obtain ⟨i, zz, hi, hz0, hsz, hby, hzs⟩ := hE.ex
  have hzz : zz = zv := by
    have := hZ w
    simp [zeroValue, typeInfo, hi, hz0] at this
    exact this
  subst hzz
  have hzl : zc.length = z := by rw [hzc] at hzs; simpa using hzs
  have hle : m.toNat ≤ 140737488355328 := Nat.le_trans (Nat.le_mul_of_pos_right _ hB) hb
  have hbi : (bytes : Int) * m ≤ 140737488355328 := by
    have e1 : ((m.toNat * bytes : Nat) : Int) = m * (bytes : Int) := by rw [Int.natCast_mul, Int.toNat_of_nonneg h0]
    have : ((m.toNat * bytes : Nat) : Int) ≤ 140737488355328 := Int.ofNat_le.2 hb
    rw [e1] at this; rw [Int.mul_comm]; exact this
  have hr := run_make (P := P) w t e i zz hE.und hi hz0 k k2 m m h0 (Int.le_refl _) (by rw [hby]; omega) (by omega)
  rw [hsz, hzc, made_many hzl hE.pos] at hr
  have hS1 : St M w0 (w.alloc (.cells (List.replicate m.toNat zc).flatten.toArray e)) R (.row e z (.slice (some ⟨w.heap.size, 0, none⟩) m.toNat m.toNat) m.toNat (List.replicate m.toNat zc).flatten :: O) := (hS.alloc (List.replicate m.toNat zc).flatten e).row_lit (by simp [hzl]) hle
  refine slw hK hd hw rfl (v := .slice (some ⟨w.heap.size, 0, none⟩) m.toNat m.toNat) (w' := w.alloc (.cells (List.replicate m.toNat zc).flatten.toArray e)) ?_ fun a' hK' => h a' _ _ _ (Reps.replicateN hrep _) (by rw [List.length_replicate]; exact hS1) hK'
  simp only [execOp, hK.ev hx, hK.ev hy]
  simp [hr]

/-- What copy leaves. -/
def cpy {α : Type} (xs ys : List α) : List α := ys.take (min ys.length xs.length) ++ xs.drop (min ys.length xs.length)
theorem cpy_length {xs ys : List α} : (cpy xs ys).length = xs.length := by simp [cpy]; omega
theorem copy_nil {t e z : TypeId} {ad : Option Addr} {m' c' : Nat} (hu : P.underlying t = some (.slice e)) (hz : ∀ w, (sizeOf e).run P w = .ok z w) (tt : TypeId) :
    (Builtin.copy_ #[t, t] tt #[.slice none 0 0, .slice ad m' c']).run P w = .ok (.int .i64 0) w := by
  cases ad <;> simp [Builtin.copy_, run_underlying hu, Builtin.lenOf, Builtin.firstCells, hz, goInt, storeCells, loadCells, loadCellsFrom]
theorem sl_copy_row {dd : Nat} {x y : Operand} {t e z bytes m : Nat} {cs : List Value} {xs ys : List α} {v u : Value} {RS : Hp} (hE : ElT P t e z bytes) (hty : ty.n = z) (hA : RS.sub w) (hds : ∀ ds, Reps ty RS ds ys → Reps ty R ds ys) (hs : SlR ty RS u ys) (hcs : Reps ty R cs xs) (hm : m = xs.length)
    (hS : St M w0 w R (.row e z v m cs :: O)) (hK : Kn n a L) (hd : dd < n.n) (hw : wantedL ops L ⟨some dd, .call { callee := .builtin .copy, args := #[x, y], argTypes := #[t, t] }, ty', pos, af, g⟩ = some true)
    (hx : ev L x = some v) (hy : ev L y = some u)
    (h : ∀ a w cs', Reps ty R cs' (cpy xs ys) → St M w0 w R (.row e z v (cpy xs ys).length cs' :: O) → Kn n a ((dd, .int .i64 (min (ys.length : Int) (xs.length : Int))) :: L) → wpList P ops Q rest a w) :
    wpList P ops Q (⟨some dd, .call { callee := .builtin .copy, args := #[x, y], argTypes := #[t, t] }, ty', pos, af, g⟩ :: rest) a w := by
  subst hm; subst hty
  obtain ⟨i, zz, hi, hz0, hsz, hby, hzs⟩ := hE.ex
  have hz : ∀ w, (sizeOf e).run P w = .ok ty.n w := fun w => by simp [sizeOf, typeInfo, hi, hsz]
  obtain ⟨ad, cap, ds, rfl, _, hd0, hsrc⟩ := hs.cells
  have hdR := hds ds hd0
  have hmin : (min (ys.length : Int) (xs.length : Int)) = ((min ys.length xs.length : Nat) : Int) := by omega
  rw [hmin] at h
  rcases hS.row_raw with ⟨h1, h2, h3⟩ | ⟨b, c, cur, h1, h2, h3, h4, h5, hS1⟩
  · have hx0 : xs = [] := List.eq_nil_of_length_eq_zero h2
    subst hx0; subst h1; subst h3
    have e0 : cpy ([] : List α) ys = [] := by simp [cpy]
    rw [e0] at h
    refine slw hK hd hw rfl (copy_op hK hx hy (copy_nil hE.und hz ty')) fun a' hK' => h a' w [] (Reps.nil _ _) hS ?_
    simpa using hK'
  · subst h1
    have hk := Nat.min_le_right ys.length xs.length
    have hk' := Nat.min_le_left ys.length xs.length
    generalize hkk : min ys.length xs.length = k at *
    have hdl : ds.length = ys.length * ty.n := hdR.length
    have hcl : cs.length = xs.length * ty.n := hcs.length
    have m1 := Nat.mul_le_mul_right ty.n hk
    have m2 := Nat.mul_le_mul_right ty.n hk'
    have m3 := Nat.mul_le_mul_right ty.n h2
    have hnl : (ds.take (k * ty.n)).length = k * ty.n := by rw [List.length_take]; omega
    obtain ⟨w', hr, hS2⟩ := copy_run (tt := ty') (m := xs.length) (c := c) (m' := ys.length) (c' := cap) (k := k) (o := 0) (news := ds.take (k * ty.n)) (ad := ad) hE.und hz hS1 hkk hnl (fun u hu => hdR.one u (List.mem_of_mem_take hu)) (by omega) (fun h0 => by
      obtain ⟨b', o', g1, g2⟩ := hsrc (by intro e; subst e; simp at hk'; omega)
      refine ⟨b', o', g1, fun j u hu => hA.cell (g2 j u ?_)⟩
      rw [List.getElem?_take] at hu
      split at hu
      · exact hu
      · cases hu)
    have hS3 := hS2.raw_row (z := ty.n) (m := xs.length) (cap := c) h2 h3 (by simp only [List.take_zero, List.nil_append, Nat.zero_add, List.length_append, List.length_drop, hnl]; omega)
    have hcells : (cur.take 0 ++ ds.take (k * ty.n) ++ cur.drop (0 + (ds.take (k * ty.n)).length)).take (xs.length * ty.n) = ds.take (k * ty.n) ++ cs.drop (k * ty.n) := by
      rw [hnl, List.take_zero, List.nil_append, Nat.zero_add, List.take_append, List.take_of_length_le (by omega), hnl, ← h5, List.drop_take]
    rw [hcells] at hS3
    have hrep : Reps ty R (ds.take (k * ty.n) ++ cs.drop (k * ty.n)) (cpy xs ys) := by
      unfold cpy
      rw [hkk]
      exact (hdR.split k).1.append (hcs.split k).2
    refine slw hK hd hw rfl (copy_op hK hx hy hr) fun a' hK' => h a' w' _ hrep ?_ hK'
    rw [cpy_length]
    exact hS3
end
/-! ### []byte(s), and what is appended to it -/
theorem run_storeCells_atM (P : Program) (g o : Nat) (t : TypeId) (fz : Nat × Nat) : ∀ (vs : List Value) (i : Nat) (cur : Array Value) (w : World), w.heap[g]? = some (.cells cur t fz) → (∀ k, k < cur.size → ¬ (fz.1 ≤ k ∧ k < fz.2)) → o + i + vs.length ≤ cur.size → (∀ v ∈ vs, v.oneCell' = true) →
    (storeCells ⟨g, o, none⟩ vs i).run P w = .ok () (w.setRow g (cur.toList.take (o + i) ++ vs ++ cur.toList.drop (o + i + vs.length)).toArray)
  | [], i, cur, w, hg, _, _, _ => by
    simp only [storeCells, List.append_nil, List.length_nil, Nat.add_zero, List.take_append_drop, Array.toArray_toList]
    rw [setRow_self w g cur t fz hg]
    rfl
  | v :: rest, i, cur, w, hg, hfz, hl, h1 => by
    have hi : o + i < cur.size := by simp at hl; omega
    have hadd : (⟨g, o, none⟩ : Addr).add i = ⟨g, o + i, none⟩ := by unfold Addr.add; split <;> simp_all
    have hcell : w.cell? ⟨g, o + i, none⟩ = some cur[o + i] := by simp [World.cell?, hg, hi]
    have hfro : w.frozen? ⟨g, o + i, none⟩ = false := by
      have := hfz (o + i) hi
      obtain ⟨lo, hi'⟩ := fz
      simp only [World.frozen?, hg, Bool.and_eq_false_iff, decide_eq_false_iff_not]
      simp only at this
      omega
    have hst : (store ((⟨g, o, none⟩ : Addr).add i) v).run P w = .ok () (w.setRow g (cur.setIfInBounds (o + i) v)) := by
      rw [hadd, run_store P w _ v _ (h1 v (by simp)), hcell]
      simp [hfro, setCell_eq_setRow w g (o + i) cur t fz v hg]
    have ih := run_storeCells_atM P g o t fz rest (i + 1) (cur.setIfInBounds (o + i) v) (w.setRow g (cur.setIfInBounds (o + i) v)) (setRow_heap w g cur _ t _ hg) (fun k hk => hfz k (by simpa using hk)) (by simp at hl ⊢; omega) (fun x hx => h1 x (by simp [hx]))
    simp only [storeCells, Sem.run_bind, hst, Result.andThen_ok, ih, setRow_setRow]
    congr 3
    have e := list_seg_step cur.toList (o + i) v rest (by simp at hl ⊢; omega)
    simpa [Array.toList_setIfInBounds, Nat.add_assoc] using e
section
variable {α : Type} {ty : Ty α}
variable {P : Program} {ops : Array Oper} {Q : Exit → Act → World → Prop} {a : Act} {w0 w : World} {M : List Own} {R : Hp} {O : List Own} {rest : List Oper} {n : Fr} {L : Sl}
variable {d : Option Tmp} {ty' : TypeId} {pos : String} {af : Array Edge} {g : Option (Nat × Bool)}

/-- append onto a row with a mark. -/
theorem run_appendM {t e size bytes tt : Nat} {v : Value} {m k c : Nat} {cs news : List Value} {ad : Option Addr} (hE : ElT P t e size bytes) (hB : 1 ≤ bytes)
    (hS : St M w0 w R (.rowM e size v m cs :: O)) (hl : news.length = k * size) (h1 : ∀ u ∈ news, u.oneCell' = true) (hb : (m + k) * bytes ≤ 140737488355328)
    (hsrc : k ≠ 0 → ∃ b o, ad = some ⟨b, o, none⟩ ∧ ∀ j u, news[j]? = some u → w.cell? ⟨b, o + j, none⟩ = some u) :
    ∃ v' w', (Builtin.append_ #[t, t] tt #[v, .slice ad k c]).run P w = .ok v' w' ∧ St M w0 w' R (.rowM e size v' (m + k) (cs ++ news) :: O) := by
  obtain ⟨i, z, hi, hz0, hsz, hby, hzs⟩ := hE.ex
  have hown : ownsM w e size v m cs := hS.own (.rowM e size v m cs) (List.mem_cons_self ..)
  obtain ⟨hcl, b0, cap, cur, fz, rfl, hg, hfz, hnc, hcm, hcs, htake⟩ := hown
  by_cases hk : k = 0
  · subst hk
    have : news = [] := List.eq_nil_of_length_eq_zero (by simpa using hl)
    subst this
    refine ⟨_, w, append_none (size := size) hE.und (fun w => by simp [sizeOf, typeInfo, hi, hsz]) tt hnc, ?_⟩
    simpa using hS
  · obtain ⟨b, o, rfl, hcell⟩ := hsrc hk
    have hpos := hE.pos
    subst hsz; subst hby
    have hle : m + k ≤ 140737488355328 := Nat.le_trans (Nat.le_mul_of_pos_right _ hB) hb
    have hlen : (cs ++ news).length = (m + k) * i.size := by rw [List.length_append, hcl, hl, Nat.add_mul]
    have hnews : ∀ j u, news[j]? = some u → w.cell? ((⟨b, o, none⟩ : Addr).add j) = some u := fun j u hu => by rw [add_lit]; exact hcell j u hu
    by_cases hroom : m + k ≤ cap
    · have hfit : m * i.size + news.length ≤ cur.size := by rw [hl, hcs, ← Nat.add_mul]; exact Nat.mul_le_mul_right _ hroom
      have hf := run_firstCells_some (P := P) w i.size k ⟨b, o, none⟩ k c news hl hnews
      have hst := run_storeCells_atM P b0 (m * i.size) e fz news 0 cur w hg hfz (by simpa using hfit) h1
      simp only [Nat.add_zero] at hst
      have hr : (Builtin.append_ #[t, t] tt #[.slice (some ⟨b0, 0, none⟩) m cap, .slice (some ⟨b, o, none⟩) k c]).run P w =
          .ok (.slice (some ⟨b0, 0, none⟩) (m + k) cap) (w.setRow b0 (cur.toList.take (m * i.size) ++ news ++ cur.toList.drop (m * i.size + news.length)).toArray) := by
        simp [Builtin.append_, run_underlying hE.und, sizeOf, typeInfo, hi, Builtin.lenOf, hroom, hf, Addr.add_lit, hst]
      refine ⟨_, _, hr, hS.turn rfl rfl rfl (by simp [World.setRow]) (Nat.le_refl _) (fun j hj hne => setRow_other w b0 j _ (fun e => hne (by simp [Own.blk, Value.ownBlock, e]))) ⟨hlen, b0, cap, _, fz, rfl, setRow_heap w b0 cur _ e _ hg, fun j hj => hfz j ?_, hroom, hcm, ?_, ?_⟩ (fun b' hb' => Or.inl hb')⟩
      · simp only [List.size_toArray, List.length_append, List.length_take, List.length_drop, Array.length_toList] at hj
        omega
      · simp only [List.size_toArray, List.length_append, List.length_take, List.length_drop, Array.length_toList]
        omega
      · rw [htake, ← hlen]
        exact List.take_left
    · have holds : ∀ j u, cs[j]? = some u → w.cell? ((⟨b0, 0, none⟩ : Addr).add j) = some u := fun j u hu => by
        rw [add_lit, Nat.zero_add, cell_of_row w b0 j cur e fz hg]
        rw [← htake, List.getElem?_take] at hu
        split at hu
        · simpa using hu
        · cases hu
      have hr := run_append_grow (P := P) w t tt e i z hE.und hi hz0 ⟨b0, 0, none⟩ m cap cs hcl holds ⟨b, o, none⟩ k c news hl hnews (by omega) (by omega) (growslice_fits (by omega) hb)
      have hge := grownCap_ge w (m + k) cap e
      have hcm' : grownCap w (m + k) cap e ≤ maxLen := grownCap_le_maxLen w (m + k) cap e (by simp only [maxLen]; omega)
      refine ⟨_, _, hr, hS.turn rfl rfl rfl (by simp) (Nat.le_succ _) (fun j hj _ => Below.heap_alloc w.drew _ _ hj) ⟨hlen, w.heap.size, _, _, (0, 0), rfl, heap_alloc_new w.drew _, fun j hj h => by omega, hge, hcm', ?_, ?_⟩ (fun b' hb' => Or.inr (by simp [Own.blk, Value.ownBlock] at hb'; omega))⟩
      · simp only [Array.size_append, List.size_toArray, size_zeroCells, hzs, hcl, hl, ← Nat.add_mul]
        congr 1
        omega
      · simp only [Array.toList_append, List.append_assoc]
        rw [← List.append_assoc, ← hlen]
        exact List.take_left
theorem sl_append_MR {dd : Nat} {s x : Operand} {t e size bytes : Nat} {v u : Value} {m : Nat} {cs : List Value} {xs ys zs : List α} (hE : ElT P t e size bytes) (hB : 1 ≤ bytes) (hty : ty.n = size) (hcs : Reps ty R cs xs) (hm : m = xs.length) (hu : SlR ty R u ys) (hz : apd bytes xs ys = some zs)
    (hS : St M w0 w R (.rowM e size v m cs :: O)) (hK : Kn n a L) (hd : dd < n.n) (hw : wantedL ops L ⟨some dd, .call { callee := .builtin .append, args := #[s, x], argTypes := #[t, t] }, ty', pos, af, g⟩ = some true) (hs : ev L s = some v) (hx : ev L x = some u)
    (h : ∀ a w v' cs', Reps ty R cs' zs → St M w0 w R (.rowM e size v' zs.length cs' :: O) → Kn n a ((dd, v') :: L) → wpList P ops Q rest a w) :
    wpList P ops Q (⟨some dd, .call { callee := .builtin .append, args := #[s, x], argTypes := #[t, t] }, ty', pos, af, g⟩ :: rest) a w := by
  subst hm; subst hty
  obtain ⟨hb, hzs⟩ := apd_some hz
  obtain ⟨ad, cap, ds, rfl, _, hds, hsrc⟩ := hu.cells
  obtain ⟨v', w', hr, hS'⟩ := run_appendM (tt := ty') (c := cap) (news := ds) (ad := ad) hE hB hS hds.length hds.one hb (fun hk => by
    obtain ⟨b, o, h1, h2⟩ := hsrc (by intro e; subst e; exact hk rfl)
    exact ⟨b, o, h1, fun j u hu => hS.rcell (h2 j u hu)⟩)
  refine slw hK hd hw rfl (append_op hK hs hx hr) fun a' hK' => h a' w' v' (cs ++ ds) (by rw [hzs]; exact hcs.append hds) ?_ hK'
  rw [hzs, List.length_append]
  exact hS'
theorem sl_append_ML {dd : Nat} {s x : Operand} {t e size bytes : Nat} {v : Value} {m k b : Nat} {t' : TypeId} {cs ds : List Value} {xs ys zs : List α} (hE : ElT P t e size bytes) (hB : 1 ≤ bytes) (hty : ty.n = size) (hcs : Reps ty R cs xs) (hm : m = xs.length) (hds : Reps ty R ds ys) (hk : k = ys.length) (hz : apd bytes xs ys = some zs)
    (hS : St M w0 w R (.rowM e size v m cs :: .cells b ds t' :: O)) (hK : Kn n a L) (hd : dd < n.n) (hw : wantedL ops L ⟨some dd, .call { callee := .builtin .append, args := #[s, x], argTypes := #[t, t] }, ty', pos, af, g⟩ = some true) (hs : ev L s = some v) (hx : ev L x = some (.slice (some ⟨b, 0, none⟩) k k))
    (h : ∀ a w v' cs', Reps ty R cs' zs → St M w0 w R (.rowM e size v' zs.length cs' :: O) → Kn n a ((dd, v') :: L) → wpList P ops Q rest a w) :
    wpList P ops Q (⟨some dd, .call { callee := .builtin .append, args := #[s, x], argTypes := #[t, t] }, ty', pos, af, g⟩ :: rest) a w := by
  subst hm; subst hty; subst hk
  obtain ⟨hb, hzs⟩ := apd_some hz
  obtain ⟨v', w', hr, hS'⟩ := run_appendM (tt := ty') (c := ys.length) (news := ds) (ad := some ⟨b, 0, none⟩) hE hB hS hds.length hds.one hb (fun hk => ⟨b, 0, rfl, fun j u hu => by
    rw [Nat.zero_add]; exact hS.cell (.tail _ (.head _)) hu⟩)
  refine slw hK hd hw rfl (append_op hK hs hx hr) fun a' hK' => h a' w' v' (cs ++ ds) (by rw [hzs]; exact hcs.append hds) ?_ hK'
  rw [hzs, List.length_append]
  exact hS'.drop1
theorem bytesRow_take (s : ByteArray) (cap : Nat) : (bytesRow s cap).toList.take (s.size * 1) = Lib.strCells s := by
  have e : (s.data.map (fun b => Value.int .u8 b.toNat)).toList = Lib.strCells s := by simp [Lib.strCells]
  have hl : (Lib.strCells s).length = s.size * 1 := by rw [Lib.strCells_length, Nat.mul_one]
  rw [bytesRow, Array.toList_append, e, ← hl, List.take_left]
/-- []byte(s), as a row of one's own. -/
theorem sl_conv_sbM {dd src dst e : Nat} {x : Operand} {ty' : TypeId} {s : ByteArray} (hs : P.underlying src = some .string) (hd' : P.underlying dst = some (.slice e)) (he : P.underlying e = some (.int .u8)) (hsz : (sbytes s).length * 1 ≤ 140737488355328) (hS : St M w0 w R O) (hK : Kn n a L) (hd : dd < n.n)
    (hw : wantedL ops L ⟨some dd, .convert src dst x, ty', pos, af, g⟩ = some true) (hx : ev L x = some (.string s))
    (h : ∀ a w v cs, Reps (tyInt .u8) R cs (sbytes s) → St M w0 w R (.rowM e 1 v (sbytes s).length cs :: O) → Kn n a ((dd, v) :: L) → wpList P ops Q rest a w) : wpList P ops Q (⟨some dd, .convert src dst x, ty', pos, af, g⟩ :: rest) a w := by
  have hr := run_bytes_of_string (P := P) w src dst e s hs hd' he
  have hlen : (sbytes s).length = s.size := by simp [sbytes]
  have hge := grownCap_ge w s.size 0 e
  have h0 := (hS.drew (w.drawn + 1) (Nat.le_succ _)).new (.rowM e 1 (.slice (some ⟨w.heap.size, 0, none⟩) s.size (grownCap w s.size 0 e)) (sbytes s).length (Lib.strCells s)) (.cells (bytesRow s (grownCap w s.size 0 e)) e ((bytesRow s (grownCap w s.size 0 e)).size, (bytesRow s (grownCap w s.size 0 e)).size + 1)) ⟨by rw [Lib.strCells_length, hlen, Nat.mul_one], w.heap.size, _, _, _, by rw [hlen], heap_alloc_new w.drew _, fun i hi h => by simp only at h; omega, by rw [hlen]; exact hge, grownCap_le_maxLen w _ 0 e (by simp only [maxLen]; omega), by
      have : s.data.size = s.size := rfl
      simp [bytesRow, this]; omega, by rw [hlen]; exact bytesRow_take s _⟩ rfl
  exact slw hK hd hw rfl (by simp [execOp, hK.ev hx, hr]) fun a' hK' => h a' _ _ _ (reps_str s) h0 hK'
/-- string(b) of such a row. -/
theorem r_conv_bM {s t e : TypeId} {x : Operand} {v : Value} {xs : List Int} {et m : Nat} {cs : List Value} (hs : P.underlying s = some (.slice e)) (ht : P.underlying t = some .string) (he : P.underlying e = some (.int .u8)) (hcs : Reps (tyInt .u8) R cs xs) (hm : m = xs.length) (hS : St M w0 w R O) (hmem : Own.rowM et 1 v m cs ∈ O) (hK : Kn n a L) (hx : ev L x = some v) : Runs P w a ⟨d, .convert s t x, ty', pos, af, g⟩ (.string (bstr xs)) := by
  have := reps_u8 hcs
  subst this; subst hm
  obtain ⟨h1, b, cap, cur, fz, rfl, hg, _, hnc, _, hcz, htake⟩ := hS.own _ hmem
  refine r_conv_cells hs ht he rfl (fun hne => ⟨b, 0, rfl, fun j u hu => ?_⟩) hK hx
  rw [Nat.zero_add, cell_of_row w b j cur et fz hg]
  rw [← htake, List.getElem?_take] at hu
  split at hu
  · simpa using hu
  · cases hu
end
end Go.Eng
