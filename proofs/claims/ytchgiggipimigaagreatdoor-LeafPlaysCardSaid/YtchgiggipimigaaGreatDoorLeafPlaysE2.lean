/- For the law LeafPlays: laws of memory, calls and single operations, for any program; each holds under its own hypotheses alone. -/
import Derived.ProofKit
import Derived.OpenShut
import Derived.ShutString
import Derived.ChangeOld
import Derived.SizedLaws
import Derived.Deep.Slices
import Derived.HandedShaped
import Derived.LaidMore
import Derived.Lib.LaidTab
import Derived.MapKept
import Derived.Maps.RangeRun
import Derived.Test.YtchgiggipimigaaGreatDoorLeafPlaysE1
section
namespace Go.Eng
open Go.RowKit Go.ChangeShapes Go.WideShapes
set_option linter.unusedVariables false
set_option linter.unusedSimpArgs false
theorem Bel.of_grow (w : World) (k : Nat) (os : Array Obj) : Bel [] w (Sort.grow (w.drewN k) os) :=
  ⟨rfl, rfl, rfl, by show w.heap.size ≤ (w.heap ++ os).size; simp, .of (by show w.drawn ≤ w.drawn + k; omega), fun j hj _ => by show (w.heap ++ os)[j]? = w.heap[j]?; rw [Array.getElem?_append_left hj]⟩
end Go.Eng
end
section
namespace Go.Eng
set_option linter.unusedVariables false
theorem change_all {H : Type} {enc : TypeId × Value → H} {a : Assume} {C : Checked} {os : Os} {f : FuncId} {fn : Func} {s : ChangeSpec} {conds : List PathCond} {apart fresh handsOn again : Bool} {X : World → Array Value → Prop}
    (hX : ∀ (w w' : World) (args : Array Value), w.heap = w'.heap → X w args → X w' args)
    (own : ownKnob C.prog.godebug = none) (started : os.Started) (noInit : C.prog.inits.idxOf? f = none) (hfn : C.prog.funcs[f]? = some fn)
    (witness : ∃ (w : World) (tape : Tape) (i : Input), w.os = os ∧ (w.forCall tape i).Shaped C.prog ∧ i.vars = [] ∧ Input.okWide C.prog (w.forCall tape i) .any w.heap.size f i ∧
      ((s.pre enc C.prog fn conds apart (w.forCall tape i).memory i.args ∧ X (w.forCall tape i).memory i.args) ∧ sizedMet enc C.prog fn (OpenSpec.ofChange s) apart (w.forCall tape i).memory i.args) ∧ a.holds C.prog (lone (Frame.enter C.prog f i.args .normal) [] (w.forCall tape i)))
    (contract : ∀ (W : World) (base : Nat) (args : Array Value) (ds gs : List (DataW H)) (before : List MemPlace),
      (∀ (j : Nat) t v, fn.params[j]? = some t → args[j]? = some v → Value.okWide C.prog W .any base t v) →
      DataW.Whole enc C.prog fn.params.toList s.vars apart W args.toList ds gs before →
      conds.all (PathCond.test C.prog ⟨fn.params.toList, ds, s.plain.varTypes C.prog, gs⟩) = true →
      (DataW.weightsEach C.prog (fn.params.toList ++ s.plain.varTypes C.prog) (ds ++ gs)).all (· ≤ reachBytes) = true → X W args → W.ShapedOpen C.prog →
      a.holds C.prog (lone (Frame.enter C.prog f args .normal) [] W) →
      Calls C.prog f args W fun e W' => ∃ v, e = .returned v ∧ s.post enc C.prog fn apart fresh handsOn again W args v W') :
    ReturnsInHanded a C os f .any (fun w args => (s.pre enc C.prog fn conds apart w args ∧ X w args) ∧ sizedMet enc C.prog fn (OpenSpec.ofChange s) apart w args) (s.post enc C.prog fn apart fresh handsOn again) := by
  refine returnsInHanded_of_calls own started noInit witness ?_
  intro w tape i _ hsh _ hok hpre hholds
  obtain ⟨_, _, _, fn', hfn', _, _, _, _, hval⟩ := hok
  have e : fn' = fn := Option.some.inj (hfn'.symm.trans hfn)
  subst e
  obtain ⟨⟨⟨ds, gs, before, hw, hc⟩, hx⟩, hz⟩ := hpre
  have hw' := DataW.Whole.of_heap (w' := w.forCall tape i) (by rfl) hw
  refine (contract (w.forCall tape i) w.heap.size i.args ds gs before hval hw' hc (hz.weights hw) (hX _ _ _ (by rfl) hx) hsh hholds).mono fun e W' ⟨v, he, hp⟩ => ?_
  subst he
  exact ChangeSpec.post_blind hp
theorem tabIs_third {P : Program} {W : World} {name : String} {k : IntKind} {zs : List Int} {x y : String × DataW Unit} {rest : List (String × DataW Unit)} {g : Nat} {t e : TypeId} {n : Nat}
    (hg : P.globalNamed name = some g) (hty : (P.globals[g]?).map (·.type) = some t) (ht : P.underlying t = some (.array n e)) (he : P.underlying e = some (.int k)) (hce : P.cellsOf e = 1) (hct : P.cellsOf t = n)
    (h : laidMet P (x :: y :: (name, Lib.tabData k zs) :: rest) W) : Lib.TabIs P W name k zs := by
  obtain ⟨ps, ⟨_, _, _, _, _, _, _, _, _, _, ⟨_, _, _, _, _, _, _, _, _, _, ⟨g', t', cs, fuel, p, q, hg', ht', hvar, hd, _, _⟩, _⟩, _⟩, _⟩ := h
  obtain rfl := Option.some.inj (hg.symm.trans hg')
  obtain rfl := Option.some.inj (hty.symm.trans ht')
  unfold Lib.TabIs
  rw [hvar, ← Lib.cells_of_tab ht he hce hct hd]
theorem tabIs_of_hp {P : Program} {W w : World} {name : String} {k : IntKind} {zs : List Int} (hw : (hpOf W).sub w) (h : Lib.TabIs P W name k zs) : Lib.TabIs P w name k zs := by
  unfold Lib.TabIs World.var? at *
  cases hg : P.globalNamed name with
  | none => rw [hg] at h; cases h
  | some g =>
    rw [hg] at h
    simp only [Option.bind_some] at h ⊢
    cases hW : W.heap[g]? with
    | none => rw [hW] at h; cases h
    | some o =>
      rw [hW] at h
      rw [show w.heap[g]? = some o from hw g o hW]
      exact h
end Go.Eng
end
section
namespace Go.Eng
open Go.RowKit Go.MapKept
set_option linter.unusedVariables false
set_option linter.unusedSimpArgs false
section
variable {κ ν : Type} [DecidableEq κ]
def mget : List (κ × ν) → κ → Option ν
  | [], _ => none
  | p :: r, x => if p.1 = x then some p.2 else mget r x
def mset : List (κ × ν) → κ → ν → List (κ × ν)
  | [], x, y => [(x, y)]
  | p :: r, x, y => if p.1 = x then (x, y) :: r else p :: mset r x y
end
def kvs {κ ν : Type} (fk : κ → Value) (fv : ν → Value) (m : List (κ × ν)) : List (Value × Value) := m.map fun p => (fk p.1, fv p.2)
structure KeyT {κ : Type} [DecidableEq κ] (d : TypeDesc) (fk : κ → Value) : Prop where
  isKey : ∀ x, IsKey d (fk x)
  same : ∀ x y, Instr.sameNow d (fk x) (fk y) = some (decide (x = y))
theorem key_str : KeyT .string Value.string := ⟨fun _ => trivial, fun x y => by
  simp only [Instr.sameNow]
  congr 1
  rw [Bool.eq_iff_iff, bytes_beq]
  simp⟩
theorem key_int (k : IntKind) : KeyT (.int k) (Value.int k) := ⟨fun _ => rfl, fun x y => by
  simp only [Instr.sameNow, if_true]
  congr 1⟩
section
variable {κ ν : Type} [DecidableEq κ] {kd : TypeDesc} {fk : κ → Value} {fv : ν → Value}
theorem find_kvs (hk : KeyT kd fk) (x : κ) : ∀ (l : List MapEntry) (m : List (κ × ν)) (i : Nat), l.map (fun e => (e.key, e.val)) = kvs fk fv m →
    (Instr.findNow kd (fk x) l i = some none ∧ mget m x = none ∧ ∀ y, mset m x y = m ++ [(x, y)]) ∨
    ∃ j y e, Instr.findNow kd (fk x) l i = some (some (i + j, fv y)) ∧ mget m x = some y ∧ l[j]? = some e ∧ e.key = fk x ∧ j < l.length ∧ ∀ z, mset m x z = m.set j (x, z)
  | [], m, i, h => by
    cases m with
    | nil => exact .inl ⟨rfl, rfl, fun y => rfl⟩
    | cons p r => simp [kvs] at h
  | e :: es, m, i, h => by
    cases m with
    | nil => simp [kvs] at h
    | cons p r =>
      simp only [kvs, List.map_cons, List.cons.injEq, Prod.mk.injEq] at h
      obtain ⟨⟨h1, h2⟩, h3⟩ := h
      by_cases hp : p.1 = x
      · right
        refine ⟨0, p.2, e, ?_, by simp [mget, hp], rfl, by rw [h1, hp], by simp, fun z => by simp [mset, hp]⟩
        simp only [Instr.findNow, h1, hk.same, hp, decide_true, h2, Nat.add_zero]
      · have hne : ¬ x = p.1 := fun q => hp q.symm
        have hf : Instr.findNow kd (fk x) (e :: es) i = Instr.findNow kd (fk x) es (i + 1) := by
          simp only [Instr.findNow, h1, hk.same, decide_eq_false hne]
        rcases find_kvs hk x es r (i + 1) h3 with ⟨g1, g2, g3⟩ | ⟨j, y, e', g1, g2, g3, g4, g5, g6⟩
        · left
          exact ⟨by rw [hf, g1], by simp [mget, hp, g2], fun y => by simp [mset, hp, g3]⟩
        · right
          refine ⟨j + 1, y, e', by rw [hf, g1]; congr 3; omega, by simp [mget, hp, g2], by simpa using g3, g4, by simpa using g5, fun z => by simp [mset, hp, g6]⟩
end
def MpR (R : Hp) (b : Nat) (kv : List (Value × Value)) : Prop := ∃ es cl, R b = some (.map es cl) ∧ mapOk es cl kv
theorem MpR.mono {R R' : Hp} {b : Nat} {kv : List (Value × Value)} (h : MpR R b kv) (hR : R.le R') : MpR R' b kv := by
  obtain ⟨es, cl, h1, h2⟩ := h
  exact ⟨es, cl, hR _ _ h1, h2⟩
section
variable {κ ν : Type} [DecidableEq κ] {kd : TypeDesc} {fk : κ → Value} {fv : ν → Value}
variable {P : Program} {ops : Array Oper} {Q : Exit → Act → World → Prop} {a : Act} {w0 w : World} {M : List Own} {R : Hp} {O : List Own} {rest : List Oper} {n : Fr} {L : Sl}
variable {d : Option Tmp} {ty' : TypeId} {pos : String} {af : Array Edge} {g : Option (Nat × Bool)}
theorem lookup_run {t kt et : TypeId} {b : Nat} {es : Array MapEntry} {cl : Nat} {m : List (κ × ν)} {x : κ} {z : ν} (ok : Bool) (hm : P.underlying t = some (.map kt et)) (hd : P.underlying kt = some kd) (hk : KeyT kd fk) (hz : ∀ w, (zeroValue et).run P w = .ok (fv z) w)
    (hb : w.heap[b]? = some (.map es cl)) (he : entriesOf es = kvs fk fv m) :
    (Instr.lookup t (.map (some b)) (fk x) ok).run P w = .ok (if ok then .tuple #[fv ((mget m x).getD z), .bool (mget m x).isSome] else fv ((mget m x).getD z)) w := by
  rcases find_kvs (fv := fv) hk x es.toList m 0 he with ⟨h1, h2, _⟩ | ⟨j, y, e, h1, h2, _⟩
  · cases ok <;> simp [Instr.lookup, run_underlying hm, MapKept.run_getObj_map hb, MapKept.run_checkKey hd (hk.isKey x), MapKept.run_findKey hd h1, Result.andThen, h2, hz]
  · cases ok <;> simp [Instr.lookup, run_underlying hm, MapKept.run_getObj_map hb, MapKept.run_checkKey hd (hk.isKey x), MapKept.run_findKey hd h1, Result.andThen, h2]
theorem r_lookup {mp key : Operand} {t kt et : TypeId} {b : Nat} {es : Array MapEntry} {cl : Nat} {m : List (κ × ν)} {x : κ} {z : ν} {ok : Bool} {v : Value} (hm : P.underlying t = some (.map kt et)) (hd : P.underlying kt = some kd) (hk : KeyT kd fk) (hz : ∀ w, (zeroValue et).run P w = .ok (fv z) w)
    (hb : w.heap[b]? = some (.map es cl)) (he : entriesOf es = kvs fk fv m) (hv : v = if ok then .tuple #[fv ((mget m x).getD z), .bool (mget m x).isSome] else fv ((mget m x).getD z)) (hK : Kn n a L) (hx : ev L mp = some (.map (some b))) (hy : ev L key = some (fk x)) :
    Runs P w a ⟨d, .lookup t mp key ok, ty', pos, af, g⟩ v := by
  subst hv
  simp [Runs, execOp, hK.ev hx, hK.ev hy, lookup_run ok hm hd hk hz hb he]
theorem r_lookup_O {mp key : Operand} {t kt et : TypeId} {b : Nat} {m : List (κ × ν)} {x : κ} {z : ν} {ok : Bool} {v : Value} (hm : P.underlying t = some (.map kt et)) (hd : P.underlying kt = some kd) (hk : KeyT kd fk) (hz : ∀ w, (zeroValue et).run P w = .ok (fv z) w)
    (hS : St M w0 w R O) (hmem : Own.mp b (kvs fk fv m) ∈ O) (hv : v = if ok then .tuple #[fv ((mget m x).getD z), .bool (mget m x).isSome] else fv ((mget m x).getD z)) (hK : Kn n a L) (hx : ev L mp = some (.map (some b))) (hy : ev L key = some (fk x)) :
    Runs P w a ⟨d, .lookup t mp key ok, ty', pos, af, g⟩ v := by
  obtain ⟨es, cl, hb, he⟩ := hS.own _ hmem
  exact r_lookup hm hd hk hz hb he.1 hv hK hx hy
theorem r_lookup_R {mp key : Operand} {t kt et : TypeId} {b : Nat} {m : List (κ × ν)} {x : κ} {z : ν} {ok : Bool} {v : Value} {RA : Hp} (hm : P.underlying t = some (.map kt et)) (hd : P.underlying kt = some kd) (hk : KeyT kd fk) (hz : ∀ w, (zeroValue et).run P w = .ok (fv z) w)
    (h : MpR RA b (kvs fk fv m)) (hA : RA.sub w) (hv : v = if ok then .tuple #[fv ((mget m x).getD z), .bool (mget m x).isSome] else fv ((mget m x).getD z)) (hK : Kn n a L) (hx : ev L mp = some (.map (some b))) (hy : ev L key = some (fk x)) :
    Runs P w a ⟨d, .lookup t mp key ok, ty', pos, af, g⟩ v := by
  obtain ⟨es, cl, hb, he⟩ := h
  exact r_lookup hm hd hk hz (hA _ _ hb) he.1 hv hK hx hy
theorem sl_makeMap {dd : Nat} {t : TypeId} (hS : St M w0 w R O) (hK : Kn n a L) (hd : dd < n.n) (hw : wantedL ops L ⟨some dd, .makeMap t none, ty', pos, af, g⟩ = some true)
    (h : ∀ a w b, St M w0 w R (.mp b [] :: O) → Kn n a ((dd, .map (some b)) :: L) → wpList P ops Q rest a w) : wpList P ops Q (⟨some dd, .makeMap t none, ty', pos, af, g⟩ :: rest) a w := by
  refine slw hK hd hw rfl (w' := w.alloc (.map #[] 0)) (v := .map (some w.heap.size)) ?_ fun a' hK' => h a' _ w.heap.size (hS.new (.mp w.heap.size []) (.map #[] 0) ⟨#[], 0, heap_alloc_new w _, rfl, by simp, by simp⟩ (fun k h => h.symm)) hK'
  simp [execOp, Instr.makeMap, Result.andThen]
omit [DecidableEq κ] in
theorem map_set {es : Array MapEntry} {m : List (κ × ν)} {j : Nat} {x : κ} {y : ν} {k' : Value} (he : entriesOf es = kvs fk fv m) (hk : k' = fk x) : entriesOf (es.modify j fun e => { e with key := k', val := fv y }) = kvs fk fv (m.set j (x, y)) := by
  subst hk
  apply List.ext_getElem?
  intro i
  have hi := congrArg (fun l => l[i]?) he
  simp only [entriesOf, kvs, List.getElem?_map, Array.getElem?_toList] at hi ⊢
  rw [Array.getElem?_modify, List.getElem?_set]
  by_cases hij : j = i
  · subst hij
    simp only [if_true]
    by_cases hl : j < m.length
    · rw [if_pos hl]
      rw [List.getElem?_eq_getElem hl] at hi
      cases hE : es[j]? with
      | none => rw [hE] at hi; simp at hi
      | some e => simp
    · rw [if_neg hl]
      rw [List.getElem?_eq_none (by omega)] at hi
      cases hE : es[j]? with
      | none => simp
      | some e => rw [hE] at hi; simp at hi
  · simp only [if_neg hij]
    exact hi
omit [DecidableEq κ] in
theorem born_modify {f : MapEntry → MapEntry} (hf : ∀ e, (f e).born = e.born) (es : Array MapEntry) (j : Nat) : (es.modify j f).toList.map (·.born) = es.toList.map (·.born) := by
  apply List.ext_getElem?
  intro i
  simp only [List.getElem?_map, Array.getElem?_toList]
  rw [Array.getElem?_modify]
  by_cases h : j = i
  · subst h; simp only [if_true]; cases es[j]? <;> simp [hf]
  · simp only [if_neg h]
theorem sl_mapUpdate {mp key val : Operand} {t kt et : TypeId} {b : Nat} {m : List (κ × ν)} {x : κ} {y : ν} (hm : P.underlying t = some (.map kt et)) (hd : P.underlying kt = some kd) (hk : KeyT kd fk)
    (hS : St M w0 w R (.mp b (kvs fk fv m) :: O)) (hK : Kn n a L) (hw : wantedL ops L ⟨none, .mapUpdate t mp key val, ty', pos, af, g⟩ = some true) (hx : ev L mp = some (.map (some b))) (hy : ev L key = some (fk x)) (hv : ev L val = some (fv y))
    (h : ∀ a w, St M w0 w R (.mp b (kvs fk fv (mset m x y)) :: O) → Kn n a L → wpList P ops Q rest a w) : wpList P ops Q (⟨none, .mapUpdate t mp key val, ty', pos, af, g⟩ :: rest) a w := by
  obtain ⟨es, cl, hb, he⟩ := hS.own _ (List.mem_cons_self ..)
  have hstep : ∀ o', (∃ es' cl', o' = .map es' cl' ∧ mapOk es' cl' (kvs fk fv (mset m x y))) → (execOp a.eval ⟨none, .mapUpdate t mp key val, ty', pos, af, g⟩).run P w = .ok .skip { w with heap := w.heap.setIfInBounds b o' } →
      wpList P ops Q (⟨none, .mapUpdate t mp key val, ty', pos, af, g⟩ :: rest) a w := by
    rintro o' ⟨es', cl', rfl, he'⟩ hr
    refine sls hK hw rfl hr fun a' hK' => h a' _ (hS.turn (w' := { w with heap := w.heap.setIfInBounds b (.map es' cl') }) (y := .mp b (kvs fk fv (mset m x y))) rfl rfl rfl (by simp) (Nat.le_refl _) (fun k _ hne => ?_) ⟨es', cl', (heap_set hb).1, he'⟩ (fun b' hb' => Or.inl hb')) hK'
    exact (heap_set hb).2 k (fun e => hne (by rw [e]; rfl))
  rcases find_kvs (fv := fv) hk x es.toList m 0 he.1 with ⟨h1, _, h2⟩ | ⟨j, z, e, h1, _, h2, h3, h4, h5⟩
  · refine hstep (.map (es.push { key := fk x, val := fv y, born := cl }) (cl + 1)) ⟨_, _, rfl, ?_, fun e' hm' => ?_, ?_⟩ ?_
    · rw [h2]
      have he := he.1
      simp only [entriesOf, kvs] at he ⊢
      simp [he]
    · rw [Array.toList_push] at hm'
      rcases List.mem_append.1 hm' with hm' | hm'
      · exact Nat.lt_succ_of_lt (he.2.1 e' hm')
      · rw [List.mem_singleton] at hm'; subst hm'; exact Nat.lt_succ_self _
    · rw [Array.toList_push, List.map_append, List.nodup_append]
      refine ⟨he.2.2, by simp, fun a' ha b' hb' => ?_⟩
      simp only [List.map_cons, List.map_nil, List.mem_singleton] at hb'
      subst hb'
      obtain ⟨e', hm', rfl⟩ := List.mem_map.1 ha
      exact Nat.ne_of_lt (he.2.1 e' hm')
    · simp [execOp, hK.ev hx, hK.ev hy, hK.ev hv, Instr.mapUpdate, run_underlying hm, MapKept.run_getObj_map hb, MapKept.run_checkKey hd (hk.isKey x), MapKept.run_findKey hd h1, MapKept.run_setObj_map _ hb, Result.andThen]
  · have hj : es[j]? = some e := by simpa using h2
    refine hstep (.map (es.modify j fun e => { e with key := fk x, val := fv y }) cl) ⟨_, _, rfl, ?_, fun e' hm' => ?_, ?_⟩ ?_
    · rw [h5]
      exact map_set he.1 rfl
    · obtain ⟨e2, h6, h7⟩ := List.mem_map.1 (by rw [← born_modify (f := fun e => { e with key := fk x, val := fv y }) (fun _ => rfl) es j]; exact List.mem_map.2 ⟨e', hm', rfl⟩ : e'.born ∈ es.toList.map (·.born))
      rw [← h7]; exact he.2.1 e2 h6
    · rw [born_modify (f := fun e => { e with key := fk x, val := fv y }) (fun _ => rfl)]; exact he.2.2
    · simp [execOp, hK.ev hx, hK.ev hy, hK.ev hv, Instr.mapUpdate, run_underlying hm, MapKept.run_getObj_map hb, MapKept.run_checkKey hd (hk.isKey x), MapKept.run_findKey hd h1, hj, h3, MapKept.run_keyThatStays (hk.isKey x), MapKept.run_setObj_map _ hb, Result.andThen]
theorem St.lend_map {b : Nat} {kv : List (Value × Value)} {N : List Own} (h : St M w0 w R (N ++ O)) (hmem : Own.mp b kv ∈ O) : MpR (lentOf N w) b kv := by
  obtain ⟨es, cl, hb, he⟩ := h.own _ (List.mem_append_right N hmem)
  exact ⟨es, cl, h.ownLent hmem rfl hb, he⟩
theorem St.lend_map0 {b : Nat} {kv : List (Value × Value)} (h : St M w0 w R O) (hmem : Own.mp b kv ∈ O) : MpR (lentOf [] w) b kv := St.lend_map (N := []) h hmem
theorem eq_mnil' {t kt et : TypeId} {b : Nat} (hu : P.underlying t = some (.map kt et)) (dd : Nat) : (Op.equalIn (dd + 1) t (.map (some b)) (.map none)).run P w = .ok false w := by
  simp [Op.equalIn, run_underlying hu]
theorem eq_mnil {t kt et : TypeId} {b : Nat} (hu : P.underlying t = some (.map kt et)) : (Op.equal t (.map (some b)) (.map none)).run P w = .ok false w := eq_mnil' hu 9999
theorem r_meq {t t' kt et : TypeId} {x y : Operand} {b : Nat} (hu : P.underlying t = some (.map kt et)) (hK : Kn n a L) (hx : ev L x = some (.map (some b))) (hy : ev L y = some (.map none)) : Runs P w a ⟨d, .binOp .eql t x y t', ty', pos, af, g⟩ (.bool false) := by
  simp [Runs, execOp, hK.ev hx, hK.ev hy, eqGuard, binOp, eq_mnil hu]
theorem r_mkifaceM {t kt et : TypeId} {x : Operand} {v : Value} (hu : P.underlying t = some (.map kt et)) (hK : Kn n a L) (hx : ev L x = some v) : Runs P w a ⟨d, .makeInterface t x, ty', pos, af, g⟩ (.iface t v) := by
  simp [Runs, execOp, hK.ev hx, Instr.makeInterface, run_underlying hu]
theorem r_tassertM {t xt kt et : TypeId} {x : Operand} {v : Value} (hu : P.underlying t = some (.map kt et)) (hK : Kn n a L) (hx : ev L x = some (.iface t v)) : Runs P w a ⟨d, .typeAssert x xt t false, ty', pos, af, g⟩ v := by
  simp [Runs, execOp, hK.ev hx, Instr.typeAssert, run_underlying hu]
theorem sl_mapsClone {dd f b t : Nat} {z x : Operand} {ts : Array TypeId} {kv : List (Value × Value)} {RA : Hp} {fn : Func} (hf : P.funcs[f]? = some fn) (hname : (fn.name == "runtime.NumGoroutine") = false) (hb : fn.body.isNone = true) (hn : Extern.findNext fn = none) (he : Extern.find fn = some Extern.MapsClone.clone)
    (hm : MpR RA b kv) (hA : RA.sub w) (hS : St M w0 w R O) (hK : Kn n a L) (hd : dd < n.n) (hw : wantedL ops L ⟨some dd, .call { callee := .value z, args := #[x], argTypes := ts }, ty', pos, af, g⟩ = some true) (hz : ev L z = some (.func (.func f) #[] #[])) (hx : ev L x = some (.iface t (.map (some b))))
    (h : ∀ a w b', St M w0 w R (.mp b' kv :: O) → Kn n a ((dd, .iface t (.map (some b'))) :: L) → wpList P ops Q rest a w) : wpList P ops Q (⟨some dd, .call { callee := .value z, args := #[x], argTypes := ts }, ty', pos, af, g⟩ :: rest) a w := by
  obtain ⟨es, cl, hb0, he0⟩ := hm
  have hr : (callFunc f #[.iface t (.map (some b))]).run P w = .ok (.value (.iface t (.map (some w.heap.size)))) (w.alloc (.map es cl)) := by
    rw [run_callFunc_extern hf hname hb hn he]
    have e : Extern.MapsClone.clone #[.iface t (.map (some b))] = (getObj b >>= fun o => match o with
      | .map entries clock => (newObj (.map entries clock) >>= fun n => pure (.iface t (.map (some n))))
      | _ => stuck "maps.clone: a map expected") := rfl
    rw [e]
    simp [MapKept.run_getObj_map (hA _ _ hb0), Result.andThen]
  refine slw hK hd hw rfl (w' := w.alloc (.map es cl)) (v := .iface t (.map (some w.heap.size))) ?_ fun a' hK' => h a' _ w.heap.size (hS.new (.mp w.heap.size kv) (.map es cl) ⟨es, cl, heap_alloc_new w _, he0⟩ (fun k h => h.symm)) hK'
  simp [execOp, resolve, hK.ev hz, hK.ev hx, Deferred.ofValue, invoke, hr]
end
section
variable {α : Type} {ty : Ty α}
variable {P : Program} {ops : Array Oper} {Q : Exit → Act → World → Prop} {a : Act} {w0 w : World} {M : List Own} {R : Hp} {O : List Own} {rest : List Oper} {n : Fr} {L : Sl}
variable {d : Option Tmp} {ty' : TypeId} {pos : String} {af : Array Edge} {g : Option (Nat × Bool)}
theorem made_many {zc : List Value} {z : Nat} (hz : zc.length = z) (hpos : 0 < z) : ∀ n, madeCells zc.toArray (n * z) = (List.replicate n zc).flatten.toArray := by
  intro n
  apply Array.ext
  · simp [madeCells, hz]
  · intro i h1 h2
    have hi : i < n * z := by simpa [madeCells] using h1
    have hm : i % z < zc.length := by rw [hz]; exact Nat.mod_lt _ hpos
    have e1 : (List.replicate n zc).flatten[i]? = zc[i % z]? := by
      clear h1 h2
      induction n generalizing i with
      | zero => simp at hi
      | succ n ih =>
        rw [List.replicate_succ, List.flatten_cons, List.getElem?_append]
        by_cases h : i < zc.length
        · rw [if_pos h, Nat.mod_eq_of_lt (by omega)]
        · rw [if_neg h, hz]
          have hle : z ≤ i := by omega
          rw [ih (i - z) (by rw [Nat.succ_mul] at hi; omega) (by rw [← Nat.mod_eq_sub_mod hle]; exact hm), ← Nat.mod_eq_sub_mod hle]
    have e2 : ((List.replicate n zc).flatten.toArray)[i]? = zc[i % z]? := by simpa using e1
    rw [Array.getElem?_eq_getElem h2, List.getElem?_eq_getElem hm] at e2
    have e3 := Option.some.inj e2
    rw [e3]
    have e4 : zc[i % z]? = some zc[i % z] := List.getElem?_eq_getElem hm
    simp [madeCells, hz, e4]
theorem Reps.replicateN {zc : List Value} {z : α} (h : ty.rep R zc z) : ∀ n, Reps ty R (List.replicate n zc).flatten (List.replicate n z)
  | 0 => Reps.nil _ _
  | n + 1 => by
    have := Reps.cons h (Reps.replicateN h n)
    simpa [List.replicate_succ] using this
theorem sl_makeN {dd : Nat} {t e bytes z : Nat} {x y : Operand} {k k2 : IntKind} {m : Int} {zv : Value} {zc : List Value} {x0 : α} {xs : List α} (hE : ElT P t e z bytes) (hB : 1 ≤ bytes) (hty : ty.n = z) (hZ : ∀ w, (zeroValue e).run P w = .ok zv w) (hzc : zv.cells = zc.toArray) (hrep : ty.rep R zc x0) (hm : mkS bytes m x0 = some xs)
    (hS : St M w0 w R O) (hK : Kn n a L) (hd : dd < n.n) (hw : wantedL ops L ⟨some dd, .makeSlice t x y, ty', pos, af, g⟩ = some true) (hx : ev L x = some (.int k m)) (hy : ev L y = some (.int k2 m))
    (h : ∀ a w v cs, Reps ty R cs xs → St M w0 w R (.row e z v xs.length cs :: O) → Kn n a ((dd, v) :: L) → wpList P ops Q rest a w) : wpList P ops Q (⟨some dd, .makeSlice t x y, ty', pos, af, g⟩ :: rest) a w := by
  obtain ⟨h0, hb, rfl⟩ := mkS_some hm
  obtain ⟨i, zz, hi, hz0, hsz, hby, hzs⟩ := hE.ex
  have hzz : zz = zv := by
    have := hZ w
    simp [zeroValue, typeInfo, hi, hz0] at this
    exact this
  subst hzz
  have hzl : zc.length = z := by rw [hzc] at hzs; simpa using hzs
  have hle : m.toNat ≤ 140737488355328 := Nat.le_trans (Nat.le_mul_of_pos_right _ hB) hb
  have hbi : (bytes : Int) * m ≤ 140737488355328 := by
    have e1 : ((m.toNat * bytes : Nat) : Int) = m * (bytes : Int) := by rw [Int.natCast_mul, Int.toNat_of_nonneg h0]
    have : ((m.toNat * bytes : Nat) : Int) ≤ 140737488355328 := Int.ofNat_le.2 hb
    rw [e1] at this; rw [Int.mul_comm]; exact this
  have hr := run_make (P := P) w t e i zz hE.und hi hz0 k k2 m m h0 (Int.le_refl _) (by rw [hby]; omega) (by omega)
  rw [hsz, hzc, made_many hzl hE.pos] at hr
  have hS1 : St M w0 (w.alloc (.cells (List.replicate m.toNat zc).flatten.toArray e)) R (.row e z (.slice (some ⟨w.heap.size, 0, none⟩) m.toNat m.toNat) m.toNat (List.replicate m.toNat zc).flatten :: O) := (hS.alloc (List.replicate m.toNat zc).flatten e).row_lit (by simp [hzl]) hle
  refine slw hK hd hw rfl (v := .slice (some ⟨w.heap.size, 0, none⟩) m.toNat m.toNat) (w' := w.alloc (.cells (List.replicate m.toNat zc).flatten.toArray e)) ?_ fun a' hK' => h a' _ _ _ (Reps.replicateN hrep _) (by rw [List.length_replicate]; exact hS1) hK'
  simp only [execOp, hK.ev hx, hK.ev hy]
  simp [hr]
def cpy {α : Type} (xs ys : List α) : List α := ys.take (min ys.length xs.length) ++ xs.drop (min ys.length xs.length)
theorem cpy_length {xs ys : List α} : (cpy xs ys).length = xs.length := by simp [cpy]; omega
theorem copy_nil {t e z : TypeId} {ad : Option Addr} {m' c' : Nat} (hu : P.underlying t = some (.slice e)) (hz : ∀ w, (sizeOf e).run P w = .ok z w) (tt : TypeId) :
    (Builtin.copy_ #[t, t] tt #[.slice none 0 0, .slice ad m' c']).run P w = .ok (.int .i64 0) w := by
  cases ad <;> simp [Builtin.copy_, run_underlying hu, Builtin.lenOf, Builtin.firstCells, hz, goInt, storeCells, loadCells, loadCellsFrom]
theorem sl_copy_row {dd : Nat} {x y : Operand} {t e z bytes m : Nat} {cs : List Value} {xs ys : List α} {v u : Value} {RS : Hp} (hE : ElT P t e z bytes) (hty : ty.n = z) (hA : RS.sub w) (hds : ∀ ds, Reps ty RS ds ys → Reps ty R ds ys) (hs : SlR ty RS u ys) (hcs : Reps ty R cs xs) (hm : m = xs.length)
    (hS : St M w0 w R (.row e z v m cs :: O)) (hK : Kn n a L) (hd : dd < n.n) (hw : wantedL ops L ⟨some dd, .call { callee := .builtin .copy, args := #[x, y], argTypes := #[t, t] }, ty', pos, af, g⟩ = some true)
    (hx : ev L x = some v) (hy : ev L y = some u)
    (h : ∀ a w cs', Reps ty R cs' (cpy xs ys) → St M w0 w R (.row e z v (cpy xs ys).length cs' :: O) → Kn n a ((dd, .int .i64 (min (ys.length : Int) (xs.length : Int))) :: L) → wpList P ops Q rest a w) :
    wpList P ops Q (⟨some dd, .call { callee := .builtin .copy, args := #[x, y], argTypes := #[t, t] }, ty', pos, af, g⟩ :: rest) a w := by
  subst hm; subst hty
  obtain ⟨i, zz, hi, hz0, hsz, hby, hzs⟩ := hE.ex
  have hz : ∀ w, (sizeOf e).run P w = .ok ty.n w := fun w => by simp [sizeOf, typeInfo, hi, hsz]
  obtain ⟨ad, cap, ds, rfl, _, hd0, hsrc⟩ := hs.cells
  have hdR := hds ds hd0
  have hmin : (min (ys.length : Int) (xs.length : Int)) = ((min ys.length xs.length : Nat) : Int) := by omega
  rw [hmin] at h
  rcases hS.row_raw with ⟨h1, h2, h3⟩ | ⟨b, c, cur, h1, h2, h3, h4, h5, hS1⟩
  · have hx0 : xs = [] := List.eq_nil_of_length_eq_zero h2
    subst hx0; subst h1; subst h3
    have e0 : cpy ([] : List α) ys = [] := by simp [cpy]
    rw [e0] at h
    refine slw hK hd hw rfl (copy_op hK hx hy (copy_nil hE.und hz ty')) fun a' hK' => h a' w [] (Reps.nil _ _) hS ?_
    simpa using hK'
  · subst h1
    have hk := Nat.min_le_right ys.length xs.length
    have hk' := Nat.min_le_left ys.length xs.length
    generalize hkk : min ys.length xs.length = k at *
    have hdl : ds.length = ys.length * ty.n := hdR.length
    have hcl : cs.length = xs.length * ty.n := hcs.length
    have m1 := Nat.mul_le_mul_right ty.n hk
    have m2 := Nat.mul_le_mul_right ty.n hk'
    have m3 := Nat.mul_le_mul_right ty.n h2
    have hnl : (ds.take (k * ty.n)).length = k * ty.n := by rw [List.length_take]; omega
    obtain ⟨w', hr, hS2⟩ := copy_run (tt := ty') (m := xs.length) (c := c) (m' := ys.length) (c' := cap) (k := k) (o := 0) (news := ds.take (k * ty.n)) (ad := ad) hE.und hz hS1 hkk hnl (fun u hu => hdR.one u (List.mem_of_mem_take hu)) (by omega) (fun h0 => by
      obtain ⟨b', o', g1, g2⟩ := hsrc (by intro e; subst e; simp at hk'; omega)
      refine ⟨b', o', g1, fun j u hu => hA.cell (g2 j u ?_)⟩
      rw [List.getElem?_take] at hu
      split at hu
      · exact hu
      · cases hu)
    have hS3 := hS2.raw_row (z := ty.n) (m := xs.length) (cap := c) h2 h3 (by simp only [List.take_zero, List.nil_append, Nat.zero_add, List.length_append, List.length_drop, hnl]; omega)
    have hcells : (cur.take 0 ++ ds.take (k * ty.n) ++ cur.drop (0 + (ds.take (k * ty.n)).length)).take (xs.length * ty.n) = ds.take (k * ty.n) ++ cs.drop (k * ty.n) := by
      rw [hnl, List.take_zero, List.nil_append, Nat.zero_add, List.take_append, List.take_of_length_le (by omega), hnl, ← h5, List.drop_take]
    rw [hcells] at hS3
    have hrep : Reps ty R (ds.take (k * ty.n) ++ cs.drop (k * ty.n)) (cpy xs ys) := by
      unfold cpy
      rw [hkk]
      exact (hdR.split k).1.append (hcs.split k).2
    refine slw hK hd hw rfl (copy_op hK hx hy hr) fun a' hK' => h a' w' _ hrep ?_ hK'
    rw [cpy_length]
    exact hS3
end
theorem run_storeCells_atM (P : Program) (g o : Nat) (t : TypeId) (fz : Nat × Nat) : ∀ (vs : List Value) (i : Nat) (cur : Array Value) (w : World), w.heap[g]? = some (.cells cur t fz) → (∀ k, k < cur.size → ¬ (fz.1 ≤ k ∧ k < fz.2)) → o + i + vs.length ≤ cur.size → (∀ v ∈ vs, v.oneCell' = true) →
    (storeCells ⟨g, o, none⟩ vs i).run P w = .ok () (w.setRow g (cur.toList.take (o + i) ++ vs ++ cur.toList.drop (o + i + vs.length)).toArray)
  | [], i, cur, w, hg, _, _, _ => by
    simp only [storeCells, List.append_nil, List.length_nil, Nat.add_zero, List.take_append_drop, Array.toArray_toList]
    rw [setRow_self w g cur t fz hg]
    rfl
  | v :: rest, i, cur, w, hg, hfz, hl, h1 => by
    have hi : o + i < cur.size := by simp at hl; omega
    have hadd : (⟨g, o, none⟩ : Addr).add i = ⟨g, o + i, none⟩ := by unfold Addr.add; split <;> simp_all
    have hcell : w.cell? ⟨g, o + i, none⟩ = some cur[o + i] := by simp [World.cell?, hg, hi]
    have hfro : w.frozen? ⟨g, o + i, none⟩ = false := by
      have := hfz (o + i) hi
      obtain ⟨lo, hi'⟩ := fz
      simp only [World.frozen?, hg, Bool.and_eq_false_iff, decide_eq_false_iff_not]
      simp only at this
      omega
    have hst : (store ((⟨g, o, none⟩ : Addr).add i) v).run P w = .ok () (w.setRow g (cur.setIfInBounds (o + i) v)) := by
      rw [hadd, run_store P w _ v _ (h1 v (by simp)), hcell]
      simp [hfro, setCell_eq_setRow w g (o + i) cur t fz v hg]
    have ih := run_storeCells_atM P g o t fz rest (i + 1) (cur.setIfInBounds (o + i) v) (w.setRow g (cur.setIfInBounds (o + i) v)) (setRow_heap w g cur _ t _ hg) (fun k hk => hfz k (by simpa using hk)) (by simp at hl ⊢; omega) (fun x hx => h1 x (by simp [hx]))
    simp only [storeCells, Sem.run_bind, hst, Result.andThen_ok, ih, setRow_setRow]
    congr 3
    have e := list_seg_step cur.toList (o + i) v rest (by simp at hl ⊢; omega)
    simpa [Array.toList_setIfInBounds, Nat.add_assoc] using e
section
variable {α : Type} {ty : Ty α}
variable {P : Program} {ops : Array Oper} {Q : Exit → Act → World → Prop} {a : Act} {w0 w : World} {M : List Own} {R : Hp} {O : List Own} {rest : List Oper} {n : Fr} {L : Sl}
variable {d : Option Tmp} {ty' : TypeId} {pos : String} {af : Array Edge} {g : Option (Nat × Bool)}
theorem run_appendM {t e size bytes tt : Nat} {v : Value} {m k c : Nat} {cs news : List Value} {ad : Option Addr} (hE : ElT P t e size bytes) (hB : 1 ≤ bytes)
    (hS : St M w0 w R (.rowM e size v m cs :: O)) (hl : news.length = k * size) (h1 : ∀ u ∈ news, u.oneCell' = true) (hb : (m + k) * bytes ≤ 140737488355328)
    (hsrc : k ≠ 0 → ∃ b o, ad = some ⟨b, o, none⟩ ∧ ∀ j u, news[j]? = some u → w.cell? ⟨b, o + j, none⟩ = some u) :
    ∃ v' w', (Builtin.append_ #[t, t] tt #[v, .slice ad k c]).run P w = .ok v' w' ∧ St M w0 w' R (.rowM e size v' (m + k) (cs ++ news) :: O) := by
  obtain ⟨i, z, hi, hz0, hsz, hby, hzs⟩ := hE.ex
  have hown : ownsM w e size v m cs := hS.own (.rowM e size v m cs) (List.mem_cons_self ..)
  obtain ⟨hcl, b0, cap, cur, fz, rfl, hg, hfz, hnc, hcm, hcs, htake⟩ := hown
  by_cases hk : k = 0
  · subst hk
    have : news = [] := List.eq_nil_of_length_eq_zero (by simpa using hl)
    subst this
    refine ⟨_, w, append_none (size := size) hE.und (fun w => by simp [sizeOf, typeInfo, hi, hsz]) tt hnc, ?_⟩
    simpa using hS
  · obtain ⟨b, o, rfl, hcell⟩ := hsrc hk
    have hpos := hE.pos
    subst hsz; subst hby
    have hle : m + k ≤ 140737488355328 := Nat.le_trans (Nat.le_mul_of_pos_right _ hB) hb
    have hlen : (cs ++ news).length = (m + k) * i.size := by rw [List.length_append, hcl, hl, Nat.add_mul]
    have hnews : ∀ j u, news[j]? = some u → w.cell? ((⟨b, o, none⟩ : Addr).add j) = some u := fun j u hu => by rw [add_lit]; exact hcell j u hu
    by_cases hroom : m + k ≤ cap
    · have hfit : m * i.size + news.length ≤ cur.size := by rw [hl, hcs, ← Nat.add_mul]; exact Nat.mul_le_mul_right _ hroom
      have hf := run_firstCells_some (P := P) w i.size k ⟨b, o, none⟩ k c news hl hnews
      have hst := run_storeCells_atM P b0 (m * i.size) e fz news 0 cur w hg hfz (by simpa using hfit) h1
      simp only [Nat.add_zero] at hst
      have hr : (Builtin.append_ #[t, t] tt #[.slice (some ⟨b0, 0, none⟩) m cap, .slice (some ⟨b, o, none⟩) k c]).run P w =
          .ok (.slice (some ⟨b0, 0, none⟩) (m + k) cap) (w.setRow b0 (cur.toList.take (m * i.size) ++ news ++ cur.toList.drop (m * i.size + news.length)).toArray) := by
        simp [Builtin.append_, run_underlying hE.und, sizeOf, typeInfo, hi, Builtin.lenOf, hroom, hf, Addr.add_lit, hst]
      refine ⟨_, _, hr, hS.turn rfl rfl rfl (by simp [World.setRow]) (Nat.le_refl _) (fun j hj hne => setRow_other w b0 j _ (fun e => hne (by simp [Own.blk, Value.ownBlock, e]))) ⟨hlen, b0, cap, _, fz, rfl, setRow_heap w b0 cur _ e _ hg, fun j hj => hfz j ?_, hroom, hcm, ?_, ?_⟩ (fun b' hb' => Or.inl hb')⟩
      · simp only [List.size_toArray, List.length_append, List.length_take, List.length_drop, Array.length_toList] at hj
        omega
      · simp only [List.size_toArray, List.length_append, List.length_take, List.length_drop, Array.length_toList]
        omega
      · rw [htake, ← hlen]
        exact List.take_left
    · have holds : ∀ j u, cs[j]? = some u → w.cell? ((⟨b0, 0, none⟩ : Addr).add j) = some u := fun j u hu => by
        rw [add_lit, Nat.zero_add, cell_of_row w b0 j cur e fz hg]
        rw [← htake, List.getElem?_take] at hu
        split at hu
        · simpa using hu
        · cases hu
      have hr := run_append_grow (P := P) w t tt e i z hE.und hi hz0 ⟨b0, 0, none⟩ m cap cs hcl holds ⟨b, o, none⟩ k c news hl hnews (by omega) (by omega) (growslice_fits (by omega) hb)
      have hge := grownCap_ge w (m + k) cap e
      have hcm' : grownCap w (m + k) cap e ≤ maxLen := grownCap_le_maxLen w (m + k) cap e (by simp only [maxLen]; omega)
      refine ⟨_, _, hr, hS.turn rfl rfl rfl (by simp) (Nat.le_succ _) (fun j hj _ => Below.heap_alloc w.drew _ _ hj) ⟨hlen, w.heap.size, _, _, (0, 0), rfl, heap_alloc_new w.drew _, fun j hj h => by omega, hge, hcm', ?_, ?_⟩ (fun b' hb' => Or.inr (by simp [Own.blk, Value.ownBlock] at hb'; omega))⟩
      · simp only [Array.size_append, List.size_toArray, size_zeroCells, hzs, hcl, hl, ← Nat.add_mul]
        congr 1
        omega
      · simp only [Array.toList_append, List.append_assoc]
        rw [← List.append_assoc, ← hlen]
        exact List.take_left
theorem sl_append_MR {dd : Nat} {s x : Operand} {t e size bytes : Nat} {v u : Value} {m : Nat} {cs : List Value} {xs ys zs : List α} (hE : ElT P t e size bytes) (hB : 1 ≤ bytes) (hty : ty.n = size) (hcs : Reps ty R cs xs) (hm : m = xs.length) (hu : SlR ty R u ys) (hz : apd bytes xs ys = some zs)
    (hS : St M w0 w R (.rowM e size v m cs :: O)) (hK : Kn n a L) (hd : dd < n.n) (hw : wantedL ops L ⟨some dd, .call { callee := .builtin .append, args := #[s, x], argTypes := #[t, t] }, ty', pos, af, g⟩ = some true) (hs : ev L s = some v) (hx : ev L x = some u)
    (h : ∀ a w v' cs', Reps ty R cs' zs → St M w0 w R (.rowM e size v' zs.length cs' :: O) → Kn n a ((dd, v') :: L) → wpList P ops Q rest a w) :
    wpList P ops Q (⟨some dd, .call { callee := .builtin .append, args := #[s, x], argTypes := #[t, t] }, ty', pos, af, g⟩ :: rest) a w := by
  subst hm; subst hty
  obtain ⟨hb, hzs⟩ := apd_some hz
  obtain ⟨ad, cap, ds, rfl, _, hds, hsrc⟩ := hu.cells
  obtain ⟨v', w', hr, hS'⟩ := run_appendM (tt := ty') (c := cap) (news := ds) (ad := ad) hE hB hS hds.length hds.one hb (fun hk => by
    obtain ⟨b, o, h1, h2⟩ := hsrc (by intro e; subst e; exact hk rfl)
    exact ⟨b, o, h1, fun j u hu => hS.rcell (h2 j u hu)⟩)
  refine slw hK hd hw rfl (append_op hK hs hx hr) fun a' hK' => h a' w' v' (cs ++ ds) (by rw [hzs]; exact hcs.append hds) ?_ hK'
  rw [hzs, List.length_append]
  exact hS'
theorem sl_append_ML {dd : Nat} {s x : Operand} {t e size bytes : Nat} {v : Value} {m k b : Nat} {t' : TypeId} {cs ds : List Value} {xs ys zs : List α} (hE : ElT P t e size bytes) (hB : 1 ≤ bytes) (hty : ty.n = size) (hcs : Reps ty R cs xs) (hm : m = xs.length) (hds : Reps ty R ds ys) (hk : k = ys.length) (hz : apd bytes xs ys = some zs)
    (hS : St M w0 w R (.rowM e size v m cs :: .cells b ds t' :: O)) (hK : Kn n a L) (hd : dd < n.n) (hw : wantedL ops L ⟨some dd, .call { callee := .builtin .append, args := #[s, x], argTypes := #[t, t] }, ty', pos, af, g⟩ = some true) (hs : ev L s = some v) (hx : ev L x = some (.slice (some ⟨b, 0, none⟩) k k))
    (h : ∀ a w v' cs', Reps ty R cs' zs → St M w0 w R (.rowM e size v' zs.length cs' :: O) → Kn n a ((dd, v') :: L) → wpList P ops Q rest a w) :
    wpList P ops Q (⟨some dd, .call { callee := .builtin .append, args := #[s, x], argTypes := #[t, t] }, ty', pos, af, g⟩ :: rest) a w := by
  subst hm; subst hty; subst hk
  obtain ⟨hb, hzs⟩ := apd_some hz
  obtain ⟨v', w', hr, hS'⟩ := run_appendM (tt := ty') (c := ys.length) (news := ds) (ad := some ⟨b, 0, none⟩) hE hB hS hds.length hds.one hb (fun hk => ⟨b, 0, rfl, fun j u hu => by
    rw [Nat.zero_add]; exact hS.cell (.tail _ (.head _)) hu⟩)
  refine slw hK hd hw rfl (append_op hK hs hx hr) fun a' hK' => h a' w' v' (cs ++ ds) (by rw [hzs]; exact hcs.append hds) ?_ hK'
  rw [hzs, List.length_append]
  exact hS'.drop1
theorem bytesRow_take (s : ByteArray) (cap : Nat) : (bytesRow s cap).toList.take (s.size * 1) = Lib.strCells s := by
  have e : (s.data.map (fun b => Value.int .u8 b.toNat)).toList = Lib.strCells s := by simp [Lib.strCells]
  have hl : (Lib.strCells s).length = s.size * 1 := by rw [Lib.strCells_length, Nat.mul_one]
  rw [bytesRow, Array.toList_append, e, ← hl, List.take_left]
theorem sl_conv_sbM {dd src dst e : Nat} {x : Operand} {ty' : TypeId} {s : ByteArray} (hs : P.underlying src = some .string) (hd' : P.underlying dst = some (.slice e)) (he : P.underlying e = some (.int .u8)) (hsz : (sbytes s).length * 1 ≤ 140737488355328) (hS : St M w0 w R O) (hK : Kn n a L) (hd : dd < n.n)
    (hw : wantedL ops L ⟨some dd, .convert src dst x, ty', pos, af, g⟩ = some true) (hx : ev L x = some (.string s))
    (h : ∀ a w v cs, Reps (tyInt .u8) R cs (sbytes s) → St M w0 w R (.rowM e 1 v (sbytes s).length cs :: O) → Kn n a ((dd, v) :: L) → wpList P ops Q rest a w) : wpList P ops Q (⟨some dd, .convert src dst x, ty', pos, af, g⟩ :: rest) a w := by
  have hr := run_bytes_of_string (P := P) w src dst e s hs hd' he
  have hlen : (sbytes s).length = s.size := by simp [sbytes]
  have hge := grownCap_ge w s.size 0 e
  have h0 := (hS.drew (w.drawn + 1) (Nat.le_succ _)).new (.rowM e 1 (.slice (some ⟨w.heap.size, 0, none⟩) s.size (grownCap w s.size 0 e)) (sbytes s).length (Lib.strCells s)) (.cells (bytesRow s (grownCap w s.size 0 e)) e ((bytesRow s (grownCap w s.size 0 e)).size, (bytesRow s (grownCap w s.size 0 e)).size + 1)) ⟨by rw [Lib.strCells_length, hlen, Nat.mul_one], w.heap.size, _, _, _, by rw [hlen], heap_alloc_new w.drew _, fun i hi h => by simp only at h; omega, by rw [hlen]; exact hge, grownCap_le_maxLen w _ 0 e (by simp only [maxLen]; omega), by
      have : s.data.size = s.size := rfl
      simp [bytesRow, this]; omega, by rw [hlen]; exact bytesRow_take s _⟩ (fun k h => (Option.some.inj h).symm)
  exact slw hK hd hw rfl (by simp [execOp, hK.ev hx, hr]) fun a' hK' => h a' _ _ _ (reps_str s) h0 hK'
theorem r_conv_bM {s t e : TypeId} {x : Operand} {v : Value} {xs : List Int} {et m : Nat} {cs : List Value} (hs : P.underlying s = some (.slice e)) (ht : P.underlying t = some .string) (he : P.underlying e = some (.int .u8)) (hcs : Reps (tyInt .u8) R cs xs) (hm : m = xs.length) (hS : St M w0 w R O) (hmem : Own.rowM et 1 v m cs ∈ O) (hK : Kn n a L) (hx : ev L x = some v) : Runs P w a ⟨d, .convert s t x, ty', pos, af, g⟩ (.string (bstr xs)) := by
  have := reps_u8 hcs
  subst this; subst hm
  obtain ⟨h1, b, cap, cur, fz, rfl, hg, _, hnc, _, hcz, htake⟩ := hS.own _ hmem
  refine r_conv_cells hs ht he rfl (fun hne => ⟨b, 0, rfl, fun j u hu => ?_⟩) hK hx
  rw [Nat.zero_add, cell_of_row w b j cur et fz hg]
  rw [← htake, List.getElem?_take] at hu
  split at hu
  · simpa using hu
  · cases hu
end
end Go.Eng
end
section
namespace Go.Eng
open Go.RowKit Go.MapKept
set_option linter.unusedVariables false
set_option linter.unusedSimpArgs false
section
variable {α : Type} {ty : Ty α}
variable {P : Program} {ops : Array Oper} {Q : Exit → Act → World → Prop} {a : Act} {w0 w : World} {M : List Own} {R : Hp} {O : List Own} {rest : List Oper} {n : Fr} {L : Sl}
variable {d : Option Tmp} {ty' : TypeId} {pos : String} {af : Array Edge} {g : Option (Nat × Bool)}
end
structure MRow (κ : Type) where
  k : κ
  v : Value
  n : Nat
  cs : List Value
section
variable {κ α : Type} [DecidableEq κ] {ty : Ty α} {fk : κ → Value}
def mkp (E : List (MRow κ)) : List (κ × Value) := E.map fun e => (e.k, e.v)
inductive MRel (ty : Ty α) (R : Hp) : List (MRow κ) → List (κ × List α) → Prop
  | nil : MRel ty R [] []
  | cons {e : MRow κ} {E : List (MRow κ)} {p : κ × List α} {m : List (κ × List α)} (h1 : e.k = p.1) (h2 : e.n = p.2.length) (h3 : Reps ty R e.cs p.2) (h : MRel ty R E m) : MRel ty R (e :: E) (p :: m)
omit [DecidableEq κ] in
theorem MRel.mono {R R' : Hp} {E : List (MRow κ)} {m : List (κ × List α)} (h : MRel ty R E m) (hR : R.le R') : MRel ty R' E m := by
  induction h with
  | nil => exact .nil
  | cons h1 h2 h3 _ ih => exact .cons h1 h2 (h3.mono hR) ih
def rset : List (MRow κ) → MRow κ → List (MRow κ)
  | [], x => [x]
  | e :: E, x => if e.k = x.k then x :: E else e :: rset E x
def mhd (E : List (MRow κ)) (k : κ) : Value := (mget (mkp E) k).getD (.slice none 0 0)
theorem MRel.set {R : Hp} {E : List (MRow κ)} {m : List (κ × List α)} (h : MRel ty R E m) {x : MRow κ} {ys : List α} (hn : x.n = ys.length) (hr : Reps ty R x.cs ys) : MRel ty R (rset E x) (mset m x.k ys) := by
  induction h with
  | nil => exact .cons rfl hn hr .nil
  | cons h1 h2 h3 h ih =>
    simp only [rset, mset]
    rename_i e E p m
    by_cases hk : e.k = x.k
    · rw [if_pos hk, if_pos (h1 ▸ hk)]
      exact .cons rfl hn hr h
    · rw [if_neg hk, if_neg (h1 ▸ hk)]
      exact .cons h1 h2 h3 ih
end
section
variable {κ α : Type} [DecidableEq κ] {ty : Ty α} {fk : κ → Value} {kd : TypeDesc}
variable {P : Program} {ops : Array Oper} {Q : Exit → Act → World → Prop} {a : Act} {w0 w : World} {M : List Own} {R : Hp} {O : List Own} {rest : List Oper} {n : Fr} {L : Sl}
variable {d : Option Tmp} {ty' : TypeId} {pos : String} {af : Array Edge} {g : Option (Nat × Bool)}
def MRd (ty : Ty α) (R : Hp) (E : List (MRow κ)) (m : List (κ × List α)) : Prop := ∀ k, SlR ty R (mhd E k) ((mget m k).getD [])
theorem MRd.mono {R R' : Hp} {E : List (MRow κ)} {m : List (κ × List α)} (h : MRd ty R E m) (hR : R.le R') : MRd ty R' E m := fun k => (h k).mono hR
end
end Go.Eng
end
section
namespace Go.Eng
open Go.RowKit
set_option linter.unusedVariables false
set_option linter.unusedSimpArgs false
structure RowE where
  v : Value
  n : Nat
  cs : List Value
def hds (E : List RowE) : List Value := E.map (·.v)
theorem SlB.ix {α : Type} {ty : Ty α} {RA R : Hp} {v : Value} {xs : List α} (h : SlB ty RA R v xs) {i : Int} {x : α} (hx : Eng.ix xs i = some x) :
    ∃ b o c cs, v = .slice (some ⟨b, o, none⟩) xs.length c ∧ ty.rep R cs x ∧ (∀ j u, cs[j]? = some u → RA.cell b (o + i.toNat * ty.n + j) = some u) ∧ 0 ≤ i ∧ i < (xs.length : Int) := by
  obtain ⟨h0, h1, h2⟩ := ix_some hx
  obtain ⟨ad, cap, cs, e, _, hr, h3⟩ := h
  have hne : xs ≠ [] := by intro e; subst e; simp at h2
  obtain ⟨b, o, h4, h5⟩ := h3 hne
  obtain ⟨c, h6, h7⟩ := hr.get h2
  refine ⟨b, o, cap, c, by rw [e, h4], h6, fun j u hu => ?_, h0, h1⟩
  have := h5 (i.toNat * ty.n + j) u (h7 j u hu)
  rwa [← Nat.add_assoc] at this
section
variable {α : Type} {ty : Ty α}
inductive ORel (ty : Ty α) (R : Hp) : List RowE → List (List α) → Prop
  | nil : ORel ty R [] []
  | cons {e : RowE} {E : List RowE} {xs : List α} {m : List (List α)} (h2 : e.n = xs.length) (h3 : Reps ty R e.cs xs) (h : ORel ty R E m) : ORel ty R (e :: E) (xs :: m)
theorem ORel.mono {R R' : Hp} {E : List RowE} {m : List (List α)} (h : ORel ty R E m) (hR : R.le R') : ORel ty R' E m := by
  induction h with
  | nil => exact .nil
  | cons h2 h3 _ ih => exact .cons h2 (h3.mono hR) ih
theorem ORel.len {R : Hp} {E : List RowE} {m : List (List α)} (h : ORel ty R E m) : E.length = m.length := by
  induction h with
  | nil => rfl
  | cons _ _ _ ih => simp [ih]
theorem ORel.get {R : Hp} {E : List RowE} {m : List (List α)} (h : ORel ty R E m) : ∀ {k : Nat} {xs : List α}, m[k]? = some xs → ∃ e, E[k]? = some e ∧ e.n = xs.length ∧ Reps ty R e.cs xs := by
  induction h with
  | nil => intro k xs h; simp at h
  | cons h2 h3 _ ih =>
    intro k xs hk
    cases k with
    | zero =>
      simp only [List.getElem?_cons_zero, Option.some.injEq] at hk
      subst hk
      exact ⟨_, rfl, h2, h3⟩
    | succ k => simpa using ih (by simpa using hk)
theorem ORel.set {R : Hp} {E : List RowE} {m : List (List α)} (h : ORel ty R E m) {x : RowE} {ys : List α} (hn : x.n = ys.length) (hr : Reps ty R x.cs ys) : ∀ k : Nat, ORel ty R (E.set k x) (m.set k ys) := by
  induction h with
  | nil => intro k; exact .nil
  | cons h2 h3 h ih =>
    intro k
    cases k with
    | zero => exact .cons hn hr h
    | succ k => exact .cons h2 h3 (ih k)
theorem ORel.app {R : Hp} {E : List RowE} {m : List (List α)} (h : ORel ty R E m) {x : RowE} {ys : List α} (hn : x.n = ys.length) (hr : Reps ty R x.cs ys) : ORel ty R (E ++ [x]) (m ++ [ys]) := by
  induction h with
  | nil => exact .cons hn hr .nil
  | cons h2 h3 h ih => exact .cons h2 h3 ih
variable {P : Program} {ops : Array Oper} {Q : Exit → Act → World → Prop} {a : Act} {w0 w : World} {M : List Own} {R : Hp} {O : List Own} {rest : List Oper} {n : Fr} {L : Sl}
variable {d : Option Tmp} {ty' : TypeId} {pos : String} {af : Array Edge} {g : Option (Nat × Bool)}
end
end Go.Eng
end
section
namespace Go.Eng
open Go.RowKit
set_option linter.unusedVariables false
abbrev I6 (x : Int) : Value := .int .i64 x
section
variable {P : Program} {ops : Array Oper} {Q : Exit → Act → World → Prop} {C : World → Prop} {a : Act} {w : World} {rest : List Oper} {n : Fr} {L : Sl} {o : Oper}
theorem zl {d : Nat} {op : Op} {ty : TypeId} {pos : String} {af : Array Edge} {g : Option (Nat × Bool)} {v : Value} (hK : Kn n a L) (hr : Runs P w a ⟨some d, op, ty, pos, af, g⟩ v) (h : ∀ a, Kn n a ((d, v) :: L) → wpList P ops Q rest a w)
    (hd : d < n.n := by decide) (hw : wantedL ops L ⟨some d, op, ty, pos, af, g⟩ = some true := by exact rfl) : wpList P ops Q (⟨some d, op, ty, pos, af, g⟩ :: rest) a w := sl hK hd hw rfl hr h
theorem zw {d : Nat} {op : Op} {ty : TypeId} {pos : String} {af : Array Edge} {g : Option (Nat × Bool)} {v : Value} (hK : Kn n a L) (hw : wantedL ops L ⟨some d, op, ty, pos, af, g⟩ = some true) (hr : Runs P w a ⟨some d, op, ty, pos, af, g⟩ v) (h : ∀ a, Kn n a ((d, v) :: L) → wpList P ops Q rest a w)
    (hd : d < n.n := by decide) : wpList P ops Q (⟨some d, op, ty, pos, af, g⟩ :: rest) a w := sl hK hd hw rfl hr h
theorem zm {d : Nat} {v : Value} {x : Operand} {ty : TypeId} {pos : String} {af : Array Edge} {g : Option (Nat × Bool)} (hK : Kn n a L) (hx : ev L x = some v) (h : ∀ a, Kn n a ((d, v) :: L) → wpList P ops Q rest a w)
    (hd : d < n.n := by decide) (hw : wantedL ops L ⟨some d, .move x, ty, pos, af, g⟩ = some true := by exact rfl) : wpList P ops Q (⟨some d, .move x, ty, pos, af, g⟩ :: rest) a w := sl hK hd hw rfl (r_move hK hx) h
theorem za {d : Nat} {v : Value} {x : Operand} {ty : TypeId} {pos : String} {af : Array Edge} {g : Option (Nat × Bool)} (hK : Kn n a L) (hx : ev L x = some v) (h : ∀ a, Kn n a ((d, v) :: L) → wpList P ops Q rest a w)
    (hd : d < n.n := by decide) (hw : wantedL ops L ⟨some d, .assign x, ty, pos, af, g⟩ = some true := by exact rfl) : wpList P ops Q (⟨some d, .assign x, ty, pos, af, g⟩ :: rest) a w := sl hK hd hw rfl (r_assign hK hx) h
theorem zs {d : Nat} {op : Op} {ty : TypeId} {pos : String} {af : Array Edge} {g : Option (Nat × Bool)} (hK : Kn n a L) (h : ∀ a, Kn n a ((d, undef) :: L) → wpList P ops Q rest a w)
    (hd : d < n.n := by decide) (hw : wantedL ops L ⟨some d, op, ty, pos, af, g⟩ = some false := by exact rfl) : wpList P ops Q (⟨some d, op, ty, pos, af, g⟩ :: rest) a w := sl_skip hK hd hw rfl h
theorem zsw {d : Nat} {op : Op} {ty : TypeId} {pos : String} {af : Array Edge} {g : Option (Nat × Bool)} (hK : Kn n a L) (hw : wantedL ops L ⟨some d, op, ty, pos, af, g⟩ = some false) (h : ∀ a, Kn n a ((d, undef) :: L) → wpList P ops Q rest a w)
    (hd : d < n.n := by decide) : wpList P ops Q (⟨some d, op, ty, pos, af, g⟩ :: rest) a w := sl_skip hK hd hw rfl h
theorem zp {k : Nat} {r : List (Nat × Bool)} {d : Nat} {op : Op} {ty : TypeId} {pos : String} {af : Array Edge} {g : Option (Nat × Bool)} {v : Value} (ho : ops[k]? = some ⟨some d, op, ty, pos, af, g⟩) (hK : Kn n a L) (hr : ∀ w, C w → Runs P w a ⟨some d, op, ty, pos, af, g⟩ v) (h : ∀ a, Kn n a ((d, v) :: L) → wpPar P ops C Q r a w)
    (hd : d < n.n := by decide) (hw : wantedL ops L ⟨some d, op, ty, pos, af, g⟩ = some true := by exact rfl) : wpPar P ops C Q ((k, true) :: r) a w := sp ho hK hd hw rfl hr h
theorem zpw {k : Nat} {r : List (Nat × Bool)} {d : Nat} {op : Op} {ty : TypeId} {pos : String} {af : Array Edge} {g : Option (Nat × Bool)} {v : Value} (ho : ops[k]? = some ⟨some d, op, ty, pos, af, g⟩) (hK : Kn n a L) (hw : wantedL ops L ⟨some d, op, ty, pos, af, g⟩ = some true) (hr : ∀ w, C w → Runs P w a ⟨some d, op, ty, pos, af, g⟩ v) (h : ∀ a, Kn n a ((d, v) :: L) → wpPar P ops C Q r a w)
    (hd : d < n.n := by decide) : wpPar P ops C Q ((k, true) :: r) a w := sp ho hK hd hw rfl hr h
theorem zps {k : Nat} {r : List (Nat × Bool)} {d : Nat} {op : Op} {ty : TypeId} {pos : String} {af : Array Edge} {g : Option (Nat × Bool)} (ho : ops[k]? = some ⟨some d, op, ty, pos, af, g⟩) (hK : Kn n a L) (hw : wantedL ops L ⟨some d, op, ty, pos, af, g⟩ = some false) (h : ∀ a, Kn n a ((d, undef) :: L) → wpPar P ops C Q r a w)
    (hd : d < n.n := by decide) : wpPar P ops C Q ((k, true) :: r) a w := sp_skip ho hK hd hw rfl h
theorem zq {x y : Code} {Q : Exit → Act → World → Prop} (h : x.wp P (Exit.then (y.wp P Q) Q) a w) : (Code.seq x y).wp P Q a w := wp_seq h
theorem zr {id : Nat} {l : List Oper} {Q : Exit → Act → World → Prop} (h : wpList P l.toArray Q l a w) : (Code.region id l.toArray false).wp P Q a w := wp_region_lit h
theorem zn {Q : Exit → Act → World → Prop} (h : Q .normal a w) : wpList P ops Q [] a w := wpList_nil h
theorem zt {Q : Exit → Act → World → Prop} {K : Act → World → Prop} (h : Q .ret a w) : Exit.then K Q .ret a w := h
theorem zb {Q : Exit → Act → World → Prop} {id : Nat} (h : Q .ret a w) : Exit.inBlock id Q .ret a w := h
theorem zo {Q : Exit → Act → World → Prop} (h : Q .ret a w) : Exit.noGoto Q .ret a w := h
theorem zc {α : Type} {F : α → Prop} {x : α} {l : List α} (h : ∀ y ∈ l, F y) (h0 : F x := by exact rfl) : ∀ y ∈ x :: l, F y := all_cons h0 h
theorem zz {α : Type} {F : α → Prop} : ∀ y ∈ ([] : List α), F y := all_nil
theorem bs {α β : Type} {o : Option α} {f : α → Option β} {r : β} (h : o.bind f = some r) : ∃ y, o = some y ∧ f y = some r := bind_some h
theorem z0 {α : Type} {y : α} {l : List α} : y ∈ y :: l := .head _
theorem z1 {α : Type} {x0 y : α} {l : List α} : y ∈ x0 :: y :: l := .tail _ (.head _)
theorem z2 {α : Type} {x0 x1 y : α} {l : List α} : y ∈ x0 :: x1 :: y :: l := .tail _ (.tail _ (.head _))
theorem z3 {α : Type} {x0 x1 x2 y : α} {l : List α} : y ∈ x0 :: x1 :: x2 :: y :: l := .tail _ (.tail _ (.tail _ (.head _)))
theorem z4 {α : Type} {x0 x1 x2 x3 y : α} {l : List α} : y ∈ x0 :: x1 :: x2 :: x3 :: y :: l := .tail _ (.tail _ (.tail _ (.tail _ (.head _))))
theorem z5 {α : Type} {x0 x1 x2 x3 x4 y : α} {l : List α} : y ∈ x0 :: x1 :: x2 :: x3 :: x4 :: y :: l := .tail _ (.tail _ (.tail _ (.tail _ (.tail _ (.head _)))))
theorem z6 {α : Type} {x0 x1 x2 x3 x4 x5 y : α} {l : List α} : y ∈ x0 :: x1 :: x2 :: x3 :: x4 :: x5 :: y :: l := .tail _ (.tail _ (.tail _ (.tail _ (.tail _ (.tail _ (.head _))))))
theorem z7 {α : Type} {x0 x1 x2 x3 x4 x5 x6 y : α} {l : List α} : y ∈ x0 :: x1 :: x2 :: x3 :: x4 :: x5 :: x6 :: y :: l := .tail _ (.tail _ (.tail _ (.tail _ (.tail _ (.tail _ (.tail _ (.head _)))))))
theorem z8 {α : Type} {x0 x1 x2 x3 x4 x5 x6 x7 y : α} {l : List α} : y ∈ x0 :: x1 :: x2 :: x3 :: x4 :: x5 :: x6 :: x7 :: y :: l := .tail _ (.tail _ (.tail _ (.tail _ (.tail _ (.tail _ (.tail _ (.tail _ (.head _))))))))
end
end Go.Eng
end
section
namespace Go.Eng
open Go.RowKit Go.MapKept
set_option linter.unusedVariables false
set_option linter.unusedSimpArgs false
def oel {α β : Type} (o : Option α) (n : β) (f : α → β) : β := match o with
  | none => n
  | some x => f x
theorem oel_none {α β : Type} {o : Option α} {n : β} {f : α → β} (h : o = none) : oel o n f = n := by subst h; rfl
theorem oel_some {α β : Type} {o : Option α} {n : β} {f : α → β} {x : α} (h : o = some x) : oel o n f = f x := by subst h; rfl
def Atom.own : Atom → Own
  | .cells b c t => .cells b c t
  | .row t sz v n xs => .row t sz v n xs
  | .mp b kvs => .mp b kvs
theorem Atom.own_blk {x : Atom} {k : Nat} : x.own.blk k ↔ x.blk k := by cases x <;> exact Iff.rfl
theorem Atom.own_ok {x : Atom} {w : World} : x.own.ok w ↔ x.ok w := by cases x <;> exact Iff.rfl
section
variable {w0 w : World} {M : List Own} {R : Hp} {O : List Own} {l l' : List Atom} {x : Atom}
theorem St.many_out (h : St M w0 w R (.many (x :: l) :: O)) : St M w0 w R (x.own :: .many l :: O) := by
  have ho := h.own (.many (x :: l)) (List.mem_cons_self ..)
  have hb := h.base (.many (x :: l)) (List.mem_cons_self ..)
  have hs := List.pairwise_cons.1 h.sep
  have hx := List.pairwise_cons.1 ho.2
  refine ⟨h.bel, h.sub, all_cons (Atom.own_ok.2 (ho.1 x (List.mem_cons_self ..))) (all_cons ⟨fun y hy => ho.1 y (List.mem_cons_of_mem _ hy), hx.2⟩ fun y hy => h.own y (List.mem_cons_of_mem _ hy)),
    all_cons (fun b hbb => hb b ⟨x, List.mem_cons_self .., Atom.own_blk.1 hbb⟩) (all_cons (fun b ⟨y, hy, hyb⟩ => hb b ⟨y, List.mem_cons_of_mem _ hy, hyb⟩) fun y hy => h.base y (List.mem_cons_of_mem _ hy)),
    List.Pairwise.cons (fun y hy b hbb hyb => ?_) (List.Pairwise.cons (fun y hy b ⟨z, hz, hzb⟩ hyb => hs.1 y hy b ⟨z, List.mem_cons_of_mem _ hz, hzb⟩ hyb) hs.2)⟩
  rcases List.mem_cons.1 hy with rfl | hy
  · obtain ⟨z, hz, hzb⟩ := hyb
    exact hx.1 z hz b (Atom.own_blk.1 hbb) hzb
  · exact hs.1 y hy b ⟨x, List.mem_cons_self .., Atom.own_blk.1 hbb⟩ hyb
theorem St.many_in (h : St M w0 w R (x.own :: .many l :: O)) : St M w0 w R (.many (x :: l) :: O) := by
  have h1 := h.own x.own (List.mem_cons_self ..)
  have h2 := h.own (.many l) (List.mem_cons_of_mem _ (List.mem_cons_self ..))
  have b1 := h.base x.own (List.mem_cons_self ..)
  have b2 := h.base (.many l) (List.mem_cons_of_mem _ (List.mem_cons_self ..))
  have hs := List.pairwise_cons.1 h.sep
  have hs2 := List.pairwise_cons.1 hs.2
  refine ⟨h.bel, h.sub, all_cons ⟨all_cons (Atom.own_ok.1 h1) h2.1, List.Pairwise.cons (fun y hy k hxk hyk => hs.1 (.many l) (List.mem_cons_self ..) k (Atom.own_blk.2 hxk) ⟨y, hy, hyk⟩) h2.2⟩ fun y hy => h.own y (List.mem_cons_of_mem _ (List.mem_cons_of_mem _ hy)),
    all_cons (fun b ⟨y, hy, hyb⟩ => ?_) fun y hy => h.base y (List.mem_cons_of_mem _ (List.mem_cons_of_mem _ hy)), List.Pairwise.cons (fun y hy b ⟨z, hz, hzb⟩ hyb => ?_) hs2.2⟩
  · rcases List.mem_cons.1 hy with rfl | hy
    · exact b1 b (Atom.own_blk.2 hyb)
    · exact b2 b ⟨y, hy, hyb⟩
  · rcases List.mem_cons.1 hz with rfl | hz
    · exact hs.1 y (List.mem_cons_of_mem _ hy) b (Atom.own_blk.2 hzb) hyb
    · exact hs2.1 y hy b ⟨z, hz, hzb⟩ hyb
theorem St.many_nil (h : St M w0 w R O) : St M w0 w R (.many [] :: O) :=
  ⟨h.bel, h.sub, all_cons ⟨fun x hx => (by cases hx), List.Pairwise.nil⟩ h.own, all_cons (fun b ⟨y, hy, _⟩ => (by cases hy)) h.base, List.Pairwise.cons (fun y _ b ⟨z, hz, _⟩ => (by cases hz)) h.sep⟩
theorem St.many_as (h : St M w0 w R (.many l :: O)) (hm : ∀ x ∈ l', x ∈ l) (hp : l'.Pairwise fun x y => ∀ k, x.blk k → ¬ y.blk k) : St M w0 w R (.many l' :: O) := by
  have ho := h.own (.many l) (List.mem_cons_self ..)
  have hb := h.base (.many l) (List.mem_cons_self ..)
  have hs := List.pairwise_cons.1 h.sep
  exact ⟨h.bel, h.sub, all_cons ⟨fun y hy => ho.1 y (hm y hy), hp⟩ fun y hy => h.own y (List.mem_cons_of_mem _ hy), all_cons (fun b ⟨y, hy, hyb⟩ => hb b ⟨y, hm y hy, hyb⟩) fun y hy => h.base y (List.mem_cons_of_mem _ hy),
    List.Pairwise.cons (fun y hy b ⟨z, hz, hzb⟩ hyb => hs.1 y hy b ⟨z, hm z hz, hzb⟩ hyb) hs.2⟩
theorem St.many_perm (h : St M w0 w R (.many l :: O)) (hp : l.Perm l') : St M w0 w R (.many l' :: O) :=
  h.many_as (fun x hx => hp.mem_iff.2 hx) ((hp.pairwise_iff (R := fun x y : Atom => ∀ k, x.blk k → ¬ y.blk k) (fun hxy k hy hx => hxy k hx hy)).1 (h.own (.many l) (List.mem_cons_self ..)).2)
theorem St.many_sub (h : St M w0 w R (.many l :: O)) (hs : l'.Sublist l) : St M w0 w R (.many l' :: O) :=
  h.many_as (fun x hx => hs.subset hx) ((h.own (.many l) (List.mem_cons_self ..)).2.sublist hs)
end
structure MB (κ : Type) where
  k : κ
  b : Nat
  v : Value
  n : Nat
  cs : List Value
section
variable {κ α β : Type} [DecidableEq κ] {ty : Ty α} {fk : κ → Value} {kd : TypeDesc} {pr : β → List α} {tb et sz : Nat}
def bptr (b : Nat) : Value := .pointer (some ⟨b, 0, none⟩)
def mbp (E : List (MB κ)) : List (κ × Value) := E.map fun e => (e.k, bptr e.b)
def mba (tb et sz : Nat) (E : List (MB κ)) : List Atom := E.flatMap fun e => [.cells e.b [e.v] tb, .row et sz e.v e.n e.cs]
def bdel : List (MB κ) → κ → List (MB κ)
  | [], _ => []
  | e :: E, k => if e.k = k then E else e :: bdel E k
def bset : List (MB κ) → MB κ → List (MB κ)
  | [], x => [x]
  | e :: E, x => if e.k = x.k then x :: E else e :: bset E x
def bhd (E : List (MB κ)) (k : κ) : Value := (mget (mbp E) k).getD (.pointer none)
theorem bhd_of {E : List (MB κ)} {k : κ} {b : Nat} (h : mget (mbp E) k = some (bptr b)) : bhd E k = .pointer (some ⟨b, 0, none⟩) := by unfold bhd; rw [h]; rfl
inductive MBel0 (ty : Ty α) (pr : β → List α) (R : Hp) : List (MB κ) → List (κ × β) → Prop
  | nil : MBel0 ty pr R [] []
  | cons {e : MB κ} {E : List (MB κ)} {p : κ × β} {m : List (κ × β)} (h1 : e.k = p.1) (h2 : e.n = (pr p.2).length) (h3 : Reps ty R e.cs (pr p.2)) (h : MBel0 ty pr R E m) : MBel0 ty pr R (e :: E) (p :: m)
omit [DecidableEq κ] in
theorem MBel0.mono {R R' : Hp} {E : List (MB κ)} {m : List (κ × β)} (h : MBel0 ty pr R E m) (hR : R.le R') : MBel0 ty pr R' E m := by
  induction h with
  | nil => exact .nil
  | cons h1 h2 h3 _ ih => exact .cons h1 h2 (h3.mono hR) ih
theorem mset_same {ν : Type} {m : List (κ × ν)} {k : κ} {v : ν} (h : mget m k = some v) : mset m k v = m := by
  induction m with
  | nil => simp [mget] at h
  | cons p r ih =>
    simp only [mget] at h
    simp only [mset]
    by_cases e : p.1 = k
    · rw [if_pos e] at h ⊢
      obtain rfl := Option.some.inj h
      cases p; simp_all
    · rw [if_neg e] at h ⊢
      rw [ih h]
theorem mbp_bset (E : List (MB κ)) (x : MB κ) : mbp (bset E x) = mset (mbp E) x.k (bptr x.b) := by
  induction E with
  | nil => rfl
  | cons e E ih =>
    unfold mbp at *
    simp only [bset, List.map_cons, mset]
    by_cases h : e.k = x.k
    · simp [h]
    · simp [h, ih]
theorem mba_bset (E : List (MB κ)) (x : MB κ) : (mba tb et sz (bset E x)).Perm (.cells x.b [x.v] tb :: .row et sz x.v x.n x.cs :: mba tb et sz (bdel E x.k)) := by
  induction E with
  | nil => exact List.Perm.refl _
  | cons e E ih =>
    unfold mba at *
    simp only [bset, bdel]
    by_cases h : e.k = x.k
    · simp [h]
    · simp only [if_neg h, List.flatMap_cons]
      refine (ih.append_left _).trans ?_
      show ([_, _] ++ [_, _] ++ _ : List Atom).Perm ([_, _] ++ [_, _] ++ _)
      exact (List.perm_append_comm).append_right _
theorem mba_del (E : List (MB κ)) (k : κ) : (mba tb et sz (bdel E k)).Sublist (mba tb et sz E) := by
  induction E with
  | nil => exact List.Sublist.refl _
  | cons e E ih =>
    unfold mba at *
    simp only [bdel]
    by_cases h : e.k = k
    · simp only [if_pos h, List.flatMap_cons]
      exact List.sublist_append_right _ _
    · simp only [if_neg h, List.flatMap_cons]
      exact ih.append_left _
theorem MBel0.set {R : Hp} {E : List (MB κ)} {m : List (κ × β)} (h : MBel0 ty pr R E m) {x : MB κ} {y : β} (hn : x.n = (pr y).length) (hr : Reps ty R x.cs (pr y)) : MBel0 ty pr R (bset E x) (mset m x.k y) := by
  induction h with
  | nil => exact .cons rfl hn hr .nil
  | cons h1 h2 h3 h ih =>
    simp only [bset, mset]
    rename_i e E p m
    by_cases hk : e.k = x.k
    · rw [if_pos hk, if_pos (h1 ▸ hk)]
      exact .cons rfl hn hr h
    · rw [if_neg hk, if_neg (h1 ▸ hk)]
      exact .cons h1 h2 h3 ih
theorem MBel0.get {R : Hp} {E : List (MB κ)} {m : List (κ × β)} (h : MBel0 ty pr R E m) {k : κ} {x : β} (hm : mget m k = some x) : ∃ b v cs, (mba tb et sz E).Perm (.cells b [v] tb :: .row et sz v (pr x).length cs :: mba tb et sz (bdel E k)) ∧ Reps ty R cs (pr x) ∧ mget (mbp E) k = some (bptr b) := by
  induction h with
  | nil => simp [mget] at hm
  | cons h1 h2 h3 h ih =>
    rename_i e E p m
    simp only [mget] at hm
    by_cases hk : e.k = k
    · rw [if_pos (h1 ▸ hk)] at hm
      obtain rfl := Option.some.inj hm
      refine ⟨e.b, e.v, e.cs, ?_, h3, by simp [mbp, mget, hk]⟩
      simp only [bdel, if_pos hk, mba, List.flatMap_cons, ← h2]
      exact List.Perm.refl _
    · rw [if_neg (h1 ▸ hk)] at hm
      obtain ⟨b, v, cs, g1, g2, g3⟩ := ih hm
      refine ⟨b, v, cs, ?_, g2, by simp only [mbp, List.map_cons, mget]; rw [if_neg hk]; exact g3⟩
      simp only [bdel, if_neg hk]
      unfold mba at *
      simp only [List.flatMap_cons]
      refine (g1.append_left _).trans ?_
      show ([_, _] ++ [_, _] ++ _ : List Atom).Perm ([_, _] ++ [_, _] ++ _)
      exact (List.perm_append_comm).append_right _
theorem MBel0.none {R : Hp} {E : List (MB κ)} {m : List (κ × β)} (h : MBel0 ty pr R E m) (k : κ) : (mget (mbp E) k).isSome = (mget m k).isSome := by
  induction h with
  | nil => rfl
  | cons h1 h2 h3 h ih =>
    rename_i e E p m
    simp only [mbp, List.map_cons, mget]
    by_cases hk : e.k = k
    · rw [if_pos hk, if_pos (h1 ▸ hk)]; rfl
    · rw [if_neg hk, if_neg (h1 ▸ hk)]; exact ih
def MBel (ty : Ty α) (pr : β → List α) (R : Hp) (E : List (MB κ)) (m : List (κ × β)) : Prop := (E.map (·.k)).Nodup ∧ ∃ E0 : List (MB κ), E0.Perm E ∧ MBel0 ty pr R E0 m
omit [DecidableEq κ] in
theorem MBel.nil {R : Hp} : MBel ty pr R ([] : List (MB κ)) [] := ⟨List.nodup_nil, [], .refl _, .nil⟩
omit [DecidableEq κ] in
theorem MBel.mono {R R' : Hp} {E : List (MB κ)} {m : List (κ × β)} (h : MBel ty pr R E m) (hR : R.le R') : MBel ty pr R' E m := ⟨h.1, h.2.imp fun _ g => ⟨g.1, g.2.mono hR⟩⟩
theorem bset_perm (E : List (MB κ)) (x : MB κ) : (bset E x).Perm (x :: bdel E x.k) := by
  induction E with
  | nil => exact .refl _
  | cons e E ih =>
    simp only [bset, bdel]
    by_cases h : e.k = x.k
    · rw [if_pos h, if_pos h]
    · rw [if_neg h, if_neg h]
      exact (ih.cons e).trans (List.Perm.swap ..)
theorem bdel_filter {k : κ} : ∀ {E : List (MB κ)}, (E.map (·.k)).Nodup → bdel E k = E.filter fun e => decide (e.k ≠ k)
  | [], _ => rfl
  | e :: E, h => by
    rw [List.map_cons, List.nodup_cons] at h
    simp only [bdel]
    by_cases hk : e.k = k
    · rw [if_pos hk, List.filter_cons, if_neg (by simp [hk])]
      symm
      rw [List.filter_eq_self]
      intro x hx
      simp only [decide_eq_true_eq]
      rintro rfl
      exact h.1 (List.mem_map.2 ⟨x, hx, hk.symm⟩)
    · rw [if_neg hk, List.filter_cons, if_pos (by simp [hk]), bdel_filter h.2]
theorem bdel_perm {k : κ} {E E0 : List (MB κ)} (h : (E.map (·.k)).Nodup) (hp : E0.Perm E) : (bdel E0 k).Perm (bdel E k) := by
  rw [bdel_filter h, bdel_filter ((hp.map _).nodup_iff.2 h)]
  exact hp.filter _
omit [DecidableEq κ] in
theorem mba_perm {E E0 : List (MB κ)} (hp : E0.Perm E) : (mba tb et sz E0).Perm (mba tb et sz E) := by
  induction hp with
  | nil => exact .refl _
  | cons x _ ih => exact ih.append_left _
  | swap x y l =>
    show ([_, _] ++ [_, _] ++ _ : List Atom).Perm ([_, _] ++ [_, _] ++ _)
    exact (List.perm_append_comm).append_right _
  | trans _ _ h1 h2 => exact h1.trans h2
theorem mget_some {ν : Type} {k : κ} {v : ν} : ∀ {m : List (κ × ν)}, (m.map (·.1)).Nodup → (mget m k = some v ↔ (k, v) ∈ m)
  | [], _ => by simp [mget]
  | p :: r, h => by
    rw [List.map_cons, List.nodup_cons] at h
    simp only [mget]
    by_cases hp : p.1 = k
    · rw [if_pos hp]
      constructor
      · intro e; obtain rfl := Option.some.inj e; exact List.mem_cons.2 (Or.inl (by rw [← hp]))
      · intro e
        rcases List.mem_cons.1 e with rfl | e
        · rfl
        · exact (h.1 (List.mem_map.2 ⟨_, e, hp.symm⟩)).elim
    · rw [if_neg hp, mget_some h.2]
      constructor
      · exact fun e => List.mem_cons_of_mem _ e
      · intro e
        rcases List.mem_cons.1 e with rfl | e
        · exact (hp rfl).elim
        · exact e
theorem mget_perm {ν : Type} {k : κ} {m m' : List (κ × ν)} (h : (m'.map (·.1)).Nodup) (hp : m.Perm m') : mget m k = mget m' k := by
  refine Option.ext fun v => ?_
  rw [mget_some h, mget_some ((hp.map _).nodup_iff.2 h)]
  exact hp.mem_iff
omit [DecidableEq κ] in
theorem mbp_keys (E : List (MB κ)) : (mbp E).map (·.1) = E.map (·.k) := by simp [mbp]
theorem mbp_perm {k : κ} {E E0 : List (MB κ)} (h1 : (E.map (·.k)).Nodup) (h2 : E0.Perm E) : mget (mbp E0) k = mget (mbp E) k := mget_perm (m' := mbp E) (by rw [mbp_keys]; exact h1) (h2.map _)
theorem MBel.set {R : Hp} {E : List (MB κ)} {m : List (κ × β)} (h : MBel ty pr R E m) {x : MB κ} {y : β} (hn : x.n = (pr y).length) (hr : Reps ty R x.cs (pr y)) : MBel ty pr R (bset E x) (mset m x.k y) := by
  obtain ⟨h1, E0, h2, h3⟩ := h
  refine ⟨?_, bset E0 x, ?_, h3.set hn hr⟩
  · refine ((bset_perm E x).map _).nodup_iff.2 ?_
    rw [List.map_cons, List.nodup_cons, bdel_filter h1]
    refine ⟨fun hm => ?_, h1.sublist ((List.filter_sublist).map _)⟩
    obtain ⟨e, he, hk⟩ := List.mem_map.1 hm
    have := (List.mem_filter.1 he).2
    simp only [decide_eq_true_eq] at this
    exact this hk
  · exact ((bset_perm E0 x).trans ((bdel_perm h1 h2).cons x)).trans (bset_perm E x).symm
theorem MBel.get {R : Hp} {E : List (MB κ)} {m : List (κ × β)} (h : MBel ty pr R E m) {k : κ} {x : β} (hm : mget m k = some x) : ∃ b v cs, (mba tb et sz E).Perm (.cells b [v] tb :: .row et sz v (pr x).length cs :: mba tb et sz (bdel E k)) ∧ Reps ty R cs (pr x) ∧ mget (mbp E) k = some (bptr b) := by
  obtain ⟨h1, E0, h2, h3⟩ := h
  obtain ⟨b, v, cs, g1, g2, g3⟩ := h3.get (tb := tb) (et := et) (sz := sz) hm
  refine ⟨b, v, cs, ((mba_perm h2).symm.trans g1).trans (((mba_perm (bdel_perm h1 h2)).cons _).cons _), g2, ?_⟩
  rw [← mbp_perm h1 h2]
  exact g3
theorem MBel.none {R : Hp} {E : List (MB κ)} {m : List (κ × β)} (h : MBel ty pr R E m) (k : κ) : (mget (mbp E) k).isSome = (mget m k).isSome := by
  obtain ⟨h1, E0, h2, h3⟩ := h
  rw [← h3.none k, mbp_perm h1 h2]
omit [DecidableEq κ] in
theorem MBel0.perm {R : Hp} {E : List (MB κ)} {m m' : List (κ × β)} (h : MBel0 ty pr R E m) (hp : m.Perm m') : ∃ E', E'.Perm E ∧ MBel0 ty pr R E' m' := by
  induction hp generalizing E with
  | nil => exact ⟨E, .refl _, h⟩
  | cons x _ ih =>
    cases h with
    | cons h1 h2 h3 h4 =>
      obtain ⟨E', g1, g2⟩ := ih h4
      exact ⟨_, g1.cons _, .cons h1 h2 h3 g2⟩
  | swap x y l =>
    cases h with
    | cons h1 h2 h3 h4 =>
      cases h4 with
      | cons h5 h6 h7 h8 => exact ⟨_, List.Perm.swap .., .cons h5 h6 h7 (.cons h1 h2 h3 h8)⟩
  | trans _ _ i1 i2 =>
    obtain ⟨E1, g1, g2⟩ := i1 h
    obtain ⟨E2, g3, g4⟩ := i2 g2
    exact ⟨E2, g3.trans g1, g4⟩
omit [DecidableEq κ] in
theorem MBel.perm {R : Hp} {E : List (MB κ)} {m m' : List (κ × β)} (h : MBel ty pr R E m) (hp : m.Perm m') : MBel ty pr R E m' := by
  obtain ⟨h1, E0, h2, h3⟩ := h
  obtain ⟨E', g1, g2⟩ := h3.perm hp
  exact ⟨h1, E', g1.trans h2, g2⟩
omit [DecidableEq κ] in
theorem MBel0.keys {R : Hp} {E : List (MB κ)} {m : List (κ × β)} (h : MBel0 ty pr R E m) : E.map (·.k) = m.map (·.1) := by
  induction h with
  | nil => rfl
  | cons h1 _ _ _ ih => rw [List.map_cons, List.map_cons, h1, ih]
omit [DecidableEq κ] in
theorem MBel.keys {R : Hp} {E : List (MB κ)} {m : List (κ × β)} (h : MBel ty pr R E m) : (m.map (·.1)).Nodup ∧ (E.map (·.k)).Perm (m.map (·.1)) := by
  obtain ⟨h1, E0, h2, h3⟩ := h
  have hp := (h2.map (·.k)).symm
  rw [h3.keys] at hp
  exact ⟨hp.nodup_iff.1 h1, hp⟩
variable {w0 w : World} {M : List Own} {R : Hp} {O : List Own}
def mbo (mb : Nat) (kv : List (Value × Value)) (tb et sz : Nat) (E : List (MB κ)) : Own := .many (.mp mb kv :: mba tb et sz E)
omit [DecidableEq κ] in
theorem St.bmk {mb : Nat} (fk : κ → Value) (tb et sz : Nat) (h : St M w0 w R (.mp mb [] :: O)) : St M w0 w R (mbo mb (kvs fk id (mbp ([] : List (MB κ)))) tb et sz ([] : List (MB κ)) :: O) := by
  have h1 : St M w0 w R (.many [] :: .mp mb [] :: O) := h.many_nil
  exact St.many_in (x := .mp mb []) (h1.perm (List.Perm.swap ..))
theorem St.btake {R1 : Hp} {mb : Nat} {kv : List (Value × Value)} {E : List (MB κ)} {m : List (κ × β)} (hr : MBel ty pr R1 E m) {k : κ} {x : β} (hm : mget m k = some x) (h : St M w0 w R (mbo mb kv tb et sz E :: O)) :
    ∃ b v cs, St M w0 w R (.cells b [v] tb :: .row et sz v (pr x).length cs :: mbo mb kv tb et sz (bdel E k) :: O) ∧ Reps ty R1 cs (pr x) ∧ mget (mbp E) k = some (bptr b) := by
  obtain ⟨b, v, cs, g1, g2, g3⟩ := hr.get (tb := tb) (et := et) (sz := sz) hm
  refine ⟨b, v, cs, ?_, g2, g3⟩
  have h1 : St M w0 w R (.many (.mp mb kv :: mba tb et sz E) :: O) := h
  have p : (.mp mb kv :: mba tb et sz E : List Atom).Perm (.cells b [v] tb :: .row et sz v (pr x).length cs :: .mp mb kv :: mba tb et sz (bdel E k)) := by
    refine (g1.cons _).trans ?_
    show ([_] ++ [_, _] ++ _ : List Atom).Perm ([_, _] ++ [_] ++ _)
    exact (List.perm_append_comm).append_right _
  have h2 := (h1.many_perm p).many_out
  have h3 : St M w0 w R (.many (.row et sz v (pr x).length cs :: .mp mb kv :: mba tb et sz (bdel E k)) :: .cells b [v] tb :: O) := h2.perm (List.Perm.swap ..)
  have h4 := h3.many_out
  refine h4.perm ?_
  show ([_, _, _] ++ _ : List Own).Perm ([_, _, _] ++ _)
  refine List.Perm.append_right _ ?_
  show ([_, _] ++ [_] : List Own).Perm ([_] ++ [_, _])
  exact List.perm_append_comm
theorem bput_aux {mb : Nat} {kv : List (Value × Value)} {A : List Atom} {b nn : Nat} {v : Value} {cs : List Value} (h : St M w0 w R (.cells b [v] tb :: .row et sz v nn cs :: .many (.mp mb kv :: A) :: O)) : St M w0 w R (.many (.mp mb kv :: .cells b [v] tb :: .row et sz v nn cs :: A) :: O) := by
  have h1 : St M w0 w R (.row et sz v nn cs :: .many (.mp mb kv :: A) :: .cells b [v] tb :: O) := h.perm (by
    show ([_] ++ [_, _] ++ _ : List Own).Perm ([_, _] ++ [_] ++ _)
    exact (List.perm_append_comm).append_right _)
  have h2 := St.many_in (x := .row et sz v nn cs) h1
  have h3 := St.many_in (x := .cells b [v] tb) (h2.perm (List.Perm.swap ..))
  refine h3.many_perm ?_
  show ([_, _] ++ [_] ++ _ : List Atom).Perm ([_] ++ [_, _] ++ _)
  exact (List.perm_append_comm).append_right _
theorem St.bput {R1 : Hp} {mb b nn : Nat} {v : Value} {cs : List Value} {E : List (MB κ)} {m : List (κ × β)} {k : κ} {y : β} (hr : MBel ty pr R1 E m) (hk : mget (mbp E) k = some (bptr b)) (hq : Reps ty R1 cs (pr y)) (hn : nn = (pr y).length) (h : St M w0 w R (.cells b [v] tb :: .row et sz v nn cs :: mbo mb (kvs fk id (mbp E)) tb et sz (bdel E k) :: O)) :
    ∃ E', St M w0 w R (mbo mb (kvs fk id (mbp E')) tb et sz E' :: O) ∧ MBel ty pr R1 E' (mset m k y) := by
  refine ⟨bset E ⟨k, b, v, nn, cs⟩, ?_, hr.set (x := ⟨k, b, v, nn, cs⟩) hn hq⟩
  rw [mbp_bset, show mset (mbp E) (⟨k, b, v, nn, cs⟩ : MB κ).k (bptr (⟨k, b, v, nn, cs⟩ : MB κ).b) = mbp E from mset_same hk]
  have h1 := bput_aux (A := mba tb et sz (bdel E k)) h
  exact h1.many_perm ((mba_bset E ⟨k, b, v, nn, cs⟩).symm.cons _)
theorem St.bnew {mb b nn : Nat} {v : Value} {cs : List Value} {E : List (MB κ)} {m : List (κ × β)} {k : κ} {y : β} {fv : Value → Value} (hfv : fv = id) (hr : MBel ty pr R E m) (hq : Reps ty R cs (pr y)) (hn : nn = (pr y).length) (h : St M w0 w R (.mp mb (kvs fk fv (mset (mbp E) k (bptr b))) :: .many (mba tb et sz E) :: .cells b [v] tb :: .row et sz v nn cs :: O)) :
    ∃ E', St M w0 w R (mbo mb (kvs fk id (mbp E')) tb et sz E' :: O) ∧ MBel ty pr R E' (mset m k y) := by
  subst hfv
  refine ⟨bset E ⟨k, b, v, nn, cs⟩, ?_, hr.set (x := ⟨k, b, v, nn, cs⟩) hn hq⟩
  rw [mbp_bset]
  have h0 : St M w0 w R (.many (mba tb et sz E) :: .mp mb (kvs fk id (mset (mbp E) k (bptr b))) :: .cells b [v] tb :: .row et sz v nn cs :: O) := h.perm (List.Perm.swap ..)
  have h1 := St.many_in (x := .mp mb (kvs fk id (mset (mbp E) k (bptr b)))) ((h0.many_sub (mba_del E k)).perm (List.Perm.swap ..))
  have h2 : St M w0 w R (.cells b [v] tb :: .row et sz v nn cs :: .many (.mp mb (kvs fk id (mset (mbp E) k (bptr b))) :: mba tb et sz (bdel E k)) :: O) := h1.perm (by
    show ([_] ++ [_, _] ++ _ : List Own).Perm ([_, _] ++ [_] ++ _)
    exact (List.perm_append_comm).append_right _)
  exact (bput_aux h2).many_perm ((mba_bset E ⟨k, b, v, nn, cs⟩).symm.cons _)
omit [DecidableEq κ] in
theorem St.bopen {mb : Nat} {kv : List (Value × Value)} {E : List (MB κ)} (h : St M w0 w R (mbo mb kv tb et sz E :: O)) : St M w0 w R (.mp mb kv :: .many (mba tb et sz E) :: O) := St.many_out (x := .mp mb kv) h
section
variable {P : Program} {a : Act} {n : Fr} {L : Sl} {d : Option Tmp} {ty' : TypeId} {pos : String} {af : Array Edge} {g : Option (Nat × Bool)}
theorem r_lookup_B {mp key : Operand} {t kt et' : TypeId} {b : Nat} {E E' : List (MB κ)} {x : κ} (hm : P.underlying t = some (.map kt et')) (hd : P.underlying kt = some kd) (hk : KeyT kd fk) (hz : ∀ w, (zeroValue et').run P w = .ok (.pointer none) w)
    (hS : St M w0 w R O) (hmem : mbo b (kvs fk id (mbp E)) tb et sz E' ∈ O) (hK : Kn n a L) (hx : ev L mp = some (.map (some b))) (hy : ev L key = some (fk x)) :
    Runs P w a ⟨d, .lookup t mp key false, ty', pos, af, g⟩ (bhd E x) := by
  obtain ⟨es, cl, hb, he⟩ := (hS.own _ hmem).1 (.mp b (kvs fk id (mbp E))) (List.mem_cons_self ..)
  exact r_lookup (m := mbp E) (fv := id) (z := .pointer none) hm hd hk hz hb he.1 rfl hK hx hy
theorem eq_pnn' {t e : TypeId} {w : World} (hu : P.underlying t = some (.pointer e)) (dd : Nat) : (Op.equalIn (dd + 1) t (.pointer none) (.pointer none)).run P w = .ok true w := by
  simp [Op.equalIn, run_underlying hu]
theorem eq_pnn {t e : TypeId} {w : World} (hu : P.underlying t = some (.pointer e)) : (Op.equal t (.pointer none) (.pointer none)).run P w = .ok true w := eq_pnn' hu 9999
theorem r_pnn {t t' e : TypeId} {x y : Operand} {w : World} (hu : P.underlying t = some (.pointer e)) (hK : Kn n a L) (hx : ev L x = some (.pointer none)) (hy : ev L y = some (.pointer none)) : Runs P w a ⟨d, .binOp .eql t x y t', ty', pos, af, g⟩ (.bool true) := by
  simp [Runs, execOp, hK.ev hx, hK.ev hy, eqGuard, binOp, eq_pnn hu]
theorem r_bnil {t t' e : TypeId} {x y : Operand} {E : List (MB κ)} {m : List (κ × β)} {k : κ} (hr : MBel ty pr R E m) (hu : P.underlying t = some (.pointer e)) (hK : Kn n a L) (hx : ev L x = some (bhd E k)) (hy : ev L y = some (.pointer none)) : Runs P w a ⟨d, .binOp .eql t x y t', ty', pos, af, g⟩ (.bool (!(mget m k).isSome)) := by
  rw [← hr.none k]
  unfold bhd at hx
  cases hg : mget (mbp E) k with
  | none =>
    rw [hg] at hx
    have hx : ev L x = some (.pointer none) := hx
    simp [Runs, execOp, hK.ev hx, hK.ev hy, eqGuard, binOp, eq_pnn hu]
  | some v =>
    rw [hg] at hx
    have : ∃ b, v = bptr b := by
      have : (k, v) ∈ mbp E ∨ True := Or.inr trivial
      clear this
      have key : ∀ {E : List (MB κ)}, mget (mbp E) k = some v → ∃ b, v = bptr b := by
        intro E
        induction E with
        | nil => intro h; simp [mbp, mget] at h
        | cons e E ih =>
          intro h
          simp only [mbp, List.map_cons, mget] at h
          split at h
          · exact ⟨e.b, (Option.some.inj h).symm⟩
          · exact ih h
      exact key hg
    obtain ⟨b, rfl⟩ := this
    exact r_peq hu hK hx hy
end
end
end Go.Eng
end
section
namespace Go.Eng
open Go Go.Proofs Go.RowKit Go.MapKept
set_option linter.unusedVariables false
set_option linter.unusedSimpArgs false
section
variable {κ α β : Type} [DecidableEq κ] {ty : Ty α} {fk : κ → Value} {kd : TypeDesc} {pr : β → List α} {tb et sz : Nat}
variable {w0 w : World} {M : List Own} {R : Hp} {O : List Own}
omit [DecidableEq κ] in
theorem St.mopen {mb : Nat} {kv : List (Value × Value)} {E : List (MB κ)} (h : St M w0 w R (mbo mb kv tb et sz E :: O)) : ∃ es cl, mapOk es cl kv ∧ St M w0 w R (.obj mb (.map es cl) :: .many (mba tb et sz E) :: O) := by
  have h1 := h.bopen
  obtain ⟨es, cl, hb, hk⟩ := h1.own (.mp mb kv) (List.mem_cons_self ..)
  exact ⟨es, cl, hk, h1.turn rfl rfl rfl (Nat.le_refl _) (Nat.le_refl _) (fun _ _ _ => rfl) (y := .obj mb (.map es cl)) hb (fun b e => Or.inl e)⟩
omit [DecidableEq κ] in
theorem St.mclose {mb : Nat} {kv : List (Value × Value)} {E : List (MB κ)} {es : Array MapEntry} {cl : Nat} (hk : mapOk es cl kv) (h : St M w0 w R (.obj mb (.map es cl) :: .many (mba tb et sz E) :: O)) : St M w0 w R (mbo mb kv tb et sz E :: O) := by
  have hb : (Own.obj mb (.map es cl)).ok w := h.own _ (List.mem_cons_self ..)
  have h1 := h.turn rfl rfl rfl (Nat.le_refl _) (Nat.le_refl _) (fun _ _ _ => rfl) (y := .mp mb kv) ⟨es, cl, hb, hk⟩ (fun b e => Or.inl e)
  exact St.many_in (x := .mp mb kv) h1
theorem St.xtake {E : List (MB κ)} {m : List (κ × β)} (hr : MBel ty pr R E m) {k : κ} {x : β} (hm : mget m k = some x) (h : St M w0 w R (.many (mba tb et sz E) :: O)) :
    ∃ b v cs, St M w0 w R (.cells b [v] tb :: .row et sz v (pr x).length cs :: .many (mba tb et sz (bdel E k)) :: O) ∧ Reps ty R cs (pr x) ∧ mget (mbp E) k = some (bptr b) := by
  obtain ⟨b, v, cs, g1, g2, g3⟩ := hr.get (tb := tb) (et := et) (sz := sz) hm
  refine ⟨b, v, cs, ?_, g2, g3⟩
  have h2 := (h.many_perm g1).many_out
  have h3 : St M w0 w R (.many (.row et sz v (pr x).length cs :: mba tb et sz (bdel E k)) :: .cells b [v] tb :: O) := h2.perm (List.Perm.swap ..)
  have h4 := h3.many_out
  refine h4.perm ?_
  show ([_, _] ++ [_] ++ _ : List Own).Perm ([_] ++ [_, _] ++ _)
  exact (List.perm_append_comm).append_right _
theorem St.xput {b nn : Nat} {v : Value} {cs : List Value} {E : List (MB κ)} {m : List (κ × β)} {k : κ} {y : β} (hr : MBel ty pr R E m) (hm : mget m k = some y) (hk : mget (mbp E) k = some (bptr b)) (hq : Reps ty R cs (pr y)) (hn : nn = (pr y).length) (h : St M w0 w R (.cells b [v] tb :: .row et sz v nn cs :: .many (mba tb et sz (bdel E k)) :: O)) :
    ∃ E', St M w0 w R (.many (mba tb et sz E') :: O) ∧ MBel ty pr R E' m ∧ mbp E' = mbp E := by
  refine ⟨bset E ⟨k, b, v, nn, cs⟩, ?_, ?_, ?_⟩
  · have h1 : St M w0 w R (.row et sz v nn cs :: .many (mba tb et sz (bdel E k)) :: .cells b [v] tb :: O) := h.perm (by
      show ([_] ++ [_, _] ++ _ : List Own).Perm ([_, _] ++ [_] ++ _)
      exact (List.perm_append_comm).append_right _)
    have h2 := St.many_in (x := .row et sz v nn cs) h1
    have h3 := St.many_in (x := .cells b [v] tb) (h2.perm (List.Perm.swap ..))
    exact h3.many_perm (mba_bset E ⟨k, b, v, nn, cs⟩).symm
  · have := hr.set (x := ⟨k, b, v, nn, cs⟩) hn hq
    rw [show mset m (⟨k, b, v, nn, cs⟩ : MB κ).k y = m from mset_same hm] at this
    exact this
  · rw [mbp_bset]
    exact mset_same hk
variable {P : Program} {ops : Array Oper} {Q : Exit → Act → World → Prop} {a : Act} {rest : List Oper} {n : Fr} {L : Sl}
variable {d : Option Tmp} {ty' : TypeId} {pos : String} {af : Array Edge} {g : Option (Nat × Bool)}
theorem sl_range {dd : Nat} {x : Operand} {t kt et' : TypeId} {mb cl : Nat} {es : Array MapEntry} (hm : P.underlying t = some (.map kt et')) (hmem : Own.obj mb (.map es cl) ∈ O) (hS : St M w0 w R O) (hK : Kn n a L) (hd : dd < n.n) (hw : wantedL ops L ⟨some dd, .range t x, ty', pos, af, g⟩ = some true) (hx : ev L x = some (.map (some mb)))
    (h : ∀ a w it, St M w0 w R (.obj it (.mapIter (some mb) cl #[] cl) :: O) → Kn n a ((dd, .pointer (some ⟨it, 0, none⟩)) :: L) → wpList P ops Q rest a w) : wpList P ops Q (⟨some dd, .range t x, ty', pos, af, g⟩ :: rest) a w := by
  have hb : w.heap[mb]? = some (.map es cl) := hS.own _ hmem
  refine slw hK hd hw rfl (w' := w.alloc (.mapIter (some mb) cl #[] cl)) (v := .pointer (some ⟨w.heap.size, 0, none⟩)) ?_ fun a' hK' => h a' _ w.heap.size (hS.new (.obj w.heap.size (.mapIter (some mb) cl #[] cl)) _ (Go.heap_alloc_new w _) (fun k h => h.symm)) hK'
  simp [execOp, hK.ev hx, run_range_map w t kt et' mb es cl hm hb, Result.andThen]
theorem sl_next {dd : Nat} {x : Operand} {it mb cl : Nat} {es : Array MapEntry} {seen : Array Nat} (hok : ∀ y ∈ es.toList, y.born < cl) (hmem : Own.obj mb (.map es cl) ∈ O) (hS : St M w0 w R (.obj it (.mapIter (some mb) cl seen cl) :: O)) (hK : Kn n a L) (hd : dd < n.n) (hw : wantedL ops L ⟨some dd, .next x false, ty', pos, af, g⟩ = some true) (hx : ev L x = some (.pointer (some ⟨it, 0, none⟩)))
    (h0 : ∀ a, (leftOf es seen).size = 0 → Kn n a ((dd, .tuple #[.bool false]) :: L) → wpList P ops Q rest a w)
    (h1 : ∀ a w e, e ∈ (leftOf es seen).toList → St M w0 w R (.obj it (.mapIter (some mb) cl (seen.push e.born) cl) :: O) → Kn n a ((dd, .tuple #[.bool true, e.key, e.val]) :: L) → wpList P ops Q rest a w) : wpList P ops Q (⟨some dd, .next x false, ty', pos, af, g⟩ :: rest) a w := by
  have hb : w.heap[mb]? = some (.map es cl) := hS.own _ (List.mem_cons_of_mem _ hmem)
  have hi : w.heap[it]? = some (.mapIter (some mb) cl seen cl) := hS.own _ (List.mem_cons_self ..)
  rcases run_next_at w ty' it mb cl cl seen es cl hi hb hok (Nat.le_refl _) (P := P) with ⟨hz, hr⟩ | ⟨e, he, w1, hw1, hr⟩
  · refine slw hK hd hw rfl (w' := w) (v := .tuple #[.bool false]) ?_ fun a' hK' => h0 a' hz hK'
    simp [execOp, hK.ev hx, hr]
  · have hS' : St M w0 w1 R (.obj it (.mapIter (some mb) cl seen cl) :: O) := by
      rcases hw1 with rfl | rfl
      · exact hS
      · exact hS.drew _ (Nat.le_succ _)
    have hi1 : w1.heap[it]? = some (.mapIter (some mb) cl seen cl) := hS'.own _ (List.mem_cons_self ..)
    refine slw hK hd hw rfl (w' := ChangeMaps.setBlock w1 it (.mapIter (some mb) cl (seen.push e.born) cl)) (v := .tuple #[.bool true, e.key, e.val]) ?_ fun a' hK' => h1 a' _ e he (hS'.turn (w' := ChangeMaps.setBlock w1 it (.mapIter (some mb) cl (seen.push e.born) cl)) rfl rfl rfl (by simp [ChangeMaps.setBlock]) (Nat.le_refl _) (fun k _ hne => ?_) (y := .obj it (.mapIter (some mb) cl (seen.push e.born) cl)) ?_ (fun b e => Or.inl e)) hK'
    · simp [execOp, hK.ev hx, hr]
    · exact (heap_set hi1).2 k (fun e => hne (by rw [e]; rfl))
    · exact (heap_set hi1).1
theorem r_entry {x : Operand} {it mb cl : Nat} {es : Array MapEntry} {seen : Array Nat} {e : MapEntry} (hn : (es.toList.map (·.born)).Nodup) (he : e ∈ es.toList) (hmem : Own.obj mb (.map es cl) ∈ O) (hit : Own.obj it (.mapIter (some mb) cl (seen.push e.born) cl) ∈ O) (hS : St M w0 w R O) (hK : Kn n a L) (hx : ev L x = some (.pointer (some ⟨it, 0, none⟩))) : Runs P w a ⟨d, .entry x, ty', pos, af, g⟩ (.tuple #[e.key, e.val]) := by
  have hb : w.heap[mb]? = some (.map es cl) := hS.own _ hmem
  have hi : w.heap[it]? = some (.mapIter (some mb) cl (seen.push e.born) cl) := hS.own _ hit
  simp [Runs, execOp, hK.ev hx, run_entry_at w it mb cl seen es cl e hi hb he hn]
omit [DecidableEq κ] in
theorem Apart.base {B B' R : Hp} {cs : List Value} (h : Apart B R cs) (hB : B'.le B) : Apart B' R cs :=
  ⟨fun b hb => ⟨by
    cases hx : B' b with
    | none => rfl
    | some o => exact absurd (h.new b hb).1 (by rw [hB b o hx]; simp), (h.new b hb).2⟩, h.nodup⟩
def Acc (fk : κ → Value) (es : Array MapEntry) (seen : Array Nat) (m acc : List (κ × β)) : Prop :=
  (∀ p ∈ acc, mget m p.1 = some p.2) ∧ (acc.map (·.1)).Nodup ∧ ∀ e ∈ es.toList, ∀ k, e.key = fk k → (seen.contains e.born = true ↔ k ∈ acc.map (·.1))
theorem Acc.nil {es : Array MapEntry} {m : List (κ × β)} : Acc fk es #[] m [] := by
  unfold Acc
  refine ⟨by simp, by simp, fun e _ k _ => by simp⟩
theorem mset_new {ν : Type} {k : κ} {y : ν} : ∀ {m : List (κ × ν)}, k ∉ m.map (·.1) → mset m k y = m ++ [(k, y)]
  | [], _ => rfl
  | p :: r, h => by
    rw [List.map_cons, List.mem_cons, not_or] at h
    simp only [mset]
    rw [if_neg (fun e => h.1 e.symm), mset_new h.2]; rfl
omit [DecidableEq κ] in
theorem entry_in {es : Array MapEntry} {cl : Nat} {E : List (MB κ)} (hE : mapOk es cl (kvs fk id (mbp E))) {e : MapEntry} (he : e ∈ es.toList) : ∃ q ∈ E, e.key = fk q.k ∧ e.val = bptr q.b := by
  have h1 : (e.key, e.val) ∈ kvs fk id (mbp E) := by rw [← hE.1]; exact List.mem_map.2 ⟨e, he, rfl⟩
  unfold kvs mbp at h1
  obtain ⟨p, hp, h2⟩ := List.mem_map.1 h1
  obtain ⟨q, hq, rfl⟩ := List.mem_map.1 hp
  simp only [Prod.mk.injEq, id] at h2
  exact ⟨q, hq, h2.1.symm, h2.2.symm⟩
theorem Acc.step {es : Array MapEntry} {cl : Nat} {seen : Array Nat} {E : List (MB κ)} {m acc : List (κ × β)} (hf : ∀ x y, fk x = fk y → x = y) (hE : mapOk es cl (kvs fk id (mbp E))) (hm : MBel ty pr R E m) (h : Acc fk es seen m acc) {e : MapEntry} (he : e ∈ (leftOf es seen).toList) :
    ∃ k x, mget m k = some x ∧ e.key = fk k ∧ e.val = bhd E k ∧ Acc fk es (seen.push e.born) m (mset acc k x) := by
  obtain ⟨he1, he2⟩ := mem_left he
  obtain ⟨q, hq, hk, hv⟩ := entry_in hE he1
  have hkE : (mget (mbp E) q.k) = some (bptr q.b) := (mget_some (by rw [mbp_keys]; exact hm.1)).2 (List.mem_map.2 ⟨q, hq, rfl⟩)
  have hs := hm.none q.k
  rw [hkE] at hs
  obtain ⟨x, hx⟩ := Option.isSome_iff_exists.1 hs.symm
  have hnew : q.k ∉ acc.map (·.1) := fun hc => by rw [(h.2.2 e he1 q.k hk).2 hc] at he2; cases he2
  refine ⟨q.k, x, hx, hk, by rw [bhd, hkE, hv]; rfl, ?_⟩
  rw [mset_new hnew]
  refine ⟨fun p hp => ?_, ?_, fun e' he' k' hk' => ?_⟩
  · rcases List.mem_append.1 hp with hp | hp
    · exact h.1 p hp
    · rw [List.mem_singleton] at hp; subst hp; exact hx
  · rw [List.map_append, List.nodup_append]
    refine ⟨h.2.1, by simp, fun a1 h1 b1 h2 => ?_⟩
    simp only [List.map_cons, List.map_nil, List.mem_singleton] at h2
    subst h2
    rintro rfl
    exact hnew h1
  · rw [contains_push, List.map_append, List.mem_append, Bool.or_eq_true, h.2.2 e' he' k' hk']
    simp only [List.map_cons, List.map_nil, List.mem_singleton, beq_iff_eq]
    refine or_congr Iff.rfl ⟨fun hb => ?_, fun hb => ?_⟩
    · have : e' = e := by
        have hnd := hE.2.2
        obtain ⟨i, hi, e1⟩ := List.getElem_of_mem he'
        obtain ⟨j, hj, e2⟩ := List.getElem_of_mem he1
        have hij : (es.toList.map (·.born))[i]? = (es.toList.map (·.born))[j]? := by
          rw [List.getElem?_map, List.getElem?_map, List.getElem?_eq_getElem hi, List.getElem?_eq_getElem hj, e1, e2]
          simp [hb]
        have := (List.getElem?_inj (by rw [List.length_map]; exact hi) hnd).1 hij
        subst this
        rw [← e1, e2]
      subst this
      exact hf _ _ (hk'.symm.trans hk)
    · subst hb
      have hnd : (es.toList.map (·.key)).Nodup := by
        have h3 : es.toList.map (·.key) = (E.map (·.k)).map fk := by
          have := congrArg (List.map Prod.fst) hE.1
          unfold entriesOf kvs mbp at this
          rw [List.map_map, List.map_map, List.map_map] at this
          rw [List.map_map]
          exact this
        rw [h3]
        exact List.pairwise_map.2 (hm.1.imp fun {a b} hne he => hne (hf _ _ he))
      obtain ⟨i, hi, e1⟩ := List.getElem_of_mem he'
      obtain ⟨j, hj, e2⟩ := List.getElem_of_mem he1
      have hij : (es.toList.map (·.key))[i]? = (es.toList.map (·.key))[j]? := by
        rw [List.getElem?_map, List.getElem?_map, List.getElem?_eq_getElem hi, List.getElem?_eq_getElem hj, e1, e2]
        simp [hk, hk']
      have := (List.getElem?_inj (by rw [List.length_map]; exact hi) hnd).1 hij
      subst this
      rw [← e1, e2]
theorem Acc.done {es : Array MapEntry} {cl : Nat} {seen : Array Nat} {E : List (MB κ)} {m acc : List (κ × β)} (hE : mapOk es cl (kvs fk id (mbp E))) (hm : MBel ty pr R E m) (h : Acc fk es seen m acc) (h0 : (leftOf es seen).size = 0) : acc.Perm m := by
  obtain ⟨hn, hp⟩ := hm.keys
  have nd : ∀ {l : List (κ × β)}, (l.map (·.1)).Nodup → l.Nodup := fun h => (List.pairwise_map.1 h).imp fun {a b} hne he => hne (by rw [he])
  refine (List.perm_ext_iff_of_nodup (nd h.2.1) (nd hn)).2 fun p => ⟨fun hp' => (mget_some hn).1 (h.1 p hp'), fun hp' => ?_⟩
  have hk : p.1 ∈ E.map (·.k) := hp.mem_iff.2 (List.mem_map.2 ⟨p, hp', rfl⟩)
  obtain ⟨q, hq, hqk⟩ := List.mem_map.1 hk
  have h1 : (fk q.k, bptr q.b) ∈ entriesOf es := by
    rw [hE.1]
    exact List.mem_map.2 ⟨(q.k, bptr q.b), List.mem_map.2 ⟨q, hq, rfl⟩, rfl⟩
  obtain ⟨e, he, h2⟩ := List.mem_map.1 h1
  simp only [Prod.mk.injEq] at h2
  have hc : seen.contains e.born = true := by
    cases hc : seen.contains e.born with
    | true => rfl
    | false =>
      have : e ∈ leftOf es seen := Array.mem_filter.2 ⟨Array.mem_toList_iff.1 he, by rw [hc]; rfl⟩
      have hlt := Array.size_pos_of_mem this
      omega
  obtain ⟨p2, hp2, e2⟩ := List.mem_map.1 ((h.2.2 e he q.k h2.1).1 hc)
  have h3 := h.1 p2 hp2
  have h4 := (mget_some hn).2 hp'
  rw [e2, hqk, h4] at h3
  have : p = p2 := Prod.ext (by rw [e2, hqk]) (Option.some.inj h3)
  rw [this]; exact hp2
end
end Go.Eng
end
