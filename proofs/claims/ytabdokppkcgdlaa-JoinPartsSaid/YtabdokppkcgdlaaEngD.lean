/-
  The engine: calls that may throw, and calls that are deferred.
-/
import Derived.Test.YtabdokppkcgdlaaEng8
import Derived.Defers
import Derived.Recover
import Derived.Lib.AppendStr
import Derived.Laws.IdiomStrings
namespace Go.Eng
open Go.RowKit
set_option linter.unusedVariables false
set_option linter.unusedSimpArgs false
/-- What a call that may throw comes to. -/
def RetsT (Φ : Value → World → Prop) (Ψ : List PanicEntry → World → Prop) : Ending → World → Prop := fun e w' => (∃ v, e = .returned v ∧ Φ v w') ∨ (∃ c, e = .panicked c ∧ Ψ c w')
/-- Where one thing is thrown, and all that was owned is let go. -/
def ThrowP (M : List Own) (w0 : World) (R : Hp) (br : Value) (c : List PanicEntry) (w' : World) : Prop := c = [{ v := br, recovered := false }] ∧ ∃ R', St M w0 w' R' [] ∧ RLe M w0 R R'
/-- A step that may throw. -/
def tb {α β : Type} (o : Option (Option α)) (f : α → Option (Option β)) : Option (Option β) := match o with
  | none => none
  | some none => some none
  | some (some x) => f x
/-- .. whose throw is caught. -/
def tc {α β : Type} (o : Option (Option α)) (g : Option β) (f : α → Option β) : Option β := match o with
  | none => none
  | some none => g
  | some (some x) => f x
theorem tb_some {α β : Type} {o : Option (Option α)} {f : α → Option (Option β)} {r : Option β} (h : tb o f = some r) : (o = some none ∧ r = none) ∨ ∃ y, o = some (some y) ∧ f y = some r := by
  unfold tb at h
  split at h
  · cases h
  · exact Or.inl ⟨rfl, (Option.some.inj h).symm⟩
  · exact Or.inr ⟨_, rfl, h⟩
theorem tc_some {α β : Type} {o : Option (Option α)} {g : Option β} {f : α → Option β} {r : β} (h : tc o g f = some r) : (o = some none ∧ g = some r) ∨ ∃ y, o = some (some y) ∧ f y = some r := by
  unfold tc at h
  split at h
  · cases h
  · exact Or.inl ⟨rfl, h⟩
  · exact Or.inr ⟨_, rfl, h⟩
section
variable {P : Program} {ops : Array Oper} {Q : Exit → Act → World → Prop} {C : World → Prop} {a : Act} {w0 w : World} {M : List Own} {R : Hp} {O : List Own} {rest : List Oper} {n : Fr} {L : Sl}
variable {ty : TypeId} {pos : String} {af : Array Edge} {g : Option (Nat × Bool)}
theorem St.trunc0 (h : St M w0 w R O) : St M w0 w R [] := h.trunc 0
/-- A call that may throw. -/
theorem sl_callT {d : Nat} {x : Operand} {xs : List Operand} {ts : Array TypeId} {f : FuncId} {cap : List Value} {vs : List Value} {Φ : Value → World → Prop} {Ψ : List PanicEntry → World → Prop} (hf : ∀ args w, (callFunc f args).run P w = .ok (.enter f args) w) (hK : Kn n a L) (hd : d < n.n)
    (hw : wantedL ops L ⟨some d, .call { callee := .value x, args := xs.toArray, argTypes := ts }, ty, pos, af, g⟩ = some true) (hx : ev L x = some (.func (.func f) #[] cap.toArray)) (hv : evs L xs = some vs)
    (hc : Calls P f (vs ++ cap).toArray w (RetsT Φ Ψ)) (hp : ∀ c w', Ψ c w' → Q (.panic c) a w') (h : ∀ a v w', Φ v w' → Kn n a ((d, v) :: L) → wpList P ops Q rest a w') : wpList P ops Q (⟨some d, .call { callee := .value x, args := xs.toArray, argTypes := ts }, ty, pos, af, g⟩ :: rest) a w := by
  unfold wpList
  rw [if_pos (wantedL_ok hK hw)]
  refine .inl ?_
  unfold Oper.wp
  rw [call_run hf hK hx hv, Oper.upon_enter]
  refine hc.mono fun e w' he => ?_
  rcases he with ⟨v, rfl, hΦ⟩ | ⟨c, rfl, hΨ⟩
  · exact h _ v w' hΦ (hK.put hd v)
  · exact hp c w' hΨ
/-! a throw on its way out -/
theorem pan_then {c : List PanicEntry} {K : Act → World → Prop} (h : Q (.panic c) a w) : Exit.then K Q (.panic c) a w := h
theorem pan_block {c : List PanicEntry} {id : Nat} (h : Q (.panic c) a w) : Exit.inBlock id Q (.panic c) a w := h
theorem pan_scope {c : List PanicEntry} (h : Q (.panic c) a w) : Exit.noGoto Q (.panic c) a w := h
theorem pan_parK {c : List PanicEntry} {r : List (Nat × Bool)} (h : Q (.panic c) a w) : parK P ops C Q r (.panic c) a w := h
theorem pan_parKK {c : List PanicEntry} {K : Act → World → Prop} (h : Q (.panic c) a w) : parKK C Q K (.panic c) a w := h
theorem pan_thenT {c : List PanicEntry} {K : Act → World → Prop} (h : Q (.panic c) a w) : thenT K Q (.panic c) a w := h
theorem pan_thenL {c : List PanicEntry} {l : List Oper} {m : Nat} (h : Q (.panic c) a w) : thenL P l m Q (.panic c) a w := h
/-! regions in which something is thrown -/
def PaP (PP : List PanicEntry → Act → World → Prop) (Q : Exit → Act → World → Prop) : Exit → Act → World → Prop := fun e a w => match e with
  | .panic c => PP c a w
  | e => Q e a w
theorem pan_PaP {c : List PanicEntry} {PP : List PanicEntry → Act → World → Prop} (h : PP c a w) : PaP PP Q (.panic c) a w := h
theorem PaP_nil {PP : List PanicEntry → Act → World → Prop} (h : Q .normal a w) : PaP PP Q .normal a w := h
/-- What holds where something is thrown: some slots (the results' places), the deferred calls, the rest. -/
def ThrowA (KS : List (Nat × Value)) (D : List Deferred) (Ψ : List PanicEntry → World → Prop) (c : List PanicEntry) (a : Act) (w : World) : Prop := (∀ p ∈ KS, a.tmps[p.1]? = some p.2) ∧ a.defers = D ∧ Ψ c w
def keepsB (KS : List (Nat × Value)) (ops : Array Oper) : Bool := ops.toList.all fun o => match o.dst with
  | some d => KS.all fun p => !Nat.beq p.1 d
  | none => true
theorem throwA_put {KS : List (Nat × Value)} {D : List Deferred} {Ψ : List PanicEntry → World → Prop} (hk : keepsB KS ops = true) (o : Oper) (ho : o ∈ ops) (v : Value) (c : List PanicEntry) (a : Act) (w : World) (h : ThrowA KS D Ψ c (a.put o.dst v) w) : ThrowA KS D Ψ c a w := by
  obtain ⟨h1, h2, h3⟩ := h
  have hk' := List.all_eq_true.1 hk o (by simpa using ho)
  cases hd : o.dst with
  | none => rw [hd] at h1 h2; exact ⟨h1, h2, h3⟩
  | some d =>
    rw [hd] at h1 h2 hk'
    refine ⟨fun p hp => ?_, by simpa [Act.put] using h2, h3⟩
    have h4 := h1 p hp
    have h5 := List.all_eq_true.1 hk' p hp
    have hne : d ≠ p.1 := by
      intro e
      subst e
      simp at h5
    simpa [Act.put, Array.getElem?_setIfInBounds_ne hne] using h4
theorem par_regionP {id : Nat} {ops : Array Oper} {C : World → Prop} {KS : List (Nat × Value)} {D : List Deferred} {Ψ : List PanicEntry → World → Prop} (ord : List (Nat × Bool)) (hP : ∀ c a w, ThrowA KS D Ψ c a w → Q (.panic c) a w) (hks : keepsB KS ops = true) (hm : P.follows .mixedOrders = true) (hB : (Region.noSelect ops && (ord.length == ops.size) && parB .any ops ord (Array.replicate ops.size false)) = true)
    (hS : St M w0 w R O) (hC : ∀ w, St M w0 w R O → C w) (h : ∀ w, St M w0 w R O → wpPar P ops C (PaP (ThrowA KS D Ψ) Q) ord a w) : (Code.region id ops true).wp P Q a w :=
  wp_mono (wp_region_par (C := C) (Q := PaP (ThrowA KS D Ψ) Q) ord hm hB (fun o ho v c a w h => throwA_put hks o ho v c a w h) (hC _ (hS.drew _ (Nat.le_succ _))) (h _ (hS.drew _ (Nat.le_succ _)))) fun e a w h => by
    cases e <;> first | exact h | exact hP _ _ _ h
theorem parT_regionP {id : Nat} {l : List Oper} {C : World → Prop} {KS : List (Nat × Value)} {D : List Deferred} {Ψ : List PanicEntry → World → Prop} (nn : Nat) (ord : List (Nat × Bool)) (hP : ∀ c a w, ThrowA KS D Ψ c a w → Q (.panic c) a w) (hks : keepsB KS l.toArray = true) (hm : P.follows .mixedOrders = true)
    (hB : (Region.noSelect l.toArray && decide (nn < l.toArray.size) && (ord.length == nn) && Region.sinkB .any l.toArray nn && Region.chainB .any l.toArray nn && parTB .any l.toArray nn (l.toArray.size - nn) ord (Array.replicate l.toArray.size false)) = true)
    (hS : St M w0 w R O) (hC : ∀ w, St M w0 w R O → C w) (h : ∀ w, St M w0 w R O → wpPar P l.toArray C (thenL P l nn (PaP (ThrowA KS D Ψ) Q)) ord a w) : (Code.region id l.toArray true).wp P Q a w :=
  wp_mono (wp_region_parT (C := C) (Q := PaP (ThrowA KS D Ψ) Q) nn ord hm hB (fun o ho v c a w h => throwA_put hks o ho v c a w h) (hC _ (hS.drew _ (Nat.le_succ _))) (h _ (hS.drew _ (Nat.le_succ _)))) fun e a w h => by
    cases e <;> first | exact h | exact hP _ _ _ h
/-! functions that defer -/
theorem enterD {f : FuncId} {fn : Func} {c : Code} {args : List Value} {n : Nat} {RR : Ending → World → Prop} (hf : P.funcs[f]? = some fn) (hb : fn.body = some c) (hn : fn.ntmps = n) (hl : Nat.ble args.length n = true)
    (h : ∀ a, Kn ⟨n, []⟩ a (initL 0 args) → c.wp P (bodyPostD P fn RR) a w) : Calls P f args.toArray w RR := by
  subst hn
  exact calls_of_wp_defers hf hb (h _ (Kn.init args fn.ntmps (Nat.le_of_ble_eq_true hl)))
theorem enterC {f : FuncId} {fn : Func} {c : Code} {args : List Value} {n : Nat} {u : FrameMode} {RR : Ending → World → Prop} (hf : P.funcs[f]? = some fn) (hb : fn.body = some c) (hn : fn.ntmps = n) (hl : Nat.ble args.length n = true)
    (h : ∀ a, Kn ⟨n, []⟩ a (initL 0 args) → c.wp P (bodyPost P fn RR) a w) : CallsD P f args.toArray u w fun e u' w' => u' = u ∧ RR e w' := by
  subst hn
  exact callsD_of_wp hf hb (h _ (Kn.init args fn.ntmps (Nat.le_of_ble_eq_true hl)))
theorem Kn.defer {a : Act} {L : Sl} (h : Kn n a L) (d : Deferred) : Kn ⟨n.n, d :: n.ds⟩ { a with defers := d :: a.defers } L := ⟨h.size, by simp [h.dfs], h.at_⟩
theorem sl_defer {o : Oper} {d : Deferred} (hK : Kn n a L) (hw : wantedL ops L o = some true) (ho : o.dst = none) (hr : (execOp a.eval o).run P w = .ok (.defer d) w)
    (h : ∀ a, Kn ⟨n.n, d :: n.ds⟩ a L → wpList P ops Q rest a w) : wpList P ops Q (o :: rest) a w := by
  unfold wpList
  rw [if_pos (wantedL_ok hK hw)]
  refine .inl ?_
  unfold Oper.wp
  rw [hr, Oper.upon_defer, ho]
  exact h _ (hK.defer d)
theorem retD {fn : Func} {RR : Ending → World → Prop} {D : List Deferred} (hK : Kn n a L) (hD : n.ds = D) (h : Leaves P fn a.tmps RR D .returning w) : bodyPostD P fn RR .ret a w := by
  show Leaves P fn a.tmps RR a.defers .returning w
  rw [hK.dfs, hD]; exact h
end
theorem eqi_nil {P : Program} {t : TypeId} {ms : Array (String × TypeId)} {w : World} (h : P.underlying t = some (.interface ms)) : (Op.equalIn Op.maxDepth t .nilIface .nilIface).run P w = .ok true w := by
  show (Op.equalIn (9999 + 1) t .nilIface .nilIface).run P w = _
  rw [Op.equalIn]
  simp [run_underlying h]
theorem eqi_some {P : Program} {t d : TypeId} {v : Value} {ms : Array (String × TypeId)} {w : World} (h : P.underlying t = some (.interface ms)) : (Op.equalIn Op.maxDepth t (.iface d v) .nilIface).run P w = .ok false w := by
  show (Op.equalIn (9999 + 1) t (.iface d v) .nilIface).run P w = _
  rw [Op.equalIn]
  simp [run_underlying h]
theorem recover_one {P : Program} {d : Nat} {ty : TypeId} {pos : String} {act : Act} {cs : List Frame} {w : World} {QS : Exit → Act → List Frame → World → Prop}
    (h : match recoverD cs with | some (v, cs') => QS .normal (act.put (some d) v) cs' w | none => QS .normal (act.put (some d) .nilIface) cs w) :
    wpOpsS P #[⟨some d, .call { callee := .builtin .recover, args := #[], argTypes := #[] }, ty, pos, #[], none⟩] QS (List.range 1) act cs w := by
  have e : (execOp act.eval (⟨some d, .call { callee := .builtin .recover, args := #[], argTypes := #[] }, ty, pos, #[], none⟩ : Oper)).run P w = .ok .recover w := by
    simp [execOp, resolve, invoke, builtin]
  show wpOpsS P #[_] QS [0] act cs w
  unfold wpOpsS
  simp only [List.getElem?_toArray, List.getElem?_cons_zero, Region.wanted, if_true, e]
  split
  · rename_i v cs' hr; rw [hr] at h; exact h
  · rename_i hr; rw [hr] at h; exact h
def RetsO {T : Type} (r : Option T) (Φ : T → Value → World → Prop) (Ψ : List PanicEntry → World → Prop) : Ending → World → Prop := fun e w' => match r with
  | some x => ∃ v, e = .returned v ∧ Φ x v w'
  | none => ∃ c, e = .panicked c ∧ Ψ c w'
section
variable {P : Program} {ops : Array Oper} {Q : Exit → Act → World → Prop} {a : Act} {w0 w : World} {M : List Own} {R : Hp} {O : List Own} {rest : List Oper} {n : Fr} {L : Sl}
variable {ty : TypeId} {pos : String} {af : Array Edge} {g : Option (Nat × Bool)}
theorem retsO_ok {T : Type} {x : T} {Φ : T → Value → World → Prop} {Ψ : List PanicEntry → World → Prop} {f : FuncId} {args : Array Value} (h : Calls P f args w (RetsO (some x) Φ Ψ)) : Calls P f args w (Rets (Φ x)) := h
theorem retsO_bad {T : Type} {Φ : T → Value → World → Prop} {Ψ : List PanicEntry → World → Prop} {f : FuncId} {args : Array Value} (h : Calls P f args w (RetsO (none : Option T) Φ Ψ)) : Calls P f args w (fun e w' => ∃ c, e = .panicked c ∧ Ψ c w') := h
theorem sl_callP {d : Nat} {x : Operand} {xs : List Operand} {ts : Array TypeId} {f : FuncId} {cap : List Value} {vs : List Value} {Ψ : List PanicEntry → World → Prop} (hf : ∀ args w, (callFunc f args).run P w = .ok (.enter f args) w) (hK : Kn n a L)
    (hw : wantedL ops L ⟨some d, .call { callee := .value x, args := xs.toArray, argTypes := ts }, ty, pos, af, g⟩ = some true) (hx : ev L x = some (.func (.func f) #[] cap.toArray)) (hv : evs L xs = some vs)
    (hc : Calls P f (vs ++ cap).toArray w (fun e w' => ∃ c, e = .panicked c ∧ Ψ c w')) (hp : ∀ c w', Ψ c w' → Q (.panic c) a w') : wpList P ops Q (⟨some d, .call { callee := .value x, args := xs.toArray, argTypes := ts }, ty, pos, af, g⟩ :: rest) a w := by
  unfold wpList
  rw [if_pos (wantedL_ok hK hw)]
  refine .inl ?_
  unfold Oper.wp
  rw [call_run hf hK hx hv, Oper.upon_enter]
  refine hc.mono fun e w' ⟨c, he, hΨ⟩ => ?_
  subst he
  exact hp c w' hΨ
theorem r_mkiface {d : Option Tmp} {t : TypeId} {x : Operand} {v : Value} {fs : Array Field} (hu : P.underlying t = some (.struct fs)) (hK : Kn n a L) (hx : ev L x = some v) : Runs P w a ⟨d, .makeInterface t x, ty, pos, af, g⟩ (.iface t v) := by
  simp [Runs, execOp, hK.ev hx, Instr.makeInterface, run_underlying hu]
theorem sl_panic {x : Operand} {t : TypeId} {v : Value} (hK : Kn n a L) (hw : wantedL ops L ⟨none, .panic x, ty, pos, af, g⟩ = some true) (hx : ev L x = some (.iface t v)) (h : Q (.panic [{ v := .iface t v, recovered := false }]) a w) : wpList P ops Q (⟨none, .panic x, ty, pos, af, g⟩ :: rest) a w := by
  unfold wpList
  rw [if_pos (wantedL_ok hK hw)]
  refine .inl ?_
  unfold Oper.wp
  have e : (execOp a.eval (⟨none, .panic x, ty, pos, af, g⟩ : Oper)).run P w = .halt (.panic (.iface t v)) w := by simp [execOp, hK.ev hx, Instr.panic]
  rw [e]
  exact h
theorem r_defer {c : Operand} {xs : List Operand} {ts : Array TypeId} {f : FuncId} {cap vs : List Value} (hK : Kn n a L) (hx : ev L c = some (.func (.func f) #[] cap.toArray)) (hv : evs L xs = some vs) :
    (execOp a.eval ⟨none, .defer { callee := .value c, args := xs.toArray, argTypes := ts }, ty, pos, af, g⟩).run P w = .ok (.defer ⟨.fn (.func f) cap.toArray, vs.toArray⟩) w := by
  have e : (xs.toArray.map a.eval) = vs.toArray := by rw [← hK.evs hv]; simp
  simp [execOp, resolve, hK.ev hx, Deferred.ofValue, e]
/-- A deferred call that answers. -/
theorem leave_call {fn : Func} {tmps : Array Value} {RR : Ending → World → Prop} {ds : List Deferred} {f : FuncId} {cap dargs : List Value} {Φ : Value → World → Prop} (hf : ∀ args w, (callFunc f args).run P w = .ok (.enter f args) w)
    (hc : CallsD P f (dargs ++ cap).toArray .returning w fun e u' w' => u' = .returning ∧ Rets Φ e w') (h : ∀ v w', Φ v w' → Leaves P fn tmps RR ds .returning w') : Leaves P fn tmps RR (⟨.fn (.func f) cap.toArray, dargs.toArray⟩ :: ds) .returning w := by
  refine leaves_cons (f := f) (args := (dargs ++ cap).toArray) (by simp) (by simp [invoke, hf]) (hc.mono fun e u' w' ⟨hu, v, he, hΦ⟩ => ?_)
  subst hu; subst he
  exact h v w' hΦ
def ResT (P : Program) (w : World) (tm : Array Value) : ResultVar → Value → Prop
  | .tmp t, v => tm.getD t undef = v
  | .cell t tt, v => ∃ ad, tm.getD t undef = .pointer (some ad) ∧ (loadVar tt ad).run P w = .ok v w
theorem getD_of {tm : Array Value} {t : Nat} {v : Value} (h : tm[t]? = some v) : tm.getD t undef = v := by simp [h]
theorem rt_tmp {tm : Array Value} {t : Nat} {v : Value} (h : tm[t]? = some v) : ResT P w tm (.tmp t) v := getD_of h
theorem rt_cell {tm : Array Value} {t tt m b : Nat} {c : List Value} {t' : TypeId} (h : tm[t]? = some (.pointer (some ⟨b, 0, none⟩))) (hA : ∀ w, (isAgg tt).run P w = .ok true w) (hz : ∀ w, (sizeOf tt).run P w = .ok m w) (hS : St M w0 w R O) (hm : Own.cells b c t' ∈ O) (hc : c.length = m) : ResT P w tm (.cell t tt) (.agg c.toArray) :=
  ⟨_, getD_of h, hS.loadWhole hA hz hm hc⟩
theorem rt_cell1 {tm : Array Value} {t tt b : Nat} {v : Value} {t' : TypeId} (h : tm[t]? = some (.pointer (some ⟨b, 0, none⟩))) (hA : ∀ w, (isAgg tt).run P w = .ok false w) (hS : St M w0 w R O) (hm : Own.cells b [v] t' ∈ O) : ResT P w tm (.cell t tt) v := by
  refine ⟨_, getD_of h, ?_⟩
  have := hS.cell (j := 0) hm rfl
  simp [loadVar, hA, this]
theorem leaves_2 {fn : Func} {tm : Array Value} {RR : Ending → World → Prop} {r r' : ResultVar} {v v' : Value} (hr : fn.results = #[r, r']) (h1 : ResT P w tm r v) (h2 : ResT P w tm r' v') (h : RR (.returned (.tuple #[v, v'])) w) : Leaves P fn tm RR [] .returning w := by
  refine ⟨_, ?_, h⟩
  clear h
  cases r <;> cases r' <;> simp [ResT] at h1 h2 <;> (try obtain ⟨ad, h1, h1'⟩ := h1) <;> (try obtain ⟨ad', h2, h2'⟩ := h2) <;> simp [results, hr, asAddr, *]
theorem leaves_3 {fn : Func} {tm : Array Value} {RR : Ending → World → Prop} {r r' r'' : ResultVar} {v v' v'' : Value} (hr : fn.results = #[r, r', r'']) (h1 : ResT P w tm r v) (h2 : ResT P w tm r' v') (h3 : ResT P w tm r'' v'') (h : RR (.returned (.tuple #[v, v', v''])) w) : Leaves P fn tm RR [] .returning w := by
  refine ⟨_, ?_, h⟩
  clear h
  cases r <;> cases r' <;> cases r'' <;> simp [ResT] at h1 h2 h3 <;> (try obtain ⟨ad, h1, h1'⟩ := h1) <;> (try obtain ⟨ad', h2, h2'⟩ := h2) <;> (try obtain ⟨ad'', h3, h3'⟩ := h3) <;> simp [results, hr, asAddr, *]
/-- What is done where something is thrown, whatever the other slots are. -/
def Away (P : Program) (fn : Func) (RR : Ending → World → Prop) (KS : List (Nat × Value)) (D : List Deferred) (u : List PanicEntry → FrameMode) (c : List PanicEntry) (w : World) : Prop := ∀ tm : Array Value, (∀ p ∈ KS, tm[p.1]? = some p.2) → Leaves P fn tm RR D (u c) w
theorem throwD {fn : Func} {RR : Ending → World → Prop} {KS : List (Nat × Value)} {D : List Deferred} {c : List PanicEntry} (h : ThrowA KS D (Away P fn RR KS D .panicking) c a w) : bodyPostD P fn RR (.panic c) a w := by
  show Leaves P fn a.tmps RR a.defers (.panicking c) w
  rw [h.2.1]; exact h.2.2 a.tmps h.1
theorem throwA_of {KS : List (Nat × Value)} {D : List Deferred} {Ψ : List PanicEntry → World → Prop} {c : List PanicEntry} (hK : Kn n a L) (hD : n.ds = D) (hk : ∀ p ∈ KS, look L p.1 = some p.2) (h : Ψ c w) : ThrowA KS D Ψ c a w := ⟨fun p hp => hK.at_ _ _ (hk p hp), by rw [hK.dfs, hD], h⟩
theorem retD' {fn : Func} {RR : Ending → World → Prop} {KS : List (Nat × Value)} {D : List Deferred} (hK : Kn n a L) (hD : n.ds = D) (hk : ∀ p ∈ KS, look L p.1 = some p.2) (h : Away P fn RR KS D (fun _ => .returning) [] w) : bodyPostD P fn RR .ret a w := by
  show Leaves P fn a.tmps RR a.defers .returning w
  rw [hK.dfs, hD]; exact h a.tmps fun p hp => hK.at_ _ _ (hk p hp)
theorem throw_post {fn : Func} {T : Type} {Φ : T → Value → World → Prop} {br : Value} {c : List PanicEntry} {R0 : Hp} (hK : Kn n a L) (h : ThrowP M w0 R0 br c w) (hn0 : n.ds = [] := by rfl) : bodyPost P fn (RetsO (none : Option T) Φ (ThrowP M w0 R0 br)) (.panic c) a w := ⟨hK.dfs.trans hn0, c, rfl, h⟩
/-! a string's bytes are appended -/
theorem append_blkS {t u e tt : Nat} {i : TypeInfo} {base : Nat} {v v' : Value} {w' : World} {m : Nat} {cs : List Value} {str : ByteArray} (ht : P.underlying t = some (.slice e)) (hu : P.underlying u = some .string) (hi : P.info? e = some i) (hz0 : i.zero = some (.int .u8 0)) (hsz : i.size = 1) (hby : i.bytes = 1)
    (hown : w.ownsRow base e 1 v m cs) (hb : m + str.size ≤ 140737488355328)
    (hr : (Builtin.append_ #[t, u] tt #[v, .string str]).run P w = .ok v' w') : (∀ b, v'.ownBlock = some b → v.ownBlock = some b ∨ w.heap.size ≤ b) ∧ w.drawn ≤ w'.drawn := by
  rcases hown.2 with ⟨rfl, rfl⟩ | ⟨g, cap, cur, rfl, hbg, hg, hnc, hcm, hcs, htake⟩
  · by_cases h0 : str.size = 0
    · have hf := Lib.run_firstCells_string (P := P) w 1 str
      rw [h0] at hf
      simp [Builtin.append_, run_underlying ht, run_underlying hu, sizeOf, typeInfo, hi, hsz, Builtin.lenOf, h0, hf] at hr
      obtain ⟨h1, h2⟩ := hr
      subst h1; subst h2
      exact ⟨fun b hb' => Or.inl hb', Nat.le_refl _⟩
    · have := run_append_nil_string (P := P) w t u tt e i _ ht hu hi hz0 str (by omega) (by omega) (by rw [hby]; omega)
      rw [this] at hr
      injection hr with h1 h2
      subst h1; subst h2
      exact ⟨fun b hb' => by
        simp [Value.ownBlock] at hb'
        exact Or.inr (by omega), Nat.le_succ _⟩
  · by_cases hroom : m + str.size ≤ cap
    · have hfit : m + str.size ≤ cur.size := by rw [hcs]; omega
      have := Lib.run_append_room_string (P := P) w t u tt e i ht hu hi hsz g m cap cur hg str hroom hfit
      rw [this] at hr
      injection hr with h1 h2
      subst h1; subst h2
      exact ⟨fun b hb' => Or.inl hb', Nat.le_refl _⟩
    · have holds : ∀ j u, cs[j]? = some u → w.cell? ((⟨g, 0, none⟩ : Addr).add j) = some u := hown.cells (g := g) rfl
      have hl : cs.length = m * i.size := by rw [hsz]; exact hown.1
      have := Lib.run_append_grow_string (P := P) w t u tt e i _ ht hu hi hz0 ⟨g, 0, none⟩ m cap cs hl holds str (by omega) (by omega) (by rw [hby]; exact growslice_fits (by omega) (by omega))
      rw [this] at hr
      injection hr with h1 h2
      subst h1; subst h2
      exact ⟨fun b hb' => by
        simp [Value.ownBlock] at hb'
        exact Or.inr (by omega), Nat.le_succ _⟩
theorem reps_str {R : Hp} (s : ByteArray) : Reps (tyInt .u8) R (Lib.strCells s) (sbytes s) := by
  unfold Lib.strCells sbytes
  generalize s.data.toList = l
  induction l with
  | nil => exact Reps.nil _ _
  | cons b l ih => exact Reps.cons (c := [.int .u8 b.toNat]) rfl ih
theorem sl_append_S {dd : Nat} {s x : Operand} {t u e : Nat} {v : Value} {m : Nat} {ty' : TypeId} {cs : List Value} {xs zs : List Int} {str : ByteArray} (hE : ElT P t e 1 1) (hu : P.underlying u = some .string) (hz0 : ∀ w, (zeroValue e).run P w = .ok (.int .u8 0) w) (hcs : Reps (tyInt .u8) R cs xs) (hm : m = xs.length) (hz : apd 1 xs (sbytes str) = some zs)
    (hS : St M w0 w R (.row e 1 v m cs :: O)) (hK : Kn n a L) (hd : dd < n.n) (hw : wantedL ops L ⟨some dd, .call { callee := .builtin .append, args := #[s, x], argTypes := #[t, u] }, ty', pos, af, g⟩ = some true) (hs : ev L s = some v) (hx : ev L x = some (.string str))
    (h : ∀ a w v' cs', Reps (tyInt .u8) R cs' zs → St M w0 w R (.row e 1 v' zs.length cs' :: O) → Kn n a ((dd, v') :: L) → wpList P ops Q rest a w) :
    wpList P ops Q (⟨some dd, .call { callee := .builtin .append, args := #[s, x], argTypes := #[t, u] }, ty', pos, af, g⟩ :: rest) a w := by
  subst hm
  obtain ⟨hb, hzs⟩ := apd_some hz
  have hlen : (sbytes str).length = str.size := by simp [sbytes]
  rw [hlen] at hb
  obtain ⟨i, z, hi, hz1, hsz, hby, hzs'⟩ := hE.ex
  have hzz : z = .int .u8 0 := by
    have := hz0 w
    simp [zeroValue, typeInfo, hi, hz1] at this
    exact this
  subst hzz
  have hown : w.ownsRow 0 e 1 v xs.length cs := hS.own (.row e 1 v xs.length cs) (List.mem_cons_self ..)
  obtain ⟨v', w', hr, h2, h3, h4⟩ := Lib.run_append_own_string (P := P) w 0 t u ty' e i hE.und hu hi hz1 hsz hby v _ cs hown str (by simp only [maxLen]; omega) (by omega) (Nat.zero_le _)
  have hab := append_blkS hE.und hu hi hz1 hsz hby hown (by omega) hr
  refine slw hK hd hw rfl (by simp [execOp, resolve, invoke, builtin, hK.ev hs, hK.ev hx, hr]) fun a' hK' => h a' w' v' (cs ++ Lib.strCells str) (by rw [hzs]; exact hcs.append (reps_str str)) ?_ hK'
  rw [hzs, List.length_append, hlen]
  exact hS.turn h3.os h3.tape h3.output h3.size hab.2 (fun j hj hne => h3.block j hj (fun e => hne e.symm)) h2 hab.1
/-- []byte(s): a new row, that is read only. -/
theorem sl_conv_sb {dd src dst e : Nat} {x : Operand} {ty' : TypeId} {s : ByteArray} (hs : P.underlying src = some .string) (hd' : P.underlying dst = some (.slice e)) (he : P.underlying e = some (.int .u8)) (hS : St M w0 w R O) (hK : Kn n a L) (hd : dd < n.n)
    (hw : wantedL ops L ⟨some dd, .convert src dst x, ty', pos, af, g⟩ = some true) (hx : ev L x = some (.string s))
    (h : ∀ a w v R', St M w0 w R' O → RLe M w0 R R' → SlR (tyInt .u8) R' v (sbytes s) → Kn n a ((dd, v) :: L) → wpList P ops Q rest a w) : wpList P ops Q (⟨some dd, .convert src dst x, ty', pos, af, g⟩ :: rest) a w := by
  have hr := run_bytes_of_string (P := P) w src dst e s hs hd' he
  have h0 := (hS.drew (w.drawn + 1) (Nat.le_succ _)).new (.obj w.heap.size (.cells (bytesRow s (grownCap w s.size 0 e)) e ((bytesRow s (grownCap w s.size 0 e)).size, (bytesRow s (grownCap w s.size 0 e)).size + 1))) _ (by show (World.alloc _ _).heap[w.heap.size]? = _; exact heap_alloc_new w.drew _) rfl
  obtain ⟨R', h1, h2, h3⟩ := h0.frozen rfl (heap_alloc_new w.drew _)
  have hlen : (sbytes s).length = s.size := by simp [sbytes]
  have hsl : SlR (tyInt .u8) R' (.slice (some ⟨w.heap.size, 0, none⟩) s.size (grownCap w s.size 0 e)) (sbytes s) := by
    refine SlR.of_cells (cs := Lib.strCells s) (by rw [hlen]) (by rw [hlen]; exact grownCap_ge w _ _ _) (reps_str s) fun j u hu => ?_
    simp only [Hp.cell, h3, Nat.zero_add]
    have hj := (List.getElem?_eq_some_iff.1 hu).1
    rw [Lib.strCells_length] at hj
    simp only [Lib.strCells] at hu
    have hj' : j < s.data.size := hj
    simp [hj'] at hu
    obtain ⟨b, hb, rfl⟩ := hu
    rw [Array.getElem?_eq_getElem hj'] at hb
    cases hb
    simp [bytesRow, Array.getElem?_append, hj]
  refine slw hK hd hw rfl (by simp [execOp, hK.ev hx, hr]) fun a' hK' => h a' _ _ R' h1 h2 hsl hK'
end
end Go.Eng
