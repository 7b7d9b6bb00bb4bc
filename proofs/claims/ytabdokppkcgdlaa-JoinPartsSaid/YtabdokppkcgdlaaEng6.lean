/-
  The engine, part 6: structs held against one another, pointers held against nil.
-/
import Derived.Test.YtabdokppkcgdlaaEng5
import Derived.Laws.StructEq
import Derived.Scope
import Derived.Lib.Bytealg
namespace Go.Eng
open Go.RowKit
set_option linter.unusedVariables false
set_option linter.unusedSimpArgs false
section
variable {P : Program} {a : Act} {w : World} {n : Fr} {L : Sl}
variable {d : Option Tmp} {ty' : TypeId} {pos : String} {af : Array Edge} {g : Option (Nat × Bool)}
theorem eq_pnil' {t e : TypeId} {ad : Addr} (hu : P.underlying t = some (.pointer e)) (dd : Nat) : (Op.equalIn (dd + 1) t (.pointer (some ad)) (.pointer none)).run P w = .ok false w := by
  simp [Op.equalIn, run_underlying hu]
theorem eq_pnil {t e : TypeId} {ad : Addr} (hu : P.underlying t = some (.pointer e)) : (Op.equal t (.pointer (some ad)) (.pointer none)).run P w = .ok false w := eq_pnil' hu 9999
theorem r_peq {t t' e : TypeId} {x y : Operand} {ad : Addr} (hu : P.underlying t = some (.pointer e)) (hK : Kn n a L) (hx : ev L x = some (.pointer (some ad))) (hy : ev L y = some (.pointer none)) : Runs P w a ⟨d, .binOp .eql t x y t', ty', pos, af, g⟩ (.bool false) := by
  simp [Runs, execOp, hK.ev hx, hK.ev hy, eqGuard, binOp, eq_pnil hu]
theorem r_pne {t t' e : TypeId} {x y : Operand} {ad : Addr} (hu : P.underlying t = some (.pointer e)) (hK : Kn n a L) (hx : ev L x = some (.pointer (some ad))) (hy : ev L y = some (.pointer none)) : Runs P w a ⟨d, .binOp .neq t x y t', ty', pos, af, g⟩ (.bool true) := by
  simp [Runs, execOp, hK.ev hx, hK.ev hy, eqGuard, binOp, eq_pnil hu]
/-- A slice is nil, or not. -/
theorem SlR.nilcase {α : Type} {ty : Ty α} {R : Hp} {v : Value} {xs : List α} (h : SlR ty R v xs) : ((∃ c, v = .slice none 0 c) ∧ xs = []) ∨ ∃ ad m c, v = .slice (some ad) m c := by
  obtain ⟨ad, c, h1, h2, h3⟩ := h
  cases ad with
  | none =>
    have : xs = [] := by
      cases xs with
      | nil => rfl
      | cons x r => obtain ⟨b, o, h4, _⟩ := h3 (by simp); cases h4
    subst this
    exact Or.inl ⟨⟨c, h1⟩, rfl⟩
  | some ad => exact Or.inr ⟨ad, _, c, h1⟩
theorem eq_sl_nn {t e : TypeId} {m c m' c' : Nat} (hu : P.underlying t = some (.slice e)) (dd : Nat) : (Op.equalIn (dd + 1) t (.slice none m c) (.slice none m' c')).run P w = .ok true w := by
  simp [Op.equalIn, run_underlying hu]
theorem eq_sl_sn {t e : TypeId} {ad : Addr} {m c m' c' : Nat} (hu : P.underlying t = some (.slice e)) (dd : Nat) : (Op.equalIn (dd + 1) t (.slice (some ad) m c) (.slice none m' c')).run P w = .ok false w := by
  simp [Op.equalIn, run_underlying hu]
theorem eq_sl_nn' {t e : TypeId} {m c m' c' : Nat} (hu : P.underlying t = some (.slice e)) : (Op.equal t (.slice none m c) (.slice none m' c')).run P w = .ok true w := eq_sl_nn hu 9999
theorem eq_sl_sn' {t e : TypeId} {ad : Addr} {m c m' c' : Nat} (hu : P.underlying t = some (.slice e)) : (Op.equal t (.slice (some ad) m c) (.slice none m' c')).run P w = .ok false w := eq_sl_sn hu 9999
theorem r_sleqN {t t' e : TypeId} {x y : Operand} {v : Value} (hu : P.underlying t = some (.slice e)) (hn : ∃ c, v = .slice none 0 c) (hK : Kn n a L) (hx : ev L x = some v) (hy : ev L y = some (.slice none 0 0)) : Runs P w a ⟨d, .binOp .eql t x y t', ty', pos, af, g⟩ (.bool true) := by
  obtain ⟨c, rfl⟩ := hn
  simp [Runs, execOp, hK.ev hx, hK.ev hy, eqGuard, binOp, eq_sl_nn' hu]
theorem r_slneN {t t' e : TypeId} {x y : Operand} {v : Value} (hu : P.underlying t = some (.slice e)) (hn : ∃ c, v = .slice none 0 c) (hK : Kn n a L) (hx : ev L x = some v) (hy : ev L y = some (.slice none 0 0)) : Runs P w a ⟨d, .binOp .neq t x y t', ty', pos, af, g⟩ (.bool false) := by
  obtain ⟨c, rfl⟩ := hn
  simp [Runs, execOp, hK.ev hx, hK.ev hy, eqGuard, binOp, eq_sl_nn' hu]
theorem r_sleqS {t t' e : TypeId} {x y : Operand} {v : Value} {ad : Addr} {m c : Nat} (hu : P.underlying t = some (.slice e)) (hn : v = .slice (some ad) m c) (hK : Kn n a L) (hx : ev L x = some v) (hy : ev L y = some (.slice none 0 0)) : Runs P w a ⟨d, .binOp .eql t x y t', ty', pos, af, g⟩ (.bool false) := by
  subst hn
  simp [Runs, execOp, hK.ev hx, hK.ev hy, eqGuard, binOp, eq_sl_sn' hu]
theorem r_slneS {t t' e : TypeId} {x y : Operand} {v : Value} {ad : Addr} {m c : Nat} (hu : P.underlying t = some (.slice e)) (hn : v = .slice (some ad) m c) (hK : Kn n a L) (hx : ev L x = some v) (hy : ev L y = some (.slice none 0 0)) : Runs P w a ⟨d, .binOp .neq t x y t', ty', pos, af, g⟩ (.bool true) := by
  subst hn
  simp [Runs, execOp, hK.ev hx, hK.ev hy, eqGuard, binOp, eq_sl_sn' hu]
/-- Structs: what '==' gives, as a fact of the type. -/
def EqS (P : Program) (t : TypeId) (xs ys : Array Value) (b : Bool) : Prop := ∀ w, (Op.equalIn 10000 t (.agg xs) (.agg ys)).run P w = .ok b w
theorem r_seq {t t' : TypeId} {x y : Operand} {xs ys : Array Value} {b : Bool} (hm : P.eqGuardType P.depth t = false) (he : EqS P t xs ys b) (hK : Kn n a L) (hx : ev L x = some (.agg xs)) (hy : ev L y = some (.agg ys)) : Runs P w a ⟨d, .binOp .eql t x y t', ty', pos, af, g⟩ (.bool b) := by
  simp [Runs, execOp, hK.ev hx, hK.ev hy, run_eqGuard_agg w .eql t x y xs ys hm, run_eql_struct, he w]
theorem r_sne {t t' : TypeId} {x y : Operand} {xs ys : Array Value} {b : Bool} (hm : P.eqGuardType P.depth t = false) (he : EqS P t xs ys b) (hK : Kn n a L) (hx : ev L x = some (.agg xs)) (hy : ev L y = some (.agg ys)) : Runs P w a ⟨d, .binOp .neq t x y t', ty', pos, af, g⟩ (.bool (!b)) := by
  simp [Runs, execOp, hK.ev hx, hK.ev hy, run_eqGuard_agg w .neq t x y xs ys hm, run_neq_struct, he w]
/-- A part of a struct that is no struct itself. -/
theorem run_part1 {t : TypeId} {xs : Array Value} {o : Nat} {v : Value} (hA : ∀ w, (isAgg t).run P w = .ok false w) (hv : xs[o]? = some v) : (part t xs o).run P w = .ok v w := by
  simp [part, hA, hv]
theorem run_partA {t m : TypeId} {xs ys : Array Value} {o : Nat} (hA : ∀ w, (isAgg t).run P w = .ok true w) (hz : ∀ w, (sizeOf t).run P w = .ok m w) (hv : xs.extract o (o + m) = ys) : (part t xs o).run P w = .ok (.agg ys) w := by
  subst hv
  simp [part, hA, hz]
/-- Arrays of whole numbers. -/
theorem eq_arr' {t e : TypeId} {k : IntKind} {m q : Nat} (hu : P.underlying t = some (.array m e)) (he : ∀ a b w, (Op.equalIn q e (.int k a) (.int k b)).run P w = .ok (a == b) w) (hA : ∀ w, (isAgg e).run P w = .ok false w) (hz : ∀ w, (sizeOf e).run P w = .ok 1 w) (xs ys : List Int) (hx : xs.length = m) (hy : ys.length = m) (w : World) :
    (Op.equalIn (q + 1) t (.agg (xs.map (Value.int k)).toArray) (.agg (ys.map (Value.int k)).toArray)).run P w = .ok (decide (xs = ys)) w := by
  simp only [Op.equalIn, Sem.run_bind, run_underlying hu, Result.andThen_ok, hz]
  rw [Std.Legacy.Range.forIn_eq_forIn_range']
  have key : ∀ (l : List Nat) (s : Nat), l = List.range' s (m - s) → s ≤ m → ∀ w : World, ((xs.take s) = (ys.take s)) →
      (forIn l ((none, ()) : Option Bool × Unit) (fun i r => do
        let a ← part e (xs.map (Value.int k)).toArray (i * 1)
        let b ← part e (ys.map (Value.int k)).toArray (i * 1)
        let c ← Op.equalIn q e a b
        if (!c) = true then pure (ForInStep.done (some false, ())) else do pure PUnit.unit; pure (ForInStep.yield (none, ()))) : Sem _).run P w = .ok (if xs = ys then (none, ()) else (some false, ())) w := by
    intro l
    induction l with
    | nil =>
      intro s hl hs w hp
      have : m - s = 0 := by
        have := congrArg List.length hl; simpa using this.symm
      have hs' : s = m := by omega
      subst hs'
      rw [List.take_of_length_le (by omega), List.take_of_length_le (by omega)] at hp
      simp [hp]
    | cons i r ih =>
      intro s hl hs w hp
      have hlen : m - s = (r.length + 1) := by have := congrArg List.length hl; simpa using this.symm
      rw [hlen, List.range'_succ] at hl
      injection hl with h1 h2
      subst h1
      have hi : i < m := by omega
      rw [List.forIn_cons]
      have e1 : (part e (xs.map (Value.int k)).toArray (i * 1)).run P w = .ok (.int k xs[i]) w := run_part1 hA (by simp [hx, hi])
      have e2 : (part e (ys.map (Value.int k)).toArray (i * 1)).run P w = .ok (.int k ys[i]) w := run_part1 hA (by simp [hy, hi])
      simp only [Sem.run_bind, e1, e2, Result.andThen_ok, he]
      by_cases hc : xs[i] = ys[i]
      · simp only [hc, beq_self_eq_true, Bool.not_true, Bool.false_eq_true, if_false, Sem.run_pure, Sem.run_bind, Result.andThen_ok]
        refine ih (i + 1) (by rw [h2]; congr 1; omega) (by omega) w ?_
        rw [List.take_succ_eq_append_getElem (by omega), List.take_succ_eq_append_getElem (by omega), hp, hc]
      · have hne : xs ≠ ys := fun e => hc (by subst e; rfl)
        have hb : (xs[i] == ys[i]) = false := by simpa using hc
        simp [hb, hne]
  have hk := key (List.range' 0 m) 0 (by simp) (Nat.zero_le _) w (by simp)
  simp only [Std.Legacy.Range.size, Nat.sub_zero, Nat.add_sub_cancel, Nat.div_one]
  rw [hk]
  by_cases h : xs = ys <;> simp [h]
theorem eqF_nil {q : Nat} {xs ys : Array Value} : (Op.eqFields q xs ys []).run P w = .ok true w := rfl
theorem eqF_cons {q : Nat} {xs ys : Array Value} {f : Field} {fs : List Field} {x y : Value} {r r' : Bool} (hn : f.name ≠ "_") (hx : (part f.type xs f.offset).run P w = .ok x w) (hy : (part f.type ys f.offset).run P w = .ok y w) (hr : (Op.equalIn q f.type x y).run P w = .ok r w) (hrest : (Op.eqFields q xs ys fs).run P w = .ok r' w) :
    (Op.eqFields q xs ys (f :: fs)).run P w = .ok (r && r') w := by
  rw [Op.eqFields, if_pos hn]
  simp only [Sem.run_bind, hx, hy, hr, Result.andThen_ok]
  cases r
  · simp
  · simpa using hrest
theorem eqS_of {t : TypeId} {xs ys : Array Value} {b b' : Bool} (hs : P.underlying t = some (.struct (P.fieldsOf t))) (hp : P.stoodInHeld t = false) (h : ∀ w, (Op.eqFields 9999 xs ys (P.fieldsOf t).toList).run P w = .ok b w) (hb : b = b') : EqS P t xs ys b' := fun w => by
  subst hb
  exact (run_equalIn_struct w 9999 t xs ys hs hp).trans (h w)
/-- Arrays held against one another. -/
theorem eqA_of {t e : TypeId} {k : IntKind} {m : Nat} (hu : P.underlying t = some (.array m e)) (he : P.underlying e = some (.int k)) (hA : ∀ w, (isAgg e).run P w = .ok false w) (hz : ∀ w, (sizeOf e).run P w = .ok 1 w) {xs ys : List Int} (hx : xs.length = m) (hy : ys.length = m) {xa ya : Array Value} (hxa : xa = (xs.map (Value.int k)).toArray) (hya : ya = (ys.map (Value.int k)).toArray) {b : Bool} (hb : decide (xs = ys) = b) : EqS P t xa ya b := fun w => by
  subst hxa; subst hya; subst hb
  exact eq_arr' (q := 9999) hu (fun a b w => run_equalIn_int w 9998 e k k a b he) hA hz xs ys hx hy w
theorem Arr8.list_inj {x y : Arr8} : decide (x.list = y.list) = decide (x = y) := by
  cases x; cases y; simp [Arr8.list]
theorem Arr2.list_inj {x y : Arr2} : decide (x.list = y.list) = decide (x = y) := by
  cases x; cases y; simp [Arr2.list]
theorem beq_bytes (a b : ByteArray) : (a.toList == b.toList) = decide (a = b) := by
  rw [← beq_toListBytes]
  by_cases h : a = b
  · subst h; rw [beq_toListBytes]; simp
  · rw [beq_toListBytes]
    have : a.toList ≠ b.toList := by
      intro e
      apply h
      rw [ByteArray.toList_eq, ByteArray.toList_eq] at e
      obtain ⟨⟨x⟩⟩ := a
      obtain ⟨⟨y⟩⟩ := b
      simpa using e
    simp [h, this]

theorem ret_scope {Q : Exit → Act → World → Prop} (h : Q .ret a w) : Exit.noGoto Q .ret a w := h

/-- An element of an array by value. -/
theorem r_index_arr {t e : TypeId} {m : Nat} {x y : Operand} {xs : Array Value} {k : IntKind} {i : Int} {v : Value} (hu : P.underlying t = some (.array m e)) (hA : ∀ w, (isAgg e).run P w = .ok false w) (hz : ∀ w, (sizeOf e).run P w = .ok 1 w) (h0 : 0 ≤ i) (h1 : i < (m : Int)) (hv : xs[i.toNat]? = some v)
    (hK : Kn n a L) (hx : ev L x = some (.agg xs)) (hy : ev L y = some (.int k i)) : Runs P w a ⟨d, .index t x y, ty', pos, af, g⟩ v := by
  have hp := run_part1 (P := P) (w := w) (t := e) (o := i.toNat * 1) hA (by rw [Nat.mul_one]; exact hv)
  rw [Nat.mul_one] at hp
  simp [Runs, execOp, Instr.index, hK.ev hx, hK.ev hy, asIntOf, run_underlying hu, h0, h1, hz, hp]
theorem Arr8.ix_agg {h : Arr8} {i y : Int} (hh : h.ix i = some y) : (h.list.map (Value.int .i64 ·)).toArray[i.toNat]? = some (.int .i64 y) := by
  obtain ⟨_, _, h2⟩ := ix_some hh
  simp [h2]
theorem Arr2.ix_agg {h : Arr2} {i y : Int} (hh : h.ix i = some y) : (h.list.map (Value.int .i64 ·)).toArray[i.toNat]? = some (.int .i64 y) := by
  obtain ⟨_, _, h2⟩ := ix_some hh
  simp [h2]
/-- A function without a body of Go: the model's own entry. -/
theorem r_ext {f : FuncId} {z : Operand} {xs : List Operand} {ts : Array TypeId} {vs : List Value} {v : Value} (hf : (callFunc f vs.toArray).run P w = .ok (.value v) w) (hK : Kn n a L) (hx : ev L z = some (.func (.func f) #[] #[])) (hv : evs L xs = some vs) :
    Runs P w a ⟨d, .call { callee := .value z, args := xs.toArray, argTypes := ts }, ty', pos, af, g⟩ v := by
  have e : (xs.toArray.map a.eval) = vs.toArray := by rw [← hK.evs hv]; simp
  simp [Runs, execOp, resolve, hK.ev hx, Deferred.ofValue, invoke, e, hf]
/-- An array that is pointed to, as a slice. -/
theorem r_slice_arr0 {t e m z : TypeId} {x : Operand} {b o : Nat} (hu : P.underlying t = some (.array m e)) (hz : ∀ w, (sizeOf e).run P w = .ok z w) (hK : Kn n a L) (hx : ev L x = some (.pointer (some ⟨b, o, none⟩))) :
    Runs P w a ⟨d, .slice t x none none none, ty', pos, af, g⟩ (.slice (some ⟨b, o, none⟩) m m) := by
  have hb : (Instr.sliceBounds false m m none none none).run P w = .ok (0, m, m) w := by simp [Instr.sliceBounds]
  simp only [Runs, execOp, hK.ev hx, Instr.sliceAt, Sem.run_bind, run_underlying hu, Result.andThen_ok, Option.map_none, hb, hz, Sem.run_pure, Instr.sureAddr, Nat.zero_mul, Nat.sub_zero, add_lit, Nat.add_zero, ite_self]
theorem flat_map {α β : Type} (f : α → β) : ∀ xs : List α, xs.map f = (xs.map fun x => [f x]).flatten
  | [] => rfl
  | x :: r => by simp [flat_map f r]
theorem St.lend_part {w0 : World} {M : List Own} {R : Hp} {O N : List Own} {b o cap : Nat} {c : List Value} {t : TypeId} {xs : List Int} (h : St M w0 w R (N ++ O)) (hmem : Own.cells b c t ∈ O) (hc : (c.drop o).take xs.length = xs.map (Value.int .i64 ·)) (hcap : xs.length ≤ cap) : SlR (tyInt .i64) (lentOf N w) (.slice (some ⟨b, o, none⟩) xs.length cap) xs := by
  refine SlR.of_cells (cs := xs.map (Value.int .i64 ·)) rfl hcap ⟨xs.map fun x => [Value.int .i64 x], flat_map _ xs, by simp, fun i c x hc hx => ?_⟩ fun j u hu => ?_
  · rw [List.getElem?_map, hx] at hc
    exact (Option.some.inj hc).symm
  · rw [← hc, List.getElem?_take] at hu
    split at hu
    · rw [List.getElem?_drop] at hu
      have := h.lend_box hmem (o + j) u hu
      rwa [Nat.zero_add] at this
    · cases hu
theorem St.lend_part0 {w0 : World} {M : List Own} {R : Hp} {O : List Own} {b o cap : Nat} {c : List Value} {t : TypeId} {xs : List Int} (h : St M w0 w R O) (hmem : Own.cells b c t ∈ O) (hc : (c.drop o).take xs.length = xs.map (Value.int .i64 ·)) (hcap : xs.length ≤ cap) : SlR (tyInt .i64) (lentOf [] w) (.slice (some ⟨b, o, none⟩) xs.length cap) xs := St.lend_part (N := []) h hmem hc hcap
/-! literals whose parts are told by their cells -/
def PC (ps : List (Nat × Value)) (pcs : List (Nat × List Value)) : Prop := ps.map (fun p => (p.1, p.2.cells.toList)) = pcs
theorem pc_nil : PC [] [] := rfl
theorem pc_cons {i : Nat} {v : Value} {l : List Value} {ps : List (Nat × Value)} {pcs : List (Nat × List Value)} (h : v.cells.toList = l) (hr : PC ps pcs) : PC ((i, v) :: ps) ((i, l) :: pcs) := by
  unfold PC at *
  simp [h, hr]
theorem cells1 {v : Value} (h : v.oneCell' = true) : v.cells.toList = [v] := by cases v <;> first | rfl | (simp [Value.oneCell'] at h)
theorem cellsA {v : Value} (h : v.oneCell' = true) : v.cells = [v].toArray := by cases v <;> first | rfl | (simp [Value.oneCell'] at h)
def fillC (place : Nat → Option (Nat × Nat)) (cs : List Value) : List (Nat × List Value) → Option (List Value)
  | [] => some cs
  | (i, l) :: r => match place i with
    | none => none
    | some (off, size) => bif Nat.beq l.length size && Nat.ble (off + l.length) cs.length then fillC place (setAt cs off l) r else none
theorem fillL_C {place : Nat → Option (Nat × Nat)} : ∀ {ps : List (Nat × Value)} {pcs : List (Nat × List Value)} {cs c : List Value}, PC ps pcs → fillC place cs pcs = some c → fillL place cs ps = some c
  | [], pcs, cs, c, h, hf => by
    have : pcs = [] := h.symm
    subst this; exact hf
  | (i, v) :: ps, pcs, cs, c, h, hf => by
    have : pcs = (i, v.cells.toList) :: ps.map (fun p => (p.1, p.2.cells.toList)) := h.symm
    subst this
    simp only [fillC] at hf
    simp only [fillL]
    cases hp : place i with
    | none => simp [hp] at hf
    | some q =>
      obtain ⟨off, size⟩ := q
      simp only [hp] at hf ⊢
      cases hb : (Nat.beq v.cells.toList.length size && Nat.ble (off + v.cells.toList.length) cs.length) with
      | false => rw [hb] at hf; cases hf
      | true => rw [hb] at hf; exact fillL_C (ps := ps) rfl hf
section
variable {ops : Array Oper} {Q : Exit → Act → World → Prop} {w0 : World} {M : List Own} {R : Hp} {O : List Own} {rest : List Oper}
theorem r_buildC {t : TypeId} {fs : Array Field} {parts : List (Nat × Operand)} {ps : List (Nat × Value)} {pcs : List (Nat × List Value)} {pl : Array (Nat × Nat)} {zv : Value} {zc c : List Value} (hu : P.underlying t = some (.struct fs)) (hZ : ∀ w, (zeroValue t).run P w = .ok zv w)
    (hpl : ∀ w, (placesOf P t).run P w = .ok pl w) (hK : Kn n a L) (hp : evps L parts = some ps) (hpc : PC ps pcs) (hzc : zv.cells = zc.toArray) (hfl : fillC (pl[·]?) zc pcs = some c) :
    Runs P w a ⟨d, .build t parts.toArray, ty', pos, af, g⟩ (.agg c.toArray) := r_build hu hZ hpl hK hp hzc (fillL_C hpc hfl)
theorem r_buildAC {t e z m : TypeId} {parts : List (Nat × Operand)} {ps : List (Nat × Value)} {pcs : List (Nat × List Value)} {zv : Value} {zc c : List Value} (hu : P.underlying t = some (.array m e)) (hZ : ∀ w, (zeroValue t).run P w = .ok zv w) (hz : ∀ w, (sizeOf e).run P w = .ok z w)
    (hK : Kn n a L) (hp : evps L parts = some ps) (hpc : PC ps pcs) (hzc : zv.cells = zc.toArray) (hfl : fillC (fun i => some (i * z, z)) zc pcs = some c) : Runs P w a ⟨d, .build t parts.toArray, ty', pos, af, g⟩ (.agg c.toArray) := r_buildA hu hZ hz hK hp hzc (fillL_C hpc hfl)
theorem sl_buildSliceC {d : Nat} {ty : TypeId} {t e : TypeId} {m z : Nat} {parts : List (Nat × Operand)} {ps : List (Nat × Value)} {pcs : List (Nat × List Value)} {zv : Value} {zc c : List Value} (hu : P.underlying t = some (.slice e)) (hz : ∀ w, (sizeOf e).run P w = .ok z w) (hZ : ∀ w, (zeroValue e).run P w = .ok zv w)
    (hp : evps L parts = some ps) (hpc : PC ps pcs) (hsm : Nat.ble (m * z) (2 ^ 24) = true) (hzc : zv.cells = zc.toArray) (hzl : 0 < zc.length) {zs : List Value} (hzs : zerosL zc (m * z) = zs) (hfill : fillC (fun i => some (i * z, z)) zs pcs = some c)
    (hS : St M w0 w R O) (hK : Kn n a L) (hd : d < n.n) (hw : wantedL ops L ⟨some d, .buildSlice t m parts.toArray, ty, pos, af, g⟩ = some true)
    (h : ∀ a w b, St M w0 w R (.cells b c e :: O) → Kn n a ((d, .slice (some ⟨b, 0, none⟩) m m) :: L) → wpList P ops Q rest a w) : wpList P ops Q (⟨some d, .buildSlice t m parts.toArray, ty, pos, af, g⟩ :: rest) a w :=
  sl_buildSlice hu hz hZ hp hsm hzc hzl (fillL_C hpc (hzs ▸ hfill)) hS hK hd hw h
theorem setAt_eq : ∀ (vs cs : List Value) (off : Nat), off + vs.length ≤ cs.length → setAt cs off vs = cs.take off ++ (vs ++ cs.drop (off + vs.length))
  | [], cs, off, _ => by simp [setAt]
  | v :: r, cs, off, h => by
    simp only [List.length_cons] at h
    rw [setAt, setAt_eq r _ _ (by rw [List.length_set]; omega)]
    have h1 : off < cs.length := by omega
    have e1 : (cs.set off v).take (off + 1) = cs.take off ++ [v] := by
      rw [List.take_succ_eq_append_getElem (by rw [List.length_set]; exact h1), List.getElem_set_self, List.take_set_of_le (Nat.le_refl _)]
    have e2 : (cs.set off v).drop (off + 1 + r.length) = cs.drop (off + (v :: r).length) := by
      rw [List.drop_set_of_lt (by omega)]
      congr 1; simp only [List.length_cons]; omega
    rw [e1, e2]
    simp
def idxL : Nat → List (List Value) → List (Nat × List Value)
  | _, [] => []
  | k, l :: r => (k, l) :: idxL (k + 1) r
theorem fill_seq {z : Nat} : ∀ (ls : List (List Value)) (k : Nat) (pre zs : List Value), pre.length = k * z → zs.length = ls.length * z → (∀ l ∈ ls, l.length = z) → fillC (fun i => some (i * z, z)) (pre ++ zs) (idxL k ls) = some (pre ++ ls.flatten)
  | [], k, pre, zs, h1, h2, h3 => by
    have : zs = [] := List.eq_nil_of_length_eq_zero (by simpa using h2)
    subst this; simp [idxL, fillC]
  | l :: r, k, pre, zs, h1, h2, h3 => by
    have hl := h3 l (by simp)
    have hz : zs.length = z + r.length * z := by rw [h2, List.length_cons, Nat.add_mul]; omega
    have hb : (Nat.beq l.length z && Nat.ble (k * z + l.length) (pre ++ zs).length) = true := by
      rw [hl, Nat.beq_refl, Bool.true_and]
      exact Nat.ble_eq_true_of_le (by rw [List.length_append]; omega)
    simp only [idxL, fillC, hb, cond_true]
    rw [setAt_eq l _ _ (by rw [List.length_append]; omega), ← h1, List.take_left, hl, List.drop_append, List.drop_of_length_le (by omega), List.nil_append, show pre.length + z - pre.length = z by omega]
    have := fill_seq r (k + 1) (pre ++ l) (zs.drop z) (by rw [List.length_append, h1, hl, Nat.add_mul]; omega) (by rw [List.length_drop]; omega) (fun x hx => h3 x (by simp [hx]))
    rw [List.append_assoc] at this
    rw [this]
    simp
theorem zerosL_len (zc : List Value) (k : Nat) : (zerosL zc k).length = k := by simp [zerosL]
theorem sl_buildSliceF {d : Nat} {ty : TypeId} {t e : TypeId} {m z : Nat} {parts : List (Nat × Operand)} {ps : List (Nat × Value)} {zv : Value} {zc c : List Value} (ls : List (List Value)) (hu : P.underlying t = some (.slice e)) (hz : ∀ w, (sizeOf e).run P w = .ok z w) (hZ : ∀ w, (zeroValue e).run P w = .ok zv w)
    (hp : evps L parts = some ps) (hpc : PC ps (idxL 0 ls)) (hsm : Nat.ble (m * z) (2 ^ 24) = true) (hzc : zv.cells = zc.toArray) (hzl : 0 < zc.length) (hm : ls.length = m) (hls : ∀ l ∈ ls, l.length = z) (hc : ls.flatten = c)
    (hS : St M w0 w R O) (hK : Kn n a L) (hd : d < n.n) (hw : wantedL ops L ⟨some d, .buildSlice t m parts.toArray, ty, pos, af, g⟩ = some true)
    (h : ∀ a w b, St M w0 w R (.cells b c e :: O) → Kn n a ((d, .slice (some ⟨b, 0, none⟩) m m) :: L) → wpList P ops Q rest a w) : wpList P ops Q (⟨some d, .buildSlice t m parts.toArray, ty, pos, af, g⟩ :: rest) a w :=
  sl_buildSlice hu hz hZ hp hsm hzc hzl (fillL_C hpc (by
    have := fill_seq ls 0 [] (zerosL zc (m * z)) (by simp) (by rw [zerosL_len, hm]) hls
    rw [List.nil_append, List.nil_append, hc] at this
    exact this)) hS hK hd hw h
end
end
end Go.Eng
