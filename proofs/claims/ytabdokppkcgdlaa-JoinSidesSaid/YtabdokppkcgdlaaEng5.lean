/-
  The engine, part 5: strings and bytes, elements of rows that are owned, arrays, structs that are built.
-/
import Derived.Test.YtabdokppkcgdlaaEng4
import Derived.Lib.AppendStr
import Derived.Laws.BytesString
namespace Go.Eng
open Go.RowKit
set_option linter.unusedVariables false
set_option linter.unusedSimpArgs false

theorem ne_of_bne {p q : Int} (h : (p != q) = true) : p ≠ q := by simpa using h

/-- A text out of bytes; bytes out of a text. -/
def bstr (xs : List Int) : ByteArray := ⟨(xs.map fun x => UInt8.ofNat x.toNat).toArray⟩
def sbytes (s : ByteArray) : List Int := s.data.toList.map fun b => (b.toNat : Int)
/-- A part of a text. -/
def cuts (s : ByteArray) (l h : Int) : Option ByteArray := if 0 ≤ l then (if l ≤ h then (if h ≤ (s.size : Int) then some (s.extract l.toNat h.toNat) else none) else none) else none
theorem cuts_some {s t : ByteArray} {l h : Int} (hc : cuts s l h = some t) : 0 ≤ l ∧ l ≤ h ∧ h ≤ (s.size : Int) ∧ t = s.extract l.toNat h.toNat := by
  unfold cuts at hc
  split at hc
  · split at hc
    · split at hc
      · exact ⟨by assumption, by assumption, by assumption, (Option.some.inj hc).symm⟩
      · cases hc
    · cases hc
  · cases hc
/-- An element is turned. -/
def upd {α : Type} (xs : List α) (i : Int) (x : α) : List α := xs.set i.toNat x
theorem upd_length {α : Type} {xs : List α} {i : Int} {x : α} : (upd xs i x).length = xs.length := by simp [upd]
theorem ix_upd {α : Type} {xs : List α} {i : Int} {z : α} (k : Int) (x : α) (h : ix xs i = some z) : ∃ z', ix (upd xs k x) i = some z' := by
  obtain ⟨h0, h1, h2⟩ := ix_some h
  have hl : i.toNat < (upd xs k x).length := by rw [upd_length]; omega
  exact ⟨_, by unfold ix; rw [if_pos h0, List.getElem?_eq_getElem hl]⟩

section
variable {α : Type} {ty : Ty α}
variable {P : Program} {ops : Array Oper} {Q : Exit → Act → World → Prop} {a : Act} {w0 w : World} {M : List Own} {R : Hp} {O : List Own} {rest : List Oper} {n : Fr} {L : Sl}
variable {d : Option Tmp} {ty' : TypeId} {pos : String} {af : Array Edge} {g : Option (Nat × Bool)}

theorem r_index_str' {x y : Operand} {t : TypeId} {p : ByteArray} {k : IntKind} {i z : Int} (hu : P.underlying t = some .string) (hz : ixs p i = some z) (hK : Kn n a L) (hx : ev L x = some (.string p)) (hy : ev L y = some (.int k i)) :
    Runs P w a ⟨d, .index t x y, ty', pos, af, g⟩ (.int .u8 z) := by
  obtain ⟨h0, h1, h2⟩ := ixs_some hz
  subst h2
  exact r_index_str hu hK hx hy h0 h1
theorem r_slice_s {t : TypeId} {x : Operand} {lo hi : Option Operand} {s u : ByteArray} {l h : Int} (hu : P.underlying t = some .string) (hc : cuts s l h = some u) (hK : Kn n a L) (hx : ev L x = some (.string s))
    (hl : match lo with | some y => ∃ k, ev L y = some (.int k l) | none => l = 0) (hh : match hi with | some y => ∃ k, ev L y = some (.int k h) | none => h = (s.size : Int)) : Runs P w a ⟨d, .slice t x lo hi none, ty', pos, af, g⟩ (.string u) := by
  obtain ⟨h0, h1, h2, h3⟩ := cuts_some hc
  subst h3
  have hb : (Instr.sliceBounds false s.size s.size (lo.map a.eval) (hi.map a.eval) none).run P w = .ok (l.toNat, h.toNat, s.size) w := by
    unfold Instr.sliceBounds
    cases hi with
    | none =>
      simp only at hh; subst hh
      cases lo with
      | none => simp only at hl; subst hl; simp
      | some y => obtain ⟨k, hk⟩ := hl; simp [hK.ev hk, run_bound h0 (show l ≤ ((s.size : Nat) : Int) by omega)]
    | some z =>
      obtain ⟨k', hk'⟩ := hh
      cases lo with
      | none => simp only at hl; subst hl; simp [hK.ev hk', run_bound (show 0 ≤ h by omega) h2]
      | some y => obtain ⟨k, hk⟩ := hl; simp [hK.ev hk, hK.ev hk', run_bound (show 0 ≤ h by omega) h2, run_bound h0 (show l ≤ ((h.toNat : Nat) : Int) by omega)]
  simp only [Runs, execOp, hK.ev hx, Instr.sliceAt, Instr.slice, Sem.run_bind, run_underlying hu, Result.andThen_ok, Option.map_none, Option.isSome_none, Bool.false_eq_true, if_false, hb, Sem.run_pure]
theorem r_conv_ss {s t : TypeId} {x : Operand} {p : ByteArray} {ds : TypeDesc} (hs : P.underlying s = some .string) (ht : P.underlying t = some .string) (hK : Kn n a L) (hx : ev L x = some (.string p)) : Runs P w a ⟨d, .convert s t x, ty', pos, af, g⟩ (.string p) := by
  simp [Runs, execOp, hK.ev hx, convert, run_underlying hs, run_underlying ht]

theorem reps_u8 {cs : List Value} {xs : List Int} (h : Reps (tyInt .u8) R cs xs) : cs = xs.map (fun x => .int .u8 x) := by
  obtain ⟨css, h1, h2, h3⟩ := h
  subst h1
  induction xs generalizing css with
  | nil =>
    have : css = [] := List.eq_nil_of_length_eq_zero (by simpa using h2)
    subst this; rfl
  | cons x r ih =>
    cases css with
    | nil => simp at h2
    | cons c ds =>
      have hc : c = [.int .u8 x] := h3 0 c x rfl rfl
      subst hc
      simp only [List.flatten_cons, List.map_cons, List.singleton_append, List.cons.injEq, true_and]
      exact ih ds (by simpa using h2) (fun i c x hc hx => h3 (i + 1) c x (by simpa using hc) (by simpa using hx))
theorem push_all (xs : List Int) (acc : ByteArray) : xs.foldl (fun (s : ByteArray) x => s.push (UInt8.ofNat x.toNat)) acc = ⟨acc.data ++ (xs.map fun x => UInt8.ofNat x.toNat).toArray⟩ := by
  induction xs generalizing acc with
  | nil => simp
  | cons x r ih =>
    rw [List.foldl_cons, ih]
    congr 1
    simp [ByteArray.push]
theorem bstr_fold (xs : List Int) : xs.foldl (fun (s : ByteArray) x => s.push (UInt8.ofNat x.toNat)) ByteArray.empty = bstr xs := by
  rw [push_all]; simp [bstr, ByteArray.empty, ByteArray.emptyWithCapacity]; rfl
theorem r_conv_cells {s t e : TypeId} {x : Operand} {v : Value} {xs : List Int} {ad : Option Addr} {c : Nat} (hs : P.underlying s = some (.slice e)) (ht : P.underlying t = some .string) (he : P.underlying e = some (.int .u8)) (hv : v = .slice ad xs.length c)
    (hcell : xs ≠ [] → ∃ b o, ad = some ⟨b, o, none⟩ ∧ ∀ j u, (xs.map (fun x => Value.int .u8 x))[j]? = some u → w.cell? ⟨b, o + j, none⟩ = some u) (hK : Kn n a L) (hx : ev L x = some v) : Runs P w a ⟨d, .convert s t x, ty', pos, af, g⟩ (.string (bstr xs)) := by
  subst hv
  simp only [Runs, execOp, hK.ev hx, Sem.run_bind, run_convert_bytes_string w s t e ad xs.length c hs he ht]
  by_cases hne : xs = []
  · subst hne
    cases ad with
    | none => simp [Conv.bytesToString]; rfl
    | some ad =>
      have h := run_bytesToString (P := P) w ad 0 c [] (by simp [loadCells, loadCellsFrom])
      simp only [List.length_nil]
      rw [h]; rfl
  · obtain ⟨b, o, rfl, h⟩ := hcell hne
    have hl := cells_load P (w := w) (b := b) (o := o) (cs := xs.map (fun x => Value.int .u8 x)) h
    rw [List.length_map] at hl
    rw [run_bytesToString w _ _ c xs hl, bstr_fold]
    rfl
theorem r_conv_bs {s t e : TypeId} {x : Operand} {v : Value} {xs : List Int} (hs : P.underlying s = some (.slice e)) (ht : P.underlying t = some .string) (he : P.underlying e = some (.int .u8)) (hv : SlR (tyInt .u8) R v xs) (hK : Kn n a L) (hx : ev L x = some v) (hR : R.sub w) : Runs P w a ⟨d, .convert s t x, ty', pos, af, g⟩ (.string (bstr xs)) := by
  obtain ⟨ad, cap, cs, h1, _, h3, h4⟩ := hv.cells
  have := reps_u8 h3
  subst this
  exact r_conv_cells hs ht he h1 (fun hne => by
    obtain ⟨b, o, h5, h6⟩ := h4 hne
    exact ⟨b, o, h5, fun j u hu => hR.cell (h6 j u hu)⟩) hK hx
theorem r_conv_bn {s t e : TypeId} {x : Operand} (hs : P.underlying s = some (.slice e)) (ht : P.underlying t = some .string) (he : P.underlying e = some (.int .u8)) (hK : Kn n a L) (hx : ev L x = some (.slice none 0 0)) : Runs P w a ⟨d, .convert s t x, ty', pos, af, g⟩ (.string ⟨#[]⟩) :=
  r_conv_cells (xs := []) hs ht he rfl (fun h => absurd rfl h) hK hx
theorem row_cells {v : Value} {e size m : Nat} {cs : List Value} (hS : St M w0 w R O) (hm : Own.row e size v m cs ∈ O) : (v = .slice none 0 0 ∧ m = 0 ∧ cs = []) ∨ ∃ b c, v = .slice (some ⟨b, 0, none⟩) m c ∧ m ≤ c ∧ cs.length = m * size ∧ ∀ j u, cs[j]? = some u → w.cell? ⟨b, j, none⟩ = some u := by
  have hown : w.ownsRow 0 e size v m cs := hS.own _ hm
  rcases hown.2 with ⟨h1, h2⟩ | ⟨g, cap, cur, hv, _, hg, hnc, _, _, htake⟩
  · subst h2
    exact Or.inl ⟨h1, rfl, List.eq_nil_of_length_eq_zero (by simpa using hown.1)⟩
  · refine Or.inr ⟨g, cap, hv, hnc, hown.1, fun j u hu => ?_⟩
    rw [cell_of_row w g j cur e (0, 0) hg]
    rw [← htake, List.getElem?_take] at hu
    split at hu
    · simpa using hu
    · cases hu
theorem r_conv_bo {s t e : TypeId} {x : Operand} {v : Value} {xs : List Int} {et m : Nat} {cs : List Value} (hs : P.underlying s = some (.slice e)) (ht : P.underlying t = some .string) (he : P.underlying e = some (.int .u8)) (hcs : Reps (tyInt .u8) R cs xs) (hm : m = xs.length) (hS : St M w0 w R O) (hmem : Own.row et 1 v m cs ∈ O) (hK : Kn n a L) (hx : ev L x = some v) : Runs P w a ⟨d, .convert s t x, ty', pos, af, g⟩ (.string (bstr xs)) := by
  have := reps_u8 hcs
  subst this; subst hm
  rcases row_cells hS hmem with ⟨h1, h2, _⟩ | ⟨b, c, h1, h2, _, h3⟩
  · have : xs = [] := List.eq_nil_of_length_eq_zero h2
    subst this
    exact r_conv_cells (xs := []) hs ht he h1 (fun h => absurd rfl h) hK hx
  · exact r_conv_cells hs ht he h1 (fun _ => ⟨b, 0, rfl, fun j u hu => by rw [Nat.zero_add]; exact h3 j u hu⟩) hK hx
theorem r_len_O {x : Operand} {t e et size m : TypeId} {v : Value} {cs : List Value} (hu : P.underlying t = some (.slice e)) (hS : St M w0 w R O) (hmem : Own.row et size v m cs ∈ O) (hK : Kn n a L) (hx : ev L x = some v) : Runs P w a ⟨d, .call { callee := .builtin .len, args := #[x], argTypes := #[t] }, ty', pos, af, g⟩ (.int .i64 (m : Int)) := by
  have hown : w.ownsRow 0 et size v m cs := hS.own _ hmem
  obtain ⟨ad, c, h1, _⟩ := ownsRow_cap hown
  exact r_len_sl hu hK (by rw [hx, h1])
/-- An owned row's header. -/
theorem St.row_hdr {e size m : Nat} {v : Value} {cs : List Value} (hS : St M w0 w R O) (hmem : Own.row e size v m cs ∈ O) : ∃ ad c, v = .slice ad m c := by
  have hown : w.ownsRow 0 e size v m cs := hS.own _ hmem
  obtain ⟨ad, c, h1, _⟩ := ownsRow_cap hown
  exact ⟨ad, c, h1⟩
theorem r_len_V {x : Operand} {t e m c : Nat} {v : Value} {ad : Option Addr} (hu : P.underlying t = some (.slice e)) (hv : v = .slice ad m c) (hK : Kn n a L) (hx : ev L x = some v) : Runs P w a ⟨d, .call { callee := .builtin .len, args := #[x], argTypes := #[t] }, ty', pos, af, g⟩ (.int .i64 (m : Int)) := r_len_sl hu hK (by rw [hx, hv])
/-- An element of an owned row. -/
theorem St.row_ix {e size m : Nat} {v : Value} {cs : List Value} {xs : List α} {i : Int} {x : α} (hS : St M w0 w R O) (hmem : Own.row e size v m cs ∈ O) (hcs : Reps ty R cs xs) (hm : m = xs.length) (hty : ty.n = size) (hx : ix xs i = some x) :
    ∃ b c c1, v = .slice (some ⟨b, 0, none⟩) m c ∧ ty.rep R c1 x ∧ (∀ j u, c1[j]? = some u → cs[i.toNat * size + j]? = some u) ∧ 0 ≤ i ∧ i < (m : Int) := by
  subst hm; subst hty
  obtain ⟨h0, h1, h2⟩ := ix_some hx
  obtain ⟨c1, h3, h4⟩ := hcs.get h2
  rcases row_cells hS hmem with ⟨_, h6, _⟩ | ⟨b, c, h5, _, _, _⟩
  · omega
  · exact ⟨b, c, c1, h5, h3, h4, h0, h1⟩
theorem St.row_cell {e size m b c : Nat} {v u : Value} {cs : List Value} {k : Nat} (hS : St M w0 w R O) (hmem : Own.row e size v m cs ∈ O) (hv : v = .slice (some ⟨b, 0, none⟩) m c) (hu : cs[k]? = some u) : w.cell? ⟨b, 0 + k, none⟩ = some u := by
  rcases row_cells hS hmem with ⟨h1, _, _⟩ | ⟨b', c', h5, _, _, h6⟩
  · rw [hv] at h1; simp at h1
  · rw [hv] at h5
    simp only [Value.slice.injEq, Option.some.injEq, Addr.mk.injEq, and_true, true_and] at h5
    obtain ⟨rfl, rfl⟩ := h5
    rw [Nat.zero_add]; exact h6 k u hu
theorem Reps.set {cs : List Value} {xs : List α} {i : Nat} {x : α} {u : Value} (h : Reps ty R cs xs) (h1 : ty.n = 1) (hx : ty.rep R [u] x) : Reps ty R (cs.set i u) (xs.set i x) := by
  obtain ⟨css, h2, h3, h4, h5⟩ := h.all
  subst h2
  have key : ∀ (css : List (List Value)) (i : Nat), (∀ c ∈ css, c.length = 1) → css.flatten.set i u = (css.set i [u]).flatten := by
    intro css
    induction css with
    | nil => intro i _; simp
    | cons c r ih =>
      intro i hc
      obtain ⟨z, rfl⟩ : ∃ z, c = [z] := by
        have := hc c (by simp)
        match c, this with
        | [z], _ => exact ⟨z, rfl⟩
      cases i with
      | zero => simp
      | succ i => simp [← ih i (fun c hc' => hc c (by simp [hc']))]
  rw [key css i (fun c hc => by rw [(h4 c hc).1, h1])]
  refine ⟨css.set i [u], rfl, by simp [h3], fun j c y hc hy => ?_⟩
  rw [List.getElem?_set] at hc hy
  by_cases hij : i = j
  · subst hij
    by_cases hlt : i < css.length
    · simp only [if_true, hlt, h3 ▸ hlt] at hc hy
      cases hc; cases hy; exact hx
    · simp [hlt] at hc
  · rw [if_neg hij] at hc hy
    exact h5 j c y hc hy
theorem St.row_set {e m : Nat} {v : Value} {cs : List Value} {b c k : Nat} {u : Value} (hS : St M w0 w R (.row e 1 v m cs :: O)) (hv : v = .slice (some ⟨b, 0, none⟩) m c) : St M w0 (w.setCell ⟨b, k, none⟩ u) R (.row e 1 v m (cs.set k u) :: O) := by
  subst hv
  have hown : w.ownsRow 0 e 1 (.slice (some ⟨b, 0, none⟩) m c) m cs := hS.own (.row e 1 _ m cs) (List.mem_cons_self ..)
  obtain ⟨h1, h2⟩ := hown.stored k u
  exact hS.turn h2.os h2.tape h2.output h2.size (Nat.le_refl _) (fun j hj hne => h2.block j hj (fun e => hne (by rw [Own.blk, Value.ownBlock]; simpa using e.symm))) h1 (fun b' hb' => Or.inl hb')
theorem sl_store_row {t : TypeId} {x y : Operand} {e m b c : Nat} {v u : Value} {cs : List Value} {xs : List α} {i : Int} {z z0 : α} (hz : ∀ w, (sizeOf t).run P w = .ok 1 w) (hv : v = .slice (some ⟨b, 0, none⟩) m c) (hi : ix xs i = some z0) (h1 : ty.n = 1) (hrep : ty.rep R [u] z) (hcs : Reps ty R cs xs) (hm : m = xs.length)
    (hS : St M w0 w R (.row e 1 v m cs :: O)) (hK : Kn n a L) (hw : wantedL ops L ⟨none, .store t x y, ty', pos, af, g⟩ = some true) (hx : ev L x = some (.pointer (some ⟨b, 0 + i.toNat * 1, none⟩))) (hy : ev L y = some u) (ho : u.oneCell' = true)
    (h : ∀ a w cs', Reps ty R cs' (upd xs i z) → St M w0 w R (.row e 1 v (upd xs i z).length cs' :: O) → Kn n a L → wpList P ops Q rest a w) : wpList P ops Q (⟨none, .store t x y, ty', pos, af, g⟩ :: rest) a w := by
  subst hm
  obtain ⟨h0, h2, h3⟩ := ix_some hi
  have hlen := hcs.length
  rw [h1, Nat.mul_one] at hlen
  have hk : i.toNat < cs.length := by omega
  have hcell := hS.row_cell (.head _) hv (List.getElem?_eq_getElem hk)
  have hfz : w.frozen? ⟨b, 0 + i.toNat * 1, none⟩ = false := by
    have hown : w.ownsRow 0 e 1 v xs.length cs := hS.own (.row e 1 v _ cs) (List.mem_cons_self ..)
    subst hv
    exact hown.frozenAt _
  have hcells : u.cells = #[u] := by cases u <;> first | rfl | (simp [Value.oneCell'] at ho)
  refine sls hK hw rfl (w' := w.setCell ⟨b, i.toNat, none⟩ u) ?_ fun a' hK' => h a' _ (cs.set i.toNat u) (hcs.set h1 hrep) (by rw [show (upd xs i z).length = xs.length from by simp [upd]]; exact hS.row_set hv) hK'
  have e1 : (⟨b, 0 + i.toNat * 1, none⟩ : Addr) = ⟨b, i.toNat, none⟩ := by simp
  rw [e1] at hfz hx
  rw [Nat.zero_add] at hcell
  simp [execOp, hK.ev hx, hK.ev hy, Instr.storeAt, Instr.sureAddr, storeVar, hcells, hz, storeCells, add_lit, run_store P w _ u _ ho, hcell, hfz]

/-- A struct that is built out of its parts. -/
def placesOf (P : Program) (t : TypeId) : Sem (Array (Nat × Nat)) := (match P.underlying t with | some (.struct fs) => fs | _ => (#[] : Array Field)).mapM fun (f : Field) => do pure (f.offset, ← sizeOf f.type)
theorem r_build {t : TypeId} {fs : Array Field} {parts : List (Nat × Operand)} {ps : List (Nat × Value)} {pl : Array (Nat × Nat)} {zv : Value} {zc c : List Value} (hu : P.underlying t = some (.struct fs)) (hZ : ∀ w, (zeroValue t).run P w = .ok zv w)
    (hpl : ∀ w, (placesOf P t).run P w = .ok pl w) (hK : Kn n a L) (hp : evps L parts = some ps) (hzc : zv.cells = zc.toArray) (hfl : fillL (pl[·]?) zc ps = some c) :
    Runs P w a ⟨d, .build t parts.toArray, ty', pos, af, g⟩ (.agg c.toArray) := by
  have e2 : (parts.toArray.map fun (i, x) => (i, a.eval x)).toList = ps := by rw [← hK.evps hp]; simp
  have hf : Instr.fill (pl[·]?) zv.cells ps = some c.toArray := by rw [hzc, fill_eq, hfl]; rfl
  simp only [placesOf, hu] at hpl
  simp only [Runs, execOp, Instr.build, Sem.run_bind, hZ, Result.andThen_ok, run_underlying hu, e2]
  rw [hpl w]
  simp [hf]
theorem r_buildA {t e z m : TypeId} {parts : List (Nat × Operand)} {ps : List (Nat × Value)} {zv : Value} {zc c : List Value} (hu : P.underlying t = some (.array m e)) (hZ : ∀ w, (zeroValue t).run P w = .ok zv w) (hz : ∀ w, (sizeOf e).run P w = .ok z w)
    (hK : Kn n a L) (hp : evps L parts = some ps) (hzc : zv.cells = zc.toArray) (hfl : fillL (fun i => some (i * z, z)) zc ps = some c) : Runs P w a ⟨d, .build t parts.toArray, ty', pos, af, g⟩ (.agg c.toArray) := by
  have e2 : (parts.toArray.map fun (i, x) => (i, a.eval x)).toList = ps := by rw [← hK.evps hp]; simp
  have hf : Instr.fill (fun i => some (i * z, z)) zv.cells ps = some c.toArray := by rw [hzc, fill_eq, hfl]; rfl
  simp only [Runs, execOp, Instr.build, Sem.run_bind, hZ, Result.andThen_ok, run_underlying hu, hz, e2]
  simp [hf]
theorem rv_cell1 {t tt b : Nat} {v : Value} {t' : TypeId} (hA : ∀ w, (isAgg tt).run P w = .ok false w) (hS : St M w0 w R O) (hm : Own.cells b [v] t' ∈ O) (hK : Kn n a L) (hv : look L t = some (.pointer (some ⟨b, 0, none⟩))) : ResV P w a (.cell t tt) v :=
  ⟨⟨b, 0, none⟩, by simp [hK.at_ t _ hv], by simp [loadVar, hA, hS.cell hm (j := 0) rfl]⟩
theorem part_get {pre cs post l : List Value} {j : Nat} {v : Value} (h : cs[j]? = some v) (hl : l = pre ++ (cs ++ post)) : l[pre.length + j]? = some v := by
  subst hl
  have := (List.getElem?_eq_some_iff.1 h).1
  rw [List.getElem?_append_right (by omega), show pre.length + j - pre.length = j from by omega, List.getElem?_append_left this]
  exact h
theorem if_min (p q : Int) : (if q < p then q else p) = min p q := by
  by_cases h : q < p
  · rw [if_pos h, Int.min_eq_right (by omega)]
  · rw [if_neg h, Int.min_eq_left (by omega)]
theorem r_min2 {x y : Operand} {t1 t2 : TypeId} {k : IntKind} {p q : Int} (hK : Kn n a L) (hx : ev L x = some (.int k p)) (hy : ev L y = some (.int k q)) : Runs P w a ⟨d, .call { callee := .builtin .min, args := #[x, y], argTypes := #[t1, t2] }, ty', pos, af, g⟩ (.int k (min p q)) := by
  simp [Runs, execOp, resolve, invoke, builtin, hK.ev hx, hK.ev hy, Builtin.min_, Builtin.min2]
  exact if_min p q
/-- A literal that is turned into itself ([]byte("..")): from here on it is read only. -/
theorem sl_conv_lit {dd : Nat} {s e b m : Nat} {c : List Value} {x : Operand} {et : TypeId} {xs : List α} (hu : P.underlying s = some (.slice e)) (he : P.underlying e = some (.int .u8)) (hcs : Reps ty R c xs) (hm : m = xs.length)
    (hS : St M w0 w R (.cells b c et :: O)) (hK : Kn n a L) (hd : dd < n.n) (hw : wantedL ops L ⟨some dd, .convert s s x, ty', pos, af, g⟩ = some true) (hx : ev L x = some (.slice (some ⟨b, 0, none⟩) m m))
    (h : ∀ a w R', St M w0 w R' O → RLe M w0 R R' → SlR ty R' (.slice (some ⟨b, 0, none⟩) m m) xs → Kn n a ((dd, .slice (some ⟨b, 0, none⟩) m m) :: L) → wpList P ops Q rest a w) : wpList P ops Q (⟨some dd, .convert s s x, ty', pos, af, g⟩ :: rest) a w := by
  subst hm
  have hb : w.heap[b]? = some (.cells c.toArray et (0, 0)) := hS.own (.cells b c et) (List.mem_cons_self ..)
  have hblt := (Array.getElem?_eq_some_iff.1 hb).1
  let o' : Obj := .cells c.toArray et (c.length, c.length + 1)
  have hw' : ∀ k, (w.freeze ⟨b, c.length, none⟩ 1).heap[k]? = if k = b then some o' else w.heap[k]? := by
    intro k
    simp only [World.freeze, Nat.one_ne_zero, if_false, Array.getElem?_modify]
    by_cases e : b = k
    · subst e; simp [hb, o']
    · rw [if_neg e, if_neg (Ne.symm e)]
  have hs1 : (w.freeze ⟨b, c.length, none⟩ 1).heap.size = w.heap.size := by simp [World.freeze]
  -- the block is turned, then read only
  have hS1 : St M w0 (w.freeze ⟨b, c.length, none⟩ 1) R (.obj b o' :: O) := hS.turn rfl rfl rfl (by rw [hs1]; exact Nat.le_refl _) (by unfold World.freeze; split <;> exact Nat.le_refl _) (fun k _ hne => by rw [hw', if_neg (fun e => hne (by rw [Own.blk, e]))]) (by show _ = some o'; rw [hw', if_pos rfl]) (fun b' hb' => Or.inl hb')
  obtain ⟨R', h1, h2, h3⟩ := hS1.frozen rfl (show (w.freeze ⟨b, c.length, none⟩ 1).heap[b]? = some o' by rw [hw', if_pos rfl])
  have hsl : SlR ty R' (.slice (some ⟨b, 0, none⟩) xs.length xs.length) xs := SlR.of_cells rfl (Nat.le_refl _) (hcs.mono h2.le) (fun j u hu => by simp only [Hp.cell, h3, Nat.zero_add, o']; simpa using hu)
  refine slw hK hd hw rfl (v := .slice (some ⟨b, 0, none⟩) xs.length xs.length) (w' := w.freeze ⟨b, c.length, none⟩ 1) ?_ fun a' hK' => h a' _ R' h1 h2 hsl hK'
  have hsh : w.shape? b = some (et, c.length) := by simp [World.shape?, hb]
  simp [execOp, hK.ev hx, convert, run_underlying hu, run_underlying he, markStringish, hsh]
end

/-! Arrays of eight and of two numbers. -/
structure Arr8 where
  (a0 a1 a2 a3 a4 a5 a6 a7 : Int)
  deriving DecidableEq
structure Arr2 where
  (a0 a1 : Int)
  deriving DecidableEq
def Arr8.list (h : Arr8) : List Int := [h.a0, h.a1, h.a2, h.a3, h.a4, h.a5, h.a6, h.a7]
def Arr2.list (h : Arr2) : List Int := [h.a0, h.a1]
def Arr8.of : List Int → Option Arr8
  | [a, b, c, d, e, f, g, h] => some ⟨a, b, c, d, e, f, g, h⟩
  | _ => none
def Arr2.of : List Int → Option Arr2
  | [a, b] => some ⟨a, b⟩
  | _ => none
def Arr8.ix (h : Arr8) (i : Int) : Option Int := Eng.ix h.list i
def Arr2.ix (h : Arr2) (i : Int) : Option Int := Eng.ix h.list i
def Arr8.put (h : Arr8) (i v : Int) : Option Arr8 := if 0 ≤ i then (if i < 8 then Arr8.of (h.list.set i.toNat v) else none) else none
def Arr2.put (h : Arr2) (i v : Int) : Option Arr2 := if 0 ≤ i then (if i < 2 then Arr2.of (h.list.set i.toNat v) else none) else none
def Arr8.cells (h : Arr8) : List Value := h.list.map (.int .i64 ·)
def Arr2.cells (h : Arr2) : List Value := h.list.map (.int .i64 ·)
def ty_Arr8 : Ty Arr8 := Ty.flat 8 Arr8.cells (fun _ => rfl) (fun _ => all_cons rfl (all_cons rfl (all_cons rfl (all_cons rfl (all_cons rfl (all_cons rfl (all_cons rfl (all_cons rfl all_nil))))))))
def ty_Arr2 : Ty Arr2 := Ty.flat 2 Arr2.cells (fun _ => rfl) (fun _ => all_cons rfl (all_cons rfl all_nil))
theorem ix_lt {α : Type} {xs : List α} {i : Int} {x : α} {m : Nat} (h : Eng.ix xs i = some x) (hm : xs.length = m) : 0 ≤ i ∧ i < (m : Int) := by
  obtain ⟨h0, h1, _⟩ := ix_some h
  exact ⟨h0, by omega⟩
theorem Arr8.ix_lt {h : Arr8} {i x : Int} (hx : h.ix i = some x) : 0 ≤ i ∧ i < ((8 : Nat) : Int) := Eng.ix_lt hx rfl
theorem Arr2.ix_lt {h : Arr2} {i x : Int} (hx : h.ix i = some x) : 0 ≤ i ∧ i < ((2 : Nat) : Int) := Eng.ix_lt hx rfl
theorem cells_ix {xs : List Int} {i x : Int} (h : Eng.ix xs i = some x) (pre post : List Value) {o : Nat} (ho : pre.length = o) : (pre ++ (xs.map (Value.int .i64 ·) ++ post))[o + i.toNat * 1]? = some (.int .i64 x) := by
  obtain ⟨h0, h1, h2⟩ := ix_some h
  subst ho
  rw [List.getElem?_append_right (by omega), Nat.mul_one, Nat.add_sub_cancel_left, List.getElem?_append_left (by rw [List.length_map]; omega), List.getElem?_map, h2]
  rfl
theorem Arr8.ix_cells {h : Arr8} {i x : Int} (hx : h.ix i = some x) (pre post : List Value) {o : Nat} (ho : pre.length = o) : (pre ++ (h.cells ++ post))[o + i.toNat * 1]? = some (.int .i64 x) := cells_ix hx pre post ho
theorem Arr2.ix_cells {h : Arr2} {i x : Int} (hx : h.ix i = some x) (pre post : List Value) {o : Nat} (ho : pre.length = o) : (pre ++ (h.cells ++ post))[o + i.toNat * 1]? = some (.int .i64 x) := cells_ix hx pre post ho
theorem Arr8.put_some {h y : Arr8} {i v : Int} (hy : h.put i v = some y) : 0 ≤ i ∧ i < 8 ∧ y.list = h.list.set i.toNat v := by
  unfold Arr8.put at hy
  split at hy
  · split at hy
    · rename_i h0 h1
      refine ⟨h0, h1, ?_⟩
      have hl : (h.list.set i.toNat v).length = 8 := by simp [Arr8.list]
      match hs : h.list.set i.toNat v, hl with
      | [a, b, c, d, e, f, g, k], _ => rw [hs] at hy; simp only [Arr8.of, Option.some.injEq] at hy; subst hy; rfl
    · cases hy
  · cases hy
theorem Arr2.put_some {h y : Arr2} {i v : Int} (hy : h.put i v = some y) : 0 ≤ i ∧ i < 2 ∧ y.list = h.list.set i.toNat v := by
  unfold Arr2.put at hy
  split at hy
  · split at hy
    · rename_i h0 h1
      refine ⟨h0, h1, ?_⟩
      have hl : (h.list.set i.toNat v).length = 2 := by simp [Arr2.list]
      match hs : h.list.set i.toNat v, hl with
      | [a, b], _ => rw [hs] at hy; simp only [Arr2.of, Option.some.injEq] at hy; subst hy; rfl
    · cases hy
  · cases hy
theorem cells_put {xs ys : List Int} {i v : Int} (h : ys = xs.set i.toNat v) (hl : i.toNat < xs.length) (pre post : List Value) {o : Nat} (ho : pre.length = o) : (pre ++ (xs.map (Value.int .i64 ·) ++ post)).set (o + i.toNat * 1) (.int .i64 v) = pre ++ (ys.map (Value.int .i64 ·) ++ post) := by
  subst ho; subst h
  rw [Nat.mul_one, List.set_append_right _ _ (by omega), Nat.add_sub_cancel_left, List.set_append_left _ _ (by rw [List.length_map]; omega), List.map_set]
theorem Arr8.put_cells {h y : Arr8} {i v : Int} (hy : h.put i v = some y) (pre post : List Value) {o : Nat} (ho : pre.length = o) : (pre ++ (h.cells ++ post)).set (o + i.toNat * 1) (.int .i64 v) = pre ++ (y.cells ++ post) := by
  obtain ⟨h0, h1, h2⟩ := Arr8.put_some hy
  exact cells_put h2 (by simp [Arr8.list]; omega) pre post ho
theorem Arr2.put_cells {h y : Arr2} {i v : Int} (hy : h.put i v = some y) (pre post : List Value) {o : Nat} (ho : pre.length = o) : (pre ++ (h.cells ++ post)).set (o + i.toNat * 1) (.int .i64 v) = pre ++ (y.cells ++ post) := by
  obtain ⟨h0, h1, h2⟩ := Arr2.put_some hy
  exact cells_put h2 (by simp [Arr2.list]; omega) pre post ho
theorem Arr8.put_lt {h y : Arr8} {i v : Int} (hy : h.put i v = some y) {o m : Nat} (hm : o + 8 ≤ m) : o + i.toNat * 1 < m := by
  obtain ⟨h0, h1, _⟩ := Arr8.put_some hy; omega
theorem Arr2.put_lt {h y : Arr2} {i v : Int} (hy : h.put i v = some y) {o m : Nat} (hm : o + 2 ≤ m) : o + i.toNat * 1 < m := by
  obtain ⟨h0, h1, _⟩ := Arr2.put_some hy; omega
end Go.Eng
