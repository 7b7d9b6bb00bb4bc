/-
  The engine, part 7: rows as bare blocks (room behind the end, copy, insertion).
-/
import Derived.Test.YtabdokppkcgdlaaEng6
import Derived.Lib.AppendZerosOnto
import Derived.Lib.Overlaps
import Derived.Laws.Externs
namespace Go.Eng
open Go.RowKit
set_option linter.unusedVariables false
set_option linter.unusedSimpArgs false
section
variable {α : Type} {ty : Ty α}
variable {P : Program} {ops : Array Oper} {Q : Exit → Act → World → Prop} {a : Act} {w0 w : World} {M : List Own} {R : Hp} {O : List Own} {rest : List Oper} {n : Fr} {L : Sl}
variable {d : Option Tmp} {ty' : TypeId} {pos : String} {af : Array Edge} {g : Option (Nat × Bool)}

/-- A row that is not nil, as a bare block. -/
theorem St.row_raw {e z m : Nat} {v : Value} {cs : List Value} (h : St M w0 w R (.row e z v m cs :: O)) : (v = .slice none 0 0 ∧ m = 0 ∧ cs = []) ∨
    ∃ b cap cur, v = .slice (some ⟨b, 0, none⟩) m cap ∧ m ≤ cap ∧ cap ≤ maxLen ∧ cur.length = cap * z ∧ cur.take (m * z) = cs ∧ St M w0 w R (.cells b cur e :: O) := by
  have hown : w.ownsRow 0 e z v m cs := h.own (.row e z v m cs) (List.mem_cons_self ..)
  rcases hown.2 with ⟨h1, h2⟩ | ⟨b, cap, cur, h1, h2, h3, h4, h5, h6, h7⟩
  · refine Or.inl ⟨h1, h2, List.eq_nil_of_length_eq_zero ?_⟩
    rw [hown.1, h2, Nat.zero_mul]
  · refine Or.inr ⟨b, cap, cur.toList, h1, h4, h5, by simpa using h6, h7, ?_⟩
    refine h.turn rfl rfl rfl (Nat.le_refl _) (Nat.le_refl _) (fun _ _ _ => rfl) ?_ (fun b' hb' => Or.inl (by rw [Own.blk, h1, Value.ownBlock]; simpa [Own.blk] using hb'))
    show w.heap[b]? = _
    rw [h3]
/-- .. and back. -/
theorem St.raw_row {e z m b cap : Nat} {cur : List Value} (h : St M w0 w R (.cells b cur e :: O)) (hm : m ≤ cap) (hc : cap ≤ maxLen) (hl : cur.length = cap * z) : St M w0 w R (.row e z (.slice (some ⟨b, 0, none⟩) m cap) m (cur.take (m * z)) :: O) := by
  have hb : w.heap[b]? = some (.cells cur.toArray e (0, 0)) := h.own (.cells b cur e) (List.mem_cons_self ..)
  refine h.turn rfl rfl rfl (Nat.le_refl _) (Nat.le_refl _) (fun _ _ _ => rfl) ⟨?_, Or.inr ⟨b, cap, cur.toArray, rfl, Nat.zero_le _, hb, hm, hc, by simpa using hl, by simp⟩⟩ (fun b' hb' => Or.inl hb')
  have := Nat.mul_le_mul_right z hm
  rw [List.length_take]; omega

theorem r_cap {x : Operand} {t e : TypeId} {ad : Option Addr} {m c : Nat} (hu : P.underlying t = some (.slice e)) (hK : Kn n a L) (hx : ev L x = some (.slice ad m c)) : Runs P w a ⟨d, .call { callee := .builtin .cap, args := #[x], argTypes := #[t] }, ty', pos, af, g⟩ (.int .i64 (c : Int)) := by
  simp [Runs, execOp, resolve, invoke, builtin, Builtin.cap_, hK.ev hx, run_underlying hu, goInt]
/-- s[l:h] of a header, up to its capacity. -/
theorem r_slice_H {t e z : TypeId} {x : Operand} {lo hi : Option Operand} {ad : Option Addr} {m c l h : Nat} (hu : P.underlying t = some (.slice e)) (hz : ∀ w, (sizeOf e).run P w = .ok z w) (h1 : l ≤ h) (h2 : h ≤ c) (hK : Kn n a L) (hx : ev L x = some (.slice ad m c))
    (hl : match lo with | some y => ∃ k, ev L y = some (.int k (l : Int)) | none => l = 0) (hh : match hi with | some y => ∃ k, ev L y = some (.int k (h : Int)) | none => h = m) :
    Runs P w a ⟨d, .slice t x lo hi none, ty', pos, af, g⟩ (.slice (if c = l then ad else ad.map (·.add (l * z))) (h - l) (c - l)) := by
  have elo : ∀ w, (match lo.map a.eval with | some v => Instr.sliceBound v h (.sliceB) | none => pure 0 : Sem Nat).run P w = .ok l w := by
    intro w
    cases lo with
    | none => simp only at hl; subst hl; rfl
    | some y => obtain ⟨k, hk⟩ := hl; simp only [Option.map_some, hK.ev hk]; exact (run_bound (by omega) (by omega)).trans (by simp)
  have ehi : ∀ w, (match hi.map a.eval with | some v => Instr.sliceBound v c (.sliceAcap) | none => pure m : Sem Nat).run P w = .ok h w := by
    intro w
    cases hi with
    | none => simp only at hh; subst hh; rfl
    | some y => obtain ⟨k, hk⟩ := hh; simp only [Option.map_some, hK.ev hk]; exact (run_bound (by omega) (by omega)).trans (by simp)
  have hb : ∀ w, (Instr.sliceBounds true m c (lo.map a.eval) (hi.map a.eval) none).run P w = .ok (l, h, c) w := by
    intro w
    unfold Instr.sliceBounds
    simp only [Sem.run_bind, Sem.run_pure, Result.andThen_ok]
    have ehi' := ehi w
    have elo' := elo w
    cases hi with
    | none =>
      cases lo with
      | none => simp at elo' ehi' ⊢; exact ⟨elo', ehi'⟩
      | some y => simp at elo' ehi' ⊢; simp [ehi', elo']
    | some z =>
      cases lo with
      | none => simp at elo' ehi' ⊢; simp [ehi', elo']
      | some y => simp at elo' ehi' ⊢; simp [ehi', elo']
  simp only [Runs, execOp, hK.ev hx, Instr.sliceAt, Instr.slice, Sem.run_bind, run_underlying hu, Result.andThen_ok, Option.map_none, hb, hz, Sem.run_pure]

/-- copy, the source's cells known. -/
theorem copy_run {t e z : TypeId} {b o m m' c c' k : Nat} {cur news : List Value} {ad : Option Addr} (hu : P.underlying t = some (.slice e)) (hz : ∀ w, (sizeOf e).run P w = .ok z w)
    (hS : St M w0 w R (.cells b cur e :: O)) (hk : Nat.min m' m = k) (hl : news.length = k * z) (h1 : ∀ u ∈ news, u.oneCell' = true) (ho : o + k * z ≤ cur.length)
    (hsrc : k ≠ 0 → ∃ b' o', ad = some ⟨b', o', none⟩ ∧ ∀ j u, news[j]? = some u → w.cell? ⟨b', o' + j, none⟩ = some u) (tt : TypeId) :
    ∃ w', (Builtin.copy_ #[t, t] tt #[.slice (some ⟨b, o, none⟩) m c, .slice ad m' c']).run P w = .ok (.int .i64 (k : Int)) w' ∧ St M w0 w' R (.cells b (cur.take o ++ news ++ cur.drop (o + news.length)) e :: O) := by
  have hb : w.heap[b]? = some (.cells cur.toArray e (0, 0)) := hS.own (.cells b cur e) (List.mem_cons_self ..)
  have hst := run_storeCells_at P b o e news 0 cur.toArray w hb (by simp only [Nat.add_zero, List.size_toArray]; omega) h1
  simp only [Nat.add_zero] at hst
  refine ⟨w.setRow b (cur.take o ++ news ++ cur.drop (o + news.length)).toArray, ?_, hS.setAll⟩
  by_cases h0 : k = 0
  · have hn : news = [] := List.eq_nil_of_length_eq_zero (by rw [hl, h0, Nat.zero_mul])
    subst hn
    have hs : w.setRow b (cur.take o ++ [] ++ cur.drop (o + 0)).toArray = w := by
      simp only [List.append_nil, Nat.add_zero, List.take_append_drop]
      exact setRow_self w b cur.toArray e (0, 0) hb
    rw [List.length_nil, hs]
    have hk0 : Nat.min m' m = 0 := by rw [hk, h0]
    cases ad with
    | none => simp [Builtin.copy_, run_underlying hu, Builtin.lenOf, Builtin.firstCells, hz, hk0, goInt, h0, storeCells]
    | some ad => simp [Builtin.copy_, run_underlying hu, Builtin.lenOf, Builtin.firstCells, hz, hk0, goInt, h0, storeCells, loadCells, loadCellsFrom]
  · obtain ⟨b', o', rfl, hc⟩ := hsrc h0
    have hld := cells_load P hc
    rw [hl] at hld
    simp only [Builtin.copy_, run_underlying hu, Builtin.lenOf, Sem.run_bind, Sem.run_pure, Result.andThen_ok, hz, hk, Builtin.firstCells, hld, goInt]
    simp only [List.getElem?_toArray, List.getElem?_cons_zero, List.getElem?_cons_succ, Sem.run_bind, run_underlying hu, Result.andThen_ok, Sem.run_pure, hz, hk, hld, hst]

theorem copy_op {x y : Operand} {t : TypeId} {u v v' : Value} {w' : World} (hK : Kn n a L) (hx : ev L x = some v) (hy : ev L y = some u) (hr : (Builtin.copy_ #[t, t] ty' #[v, u]).run P w = .ok v' w') :
    (execOp a.eval ⟨d, .call { callee := .builtin .copy, args := #[x, y], argTypes := #[t, t] }, ty', pos, af, g⟩).run P w = .ok (.value v') w' := by
  simp [execOp, resolve, invoke, builtin, hK.ev hx, hK.ev hy, hr]
/-- copy within one block, or out of read only memory: cells that are known. -/
theorem sl_copy {dd : Nat} {x y : Operand} {t e z b o m m' c c' k : Nat} {cur news : List Value} {ad : Option Addr} {v u : Value} (hu : P.underlying t = some (.slice e)) (hz : ∀ w, (sizeOf e).run P w = .ok z w)
    (hk : Nat.min m' m = k) (hl : news.length = k * z) (h1 : ∀ u ∈ news, u.oneCell' = true) (ho : o + k * z ≤ cur.length) (hsrc : k ≠ 0 → ∃ b' o', ad = some ⟨b', o', none⟩ ∧ ∀ j u, news[j]? = some u → w.cell? ⟨b', o' + j, none⟩ = some u)
    (hS : St M w0 w R (.cells b cur e :: O)) (hK : Kn n a L) (hd : dd < n.n) (hw : wantedL ops L ⟨some dd, .call { callee := .builtin .copy, args := #[x, y], argTypes := #[t, t] }, ty', pos, af, g⟩ = some true)
    (hx : ev L x = some v) (hy : ev L y = some u) (hv : v = .slice (some ⟨b, o, none⟩) m c) (hu' : u = .slice ad m' c')
    (h : ∀ a w, St M w0 w R (.cells b (cur.take o ++ news ++ cur.drop (o + news.length)) e :: O) → Kn n a ((dd, .int .i64 (k : Int)) :: L) → wpList P ops Q rest a w) :
    wpList P ops Q (⟨some dd, .call { callee := .builtin .copy, args := #[x, y], argTypes := #[t, t] }, ty', pos, af, g⟩ :: rest) a w := by
  subst hv; subst hu'
  obtain ⟨w', hr, hS'⟩ := copy_run (tt := ty') (c := c) (c' := c') hu hz hS hk hl h1 ho hsrc
  exact slw hK hd hw rfl (copy_op hK hx hy hr) fun a' hK' => h a' w' hS' hK'

/-- append(s[:i], make([]T, k)...) where there is no room: a new block. -/
theorem sl_append_zeros {dd : Nat} {x y : Operand} {t tn e size bytes i cap k : Nat} {kq kn : IntKind} {ad : Option Addr} {olds : List Value} (hE : ElT P t e size bytes) (htn : P.underlying tn = some (.int kn)) (hk : 0 < k) (hg : cap < i + k) (hB : 1 ≤ bytes) (hb : (i + k) * bytes ≤ 140737488355328)
    (hol : olds.length = i * size) (hold : olds ≠ [] → ∃ b o, ad = some ⟨b, o, none⟩ ∧ ∀ j u, olds[j]? = some u → w.cell? ⟨b, o + j, none⟩ = some u) (had : i ≠ 0 → ad ≠ none)
    (hS : St M w0 w R O) (hK : Kn n a L) (hd : dd < n.n) (hw : wantedL ops L ⟨some dd, .call { callee := .builtin .append, args := #[x, y], argTypes := #[t, tn] }, ty', pos, af, g⟩ = some true)
    (hx : ev L x = some (.slice ad i cap)) (hy : ev L y = some (.int kq (k : Int)))
    (h : ∀ a w b cap' rest', i + k ≤ cap' → cap' ≤ maxLen → (olds ++ rest').length = cap' * size → St M w0 w R (.cells b (olds ++ rest') e :: O) → Kn n a ((dd, .slice (some ⟨b, 0, none⟩) (i + k) cap') :: L) → wpList P ops Q rest a w) :
    wpList P ops Q (⟨some dd, .call { callee := .builtin .append, args := #[x, y], argTypes := #[t, tn] }, ty', pos, af, g⟩ :: rest) a w := by
  obtain ⟨ti, z, hi, hz0, hsz, hby, hzs⟩ := hE.ex
  have hpos := hE.pos
  subst hsz; subst hby
  have hle : i + k ≤ 140737488355328 := Nat.le_trans (Nat.le_mul_of_pos_right _ hB) hb
  have hold' : (Builtin.firstCells ti.size i (.slice ad i cap)).run P w.drew = .ok olds.toArray w.drew := by
    by_cases hne : olds = []
    · subst hne
      have h0 : i * ti.size = 0 := by simpa using hol.symm
      cases ad with
      | none => rfl
      | some ad => simp [Builtin.firstCells, h0, loadCells, loadCellsFrom]
    · obtain ⟨b, o, rfl, hc⟩ := hold hne
      have := cells_load P (w := w.drew) (b := b) (o := o) (cs := olds) (fun j u hu => hc j u hu)
      rw [hol] at this
      simpa [Builtin.firstCells] using this
  have hr := Lib.run_append_grow_zeros (P := P) w t tn ty' e ti z kq kn hE.und htn hi hz0 ad i cap olds hold' k hk hpos hg (by omega)
    (Nat.le_trans (Nat.le_trans (Nat.mul_le_mul_right _ (by omega : k ≤ i + k)) hb) (by decide)) (growslice_fits (by omega) hb)
  have hge := grownCap_ge w (i + k) cap e
  have hcm : grownCap w (i + k) cap e ≤ maxLen := grownCap_le_maxLen w (i + k) cap e (by simp only [maxLen]; omega)
  have harr : olds.toArray ++ Builtin.zeroCells z.cells k ++ Builtin.zeroCells z.cells (grownCap w (i + k) cap e - (i + k)) = (olds ++ ((Builtin.zeroCells z.cells k).toList ++ (Builtin.zeroCells z.cells (grownCap w (i + k) cap e - (i + k))).toList)).toArray := by
    apply Array.ext'
    simp
  rw [harr] at hr
  have hS' := (hS.drew (w.drawn + 1) (Nat.le_succ _)).alloc (olds ++ ((Builtin.zeroCells z.cells k).toList ++ (Builtin.zeroCells z.cells (grownCap w (i + k) cap e - (i + k))).toList)) e
  refine slw hK hd hw rfl (v := .slice (some ⟨w.heap.size, 0, none⟩) (i + k) (grownCap w (i + k) cap e)) (w' := w.drew.alloc (.cells (olds ++ ((Builtin.zeroCells z.cells k).toList ++ (Builtin.zeroCells z.cells (grownCap w (i + k) cap e - (i + k))).toList)).toArray e)) ?_
    fun a' hK' => h a' _ w.heap.size (grownCap w (i + k) cap e) _ hge hcm ?_ hS' hK'
  · simp [execOp, resolve, invoke, builtin, hK.ev hx, hK.ev hy, hr]
  · simp only [List.length_append, Array.length_toList, size_zeroCells, hzs, hol, ← Nat.add_mul]
    congr 1; omega
/-- Two blocks of the call's own do not overlap. -/
theorem r_overlaps {f : FuncId} {fn : Func} {x y z : Operand} {ts : Array TypeId} {tS tR e size : TypeId} {b b' m c m' c' o : Nat} {cur ds : List Value} {e' : TypeId} (hf : P.funcs[f]? = some fn) (hname : (fn.name == "runtime.NumGoroutine") = false) (hb : fn.body.isNone = true) (hn : Extern.findNext fn = none) (he : Extern.find fn = some (Extern.SlicesOverlaps.overlaps #[tS, tS] #[tR]))
    (ht : P.underlying tS = some (.slice e)) (hz : ∀ w, (sizeOf e).run P w = .ok size w) (hS : St M w0 w R (.cells b' cur e' :: .cells b ds e :: O)) (hcur : cur ≠ [])
    (hK : Kn n a L) (hx : ev L z = some (.func (.func f) #[] #[])) (h1 : ev L x = some (.slice (some ⟨b, 0, none⟩) m c)) (h2 : ev L y = some (.slice (some ⟨b', o, none⟩) m' c')) :
    Runs P w a ⟨d, .call { callee := .value z, args := #[x, y], argTypes := ts }, ty', pos, af, g⟩ (.bool false) := by
  have hb1 : w.heap[b']? = some (.cells cur.toArray e' (0, 0)) := hS.own (.cells b' cur e') (List.mem_cons_self ..)
  have hb2 : w.heap[b]? = some (.cells ds.toArray e (0, 0)) := hS.own (.cells b ds e) (by simp)
  have hne : b ≠ b' := fun e1 => (List.pairwise_cons.1 hS.sep).1 (.cells b ds e) (List.mem_cons_self ..) b' rfl (by rw [Own.blk, e1])
  have hov := Lib.run_overlaps_apart (P := P) w tS tR e ht size hz ⟨b, 0, none⟩ ⟨b', o, none⟩ m c m' c' hne e e' ds.length cur.length (by simp [World.shape?, hb2]) (by simp [World.shape?, hb1]) (by simpa using hcur) (by simp [World.frozen?, hb2]) (by simp [World.frozen?, hb2])
  have hcall := run_callFunc_extern hf hname hb hn he #[.slice (some ⟨b, 0, none⟩) m c, .slice (some ⟨b', o, none⟩) m' c'] w
  rw [hov] at hcall
  simp [Runs, execOp, resolve, hK.ev hx, hK.ev h1, hK.ev h2, Deferred.ofValue, invoke, hcall]

theorem r_slice_Hv {t e z : TypeId} {x : Operand} {lo hi : Option Operand} {b o m c l h o' m' c' : Nat} (hu : P.underlying t = some (.slice e)) (hz : ∀ w, (sizeOf e).run P w = .ok z w) (h1 : l ≤ h) (h2 : h ≤ c) (hne : l < c ∨ l = 0) (ho : o + l * z = o') (hm : h - l = m') (hc : c - l = c') (hK : Kn n a L) (hx : ev L x = some (.slice (some ⟨b, o, none⟩) m c))
    (hl : match lo with | some y => ∃ k, ev L y = some (.int k (l : Int)) | none => l = 0) (hh : match hi with | some y => ∃ k, ev L y = some (.int k (h : Int)) | none => h = m) :
    Runs P w a ⟨d, .slice t x lo hi none, ty', pos, af, g⟩ (.slice (some ⟨b, o', none⟩) m' c') := by
  subst ho; subst hm; subst hc
  have := r_slice_H (w := w) (d := d) (ty' := ty') (pos := pos) (af := af) (g := g) hu hz h1 h2 hK hx hl hh
  have e1 : (if c = l then (some ⟨b, o, none⟩ : Option Addr) else (some ⟨b, o, none⟩ : Option Addr).map (·.add (l * z))) = some ⟨b, o + l * z, none⟩ := by
    split
    · have : l = 0 := by omega
      subst this; simp
    · simp [add_lit]
  rw [e1] at this
  exact this
/-- append, the source's cells known. -/
theorem sl_append_C {dd : Nat} {s x : Operand} {t e size bytes : Nat} {v u : Value} {m k c : Nat} {cs ds : List Value} {ad : Option Addr} (hE : ElT P t e size bytes) (hB : 1 ≤ bytes) (hl : ds.length = k * size) (h1 : ∀ u ∈ ds, u.oneCell' = true) (hb : (m + k) * bytes ≤ 140737488355328)
    (hu : u = .slice ad k c) (hsrc : k ≠ 0 → ∃ b o, ad = some ⟨b, o, none⟩ ∧ ∀ j u, ds[j]? = some u → w.cell? ⟨b, o + j, none⟩ = some u)
    (hS : St M w0 w R (.row e size v m cs :: O)) (hK : Kn n a L) (hd : dd < n.n) (hw : wantedL ops L ⟨some dd, .call { callee := .builtin .append, args := #[s, x], argTypes := #[t, t] }, ty', pos, af, g⟩ = some true) (hs : ev L s = some v) (hx : ev L x = some u)
    (h : ∀ a w v', St M w0 w R (.row e size v' (m + k) (cs ++ ds) :: O) → Kn n a ((dd, v') :: L) → wpList P ops Q rest a w) :
    wpList P ops Q (⟨some dd, .call { callee := .builtin .append, args := #[s, x], argTypes := #[t, t] }, ty', pos, af, g⟩ :: rest) a w := by
  subst hu
  obtain ⟨v', w', hr, hS'⟩ := run_append (tt := ty') (c := c) (news := ds) (ad := ad) hE hB hS hl h1 hb hsrc
  exact slw hK hd hw rfl (append_op hK hs hx hr) fun a' hK' => h a' w' v' hS' hK'
/-- append(s, x, y, ..), s a literal that is read only by now: a new block. -/
theorem sl_append_FL {dd : Nat} {s x : Operand} {t e size bytes m k b b0 : Nat} {t' : TypeId} {ds : List Value} {xs ys zs : List α} (hE : ElT P t e size bytes) (hB : 1 ≤ bytes) (hty : ty.n = size) (hs0 : SlR ty R (.slice (some ⟨b0, 0, none⟩) m m) xs) (hds : Reps ty R ds ys) (hk : k = ys.length) (hpos : 0 < k) (hz : apd bytes xs ys = some zs)
    (hS : St M w0 w R (.cells b ds t' :: O)) (hK : Kn n a L) (hd : dd < n.n) (hw : wantedL ops L ⟨some dd, .call { callee := .builtin .append, args := #[s, x], argTypes := #[t, t] }, ty', pos, af, g⟩ = some true) (hs : ev L s = some (.slice (some ⟨b0, 0, none⟩) m m)) (hx : ev L x = some (.slice (some ⟨b, 0, none⟩) k k))
    (h : ∀ a w v' cs', Reps ty R cs' zs → St M w0 w R (.row e size v' zs.length cs' :: O) → Kn n a ((dd, v') :: L) → wpList P ops Q rest a w) :
    wpList P ops Q (⟨some dd, .call { callee := .builtin .append, args := #[s, x], argTypes := #[t, t] }, ty', pos, af, g⟩ :: rest) a w := by
  subst hty; subst hk
  obtain ⟨hb, hzs⟩ := apd_some hz
  obtain ⟨ad, cap, cs, hv, _, hcs, hcell⟩ := hs0.cells
  simp only [Value.slice.injEq] at hv
  obtain ⟨rfl, rfl, _⟩ := hv
  obtain ⟨ti, z, hi, hz0, hsz, hby, hzs2⟩ := hE.ex
  have hle : xs.length + ys.length ≤ 140737488355328 := Nat.le_trans (Nat.le_mul_of_pos_right _ hB) hb
  have holds : ∀ j u, cs[j]? = some u → w.cell? ((⟨b0, 0, none⟩ : Addr).add j) = some u := fun j u hu => by
    by_cases hne : xs = []
    · subst hne
      have : cs = [] := List.eq_nil_of_length_eq_zero (by rw [hcs.length]; simp)
      subst this; simp at hu
    · obtain ⟨b1, o1, e1, h1⟩ := hcell hne
      simp only [Option.some.injEq, Addr.mk.injEq, and_true] at e1
      obtain ⟨rfl, rfl⟩ := e1
      rw [add_lit]; exact hS.rcell (h1 j u hu)
  have hnews : ∀ j u, ds[j]? = some u → w.cell? ((⟨b, 0, none⟩ : Addr).add j) = some u := fun j u hu => by rw [add_lit, Nat.zero_add]; exact hS.cell (.head _) hu
  have hr := run_append_grow (P := P) w t ty' e ti z hE.und hi hz0 ⟨b0, 0, none⟩ xs.length xs.length cs (by rw [hsz]; exact hcs.length) holds ⟨b, 0, none⟩ ys.length ys.length ds (by rw [hsz]; exact hds.length) hnews (by omega) (by omega) (growslice_fits (by omega) (by rw [hby]; exact hb))
  have hge := grownCap_ge w (xs.length + ys.length) xs.length e
  have hcm : grownCap w (xs.length + ys.length) xs.length e ≤ maxLen := grownCap_le_maxLen w _ _ e (by simp only [maxLen]; omega)
  have harr : cs.toArray ++ ds.toArray ++ Builtin.zeroCells z.cells (grownCap w (xs.length + ys.length) xs.length e - (xs.length + ys.length)) = (cs ++ ds ++ (Builtin.zeroCells z.cells (grownCap w (xs.length + ys.length) xs.length e - (xs.length + ys.length))).toList).toArray := by
    apply Array.ext'
    simp
  rw [harr] at hr
  have hlen : (cs ++ ds).length = (xs.length + ys.length) * ty.n := by rw [List.length_append, hcs.length, hds.length, Nat.add_mul]
  have hS' := ((hS.tail.drew (w.drawn + 1) (Nat.le_succ _)).alloc (cs ++ ds ++ (Builtin.zeroCells z.cells (grownCap w (xs.length + ys.length) xs.length e - (xs.length + ys.length))).toList) e).raw_row (z := ty.n) (m := xs.length + ys.length) hge hcm (by
    have e1 : (Builtin.zeroCells z.cells (grownCap w (xs.length + ys.length) xs.length e - (xs.length + ys.length))).toList.length = (grownCap w (xs.length + ys.length) xs.length e - (xs.length + ys.length)) * ty.n := by simp only [Array.length_toList, size_zeroCells, hzs2]
    rw [List.length_append, hlen, e1, ← Nat.add_mul]
    congr 1; omega)
  rw [← hlen, List.take_left] at hS'
  refine slw hK hd hw rfl (append_op hK hs hx hr) fun a' hK' => h a' _ _ (cs ++ ds) (by rw [hzs]; exact hcs.append hds) ?_ hK'
  rw [hzs, List.length_append]
  exact hS'
/-- What insertion makes. -/
def ins {α : Type} (B : Nat) (xs : List α) (i : Int) (ys : List α) : Option (List α) := if 0 ≤ i then (if i ≤ (xs.length : Int) then (if (xs.length + ys.length) * B ≤ 140737488355328 then some (xs.take i.toNat ++ (ys ++ xs.drop i.toNat)) else none) else none) else none
theorem ins_some {α : Type} {B : Nat} {xs ys zs : List α} {i : Int} (h : ins B xs i ys = some zs) : ∃ k : Nat, i = (k : Int) ∧ k ≤ xs.length ∧ (xs.length + ys.length) * B ≤ 140737488355328 ∧ zs = xs.take k ++ (ys ++ xs.drop k) := by
  unfold ins at h
  split at h
  · split at h
    · split at h
      · exact ⟨i.toNat, by omega, by omega, by assumption, (Option.some.inj h).symm⟩
      · cases h
    · cases h
  · cases h
theorem Reps.split {R : Hp} {cs : List Value} {xs : List α} (h : Reps ty R cs xs) (k : Nat) : Reps ty R (cs.take (k * ty.n)) (xs.take k) ∧ Reps ty R (cs.drop (k * ty.n)) (xs.drop k) := by
  obtain ⟨css, h1, h2, h3, h4⟩ := h.all
  subst h1
  have key : ∀ (css : List (List Value)) (k : Nat), (∀ c ∈ css, c.length = ty.n) → css.flatten.take (k * ty.n) = (css.take k).flatten ∧ css.flatten.drop (k * ty.n) = (css.drop k).flatten := by
    intro css
    induction css with
    | nil => intro k _; simp
    | cons c r ih =>
      intro k hc
      have hcl := hc c (by simp)
      cases k with
      | zero => simp
      | succ k =>
        obtain ⟨i1, i2⟩ := ih k (fun d hd => hc d (by simp [hd]))
        have e : (k + 1) * ty.n = c.length + k * ty.n := by rw [hcl, Nat.add_mul]; omega
        rw [List.flatten_cons, e, List.take_length_add_append, List.drop_length_add_append, i1, i2]
        simp
  obtain ⟨e1, e2⟩ := key css k (fun c hc => (h3 c hc).1)
  rw [e1, e2]
  refine ⟨⟨css.take k, rfl, by simp [h2], fun i c x hc hx => ?_⟩, ⟨css.drop k, rfl, by simp [h2], fun i c x hc hx => ?_⟩⟩
  · rw [List.getElem?_take] at hc hx
    split at hc
    · rename_i hi; rw [if_pos hi] at hx; exact h4 i c x hc hx
    · cases hc
  · rw [List.getElem?_drop] at hc hx
    exact h4 _ c x hc hx
end
end Go.Eng
