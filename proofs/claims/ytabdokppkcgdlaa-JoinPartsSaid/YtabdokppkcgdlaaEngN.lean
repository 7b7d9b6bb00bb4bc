/-
  Rows that lose their tail (slices.DeleteFunc); maps whose elements are rows of one's own.
-/
import Derived.Test.YtabdokppkcgdlaaEngM
namespace Go.Eng
open Go.RowKit Go.MapKept
set_option linter.unusedVariables false
set_option linter.unusedSimpArgs false

section
variable {α : Type} {ty : Ty α}
variable {P : Program} {ops : Array Oper} {Q : Exit → Act → World → Prop} {a : Act} {w0 w : World} {M : List Own} {R : Hp} {O : List Own} {rest : List Oper} {n : Fr} {L : Sl}
variable {d : Option Tmp} {ty' : TypeId} {pos : String} {af : Array Edge} {g : Option (Nat × Bool)}

/-- A row's tail, from its place l on. -/
def IsTail (z : Nat) (v u : Value) (l m : Nat) : Prop := (v = .slice none 0 0 ∧ u = .slice none 0 0 ∧ l = 0 ∧ m = 0) ∨
  ∃ b cap ad, v = .slice (some ⟨b, 0, none⟩) m cap ∧ l ≤ m ∧ m ≤ cap ∧ u = .slice ad (m - l) (cap - l) ∧ (l < m → ad = some ⟨b, l * z, none⟩)
theorem slice_nil {t e z : TypeId} {x : Operand} {lo hi : Option Operand} (hu : P.underlying t = some (.slice e)) (hz : ∀ w, (sizeOf e).run P w = .ok z w) (hK : Kn n a L) (hx : ev L x = some (.slice none 0 0))
    (hl : match lo with | some y => ∃ k, ev L y = some (.int k ((0 : Nat) : Int)) | none => True) (hh : match hi with | some y => ∃ k, ev L y = some (.int k ((0 : Nat) : Int)) | none => True) : Runs P w a ⟨d, .slice t x lo hi none, ty', pos, af, g⟩ (.slice none 0 0) := by
  have := r_slice_H (w := w) (d := d) (ty' := ty') (pos := pos) (af := af) (g := g) (ad := none) (m := 0) (c := 0) (l := 0) (h := 0) hu hz (Nat.le_refl _) (Nat.le_refl _) hK hx (lo := lo) (hi := hi) (by cases lo <;> simp_all) (by cases hi <;> simp_all)
  simpa using this
theorem St.slice_tail {t e z m : Nat} {v : Value} {cs : List Value} {xs ys : List α} {x y : Operand} {k : IntKind} {l : Int} (hS : St M w0 w R O) (hK0 : Kn n a L) (hmem : Own.row e z v m cs ∈ O) (hm : m = xs.length) (hu : P.underlying t = some (.slice e)) (hz : ∀ w, (sizeOf e).run P w = .ok z w) (hc : cut xs l (xs.length : Int) = some ys) (hx : ev L x = some v) (hy : ev L y = some (.int k l)) :
    ∃ u, IsTail z v u l.toNat m ∧ ∀ (w : World) (a : Act) (d : Option Tmp) (ty' : TypeId) (pos : String) (af : Array Edge) (g : Option (Nat × Bool)), Kn n a L → Runs P w a ⟨d, .slice t x (some y) none none, ty', pos, af, g⟩ u := by
  subst hm
  have h0 : 0 ≤ l ∧ l ≤ (xs.length : Int) := by
    unfold cut at hc
    split at hc
    · split at hc
      · exact ⟨by assumption, by assumption⟩
      · cases hc
    · cases hc
  have hl : l = ((l.toNat : Nat) : Int) := by omega
  have hown : w.ownsRow 0 e z v xs.length cs := hS.own _ hmem
  rcases hown.2 with ⟨rfl, hm0⟩ | ⟨b, cap, cur, rfl, _, _, hnc, _⟩
  · refine ⟨.slice none 0 0, Or.inl ⟨rfl, rfl, by omega, hm0⟩, fun w a d ty' pos af g hK => slice_nil hu hz hK hx ?_ trivial⟩
    have : l = ((0 : Nat) : Int) := by omega
    exact ⟨k, by rw [hy, this]⟩
  · refine ⟨.slice (if cap = l.toNat then some ⟨b, 0, none⟩ else (some ⟨b, 0, none⟩ : Option Addr).map (·.add (l.toNat * z))) (xs.length - l.toNat) (cap - l.toNat), Or.inr ⟨b, cap, _, rfl, by omega, hnc, rfl, fun hlt => ?_⟩, fun w a d ty' pos af g hK => ?_⟩
    · rw [if_neg (by omega)]; simp [add_lit]
    · exact r_slice_H hu hz (by omega) hnc hK hx ⟨k, by rw [hy, ← hl]⟩ rfl
/-- clear of a row's tail. -/
def clr {α : Type} (xs : List α) (l : Int) (z : α) : List α := xs.take l.toNat ++ List.replicate (xs.length - l.toNat) z
theorem clr_length {xs : List α} {l : Int} {z : α} : (clr xs l z).length = xs.length := by simp [clr]; omega
theorem slw0 {v : Value} {w' : World} {o : Oper} (hK : Kn n a L) (hw : wantedL ops L o = some true) (ho : o.dst = none) (hr : (execOp a.eval o).run P w = .ok (.value v) w')
    (h : ∀ a, Kn n a L → wpList P ops Q rest a w') : wpList P ops Q (o :: rest) a w := by
  unfold wpList
  rw [if_pos (wantedL_ok hK hw)]
  refine .inl ?_
  unfold Oper.wp
  rw [hr, Oper.upon_value, ho]
  exact h _ hK
theorem zeroCells_one (c0 : Value) (n : Nat) : (Builtin.zeroCells #[c0] n).toList = List.replicate n c0 := by
  apply List.ext_getElem?
  intro i
  by_cases hi : i < n
  · simp [Builtin.zeroCells, List.getElem?_replicate, hi, Nat.mod_one]
  · simp [Builtin.zeroCells, List.getElem?_replicate, hi]
theorem sl_clear {t e bytes m : Nat} {x : Operand} {v u : Value} {cs : List Value} {xs : List α} {l : Int} {z0 : α} {c0 zv : Value} (hE : ElT P t e 1 bytes) (hty : ty.n = 1) (hZ : ∀ w, (zeroValue e).run P w = .ok zv w) (hzc : zv.cells = #[c0]) (hrep : ty.rep R [c0] z0) (hT : IsTail 1 v u l.toNat m) (hcs : Reps ty R cs xs) (hm : m = xs.length)
    (hS : St M w0 w R (.row e 1 v m cs :: O)) (hK : Kn n a L) (hw : wantedL ops L ⟨none, .call { callee := .builtin .clear, args := #[x], argTypes := #[t] }, ty', pos, af, g⟩ = some true) (hx : ev L x = some u)
    (h : ∀ a w cs', Reps ty R cs' (clr xs l z0) → St M w0 w R (.row e 1 v (clr xs l z0).length cs' :: O) → Kn n a L → wpList P ops Q rest a w) :
    wpList P ops Q (⟨none, .call { callee := .builtin .clear, args := #[x], argTypes := #[t] }, ty', pos, af, g⟩ :: rest) a w := by
  subst hm
  rw [clr_length] at h
  have op : ∀ {w'}, (Builtin.clear_ #[t] ty' #[u]).run P w = .ok (.tuple #[]) w' → (execOp a.eval ⟨none, .call { callee := .builtin .clear, args := #[x], argTypes := #[t] }, ty', pos, af, g⟩).run P w = .ok (.value (.tuple #[])) w' := fun hr => by
    simp [execOp, resolve, invoke, builtin, hK.ev hx, hr]
  have hstay : xs.length ≤ l.toNat → (Builtin.clear_ #[t] ty' #[u]).run P w = .ok (.tuple #[]) w → wpList P ops Q (⟨none, .call { callee := .builtin .clear, args := #[x], argTypes := #[t] }, ty', pos, af, g⟩ :: rest) a w := fun hl hr => by
    refine slw0 hK hw rfl (op hr) fun a' hK' => h a' w cs ?_ hS hK'
    have e1 : clr xs l z0 = xs := by unfold clr; rw [List.take_of_length_le hl, show xs.length - l.toNat = 0 by omega]; simp
    rw [e1]; exact hcs
  rcases hT with ⟨rfl, rfl, h1, h2⟩ | ⟨b, cap, ad, rfl, h1, h2, rfl, h3⟩
  · exact hstay (by omega) (by simp [Builtin.clear_, run_underlying hE.und])
  · by_cases hlt : l.toNat < xs.length
    · obtain rfl := h3 hlt
      rcases hS.row_raw with ⟨e1, _⟩ | ⟨b', cap', cur, e1, k1, k2, k3, k4, hS1⟩
      · cases e1
      · simp only [Value.slice.injEq, Option.some.injEq, Addr.mk.injEq, and_true, true_and] at e1
        obtain ⟨rfl, rfl⟩ := e1
        have hb : w.heap[b]? = some (.cells cur.toArray e (0, 0)) := hS1.own (.cells b cur e) (List.mem_cons_self ..)
        have one0 : c0.oneCell' = true := ty.one hrep c0 (by simp)
        have hst := run_storeCells_at P b (l.toNat * 1) e (List.replicate (xs.length - l.toNat) c0) 0 cur.toArray w hb (by simp only [List.length_replicate, List.size_toArray, Nat.mul_one, Nat.add_zero]; omega) (fun u hu => by rw [(List.mem_replicate.1 hu).2]; exact one0)
        simp only [Nat.add_zero, Nat.mul_one, List.length_replicate] at hst
        have hr : (Builtin.clear_ #[t] ty' #[.slice (some ⟨b, l.toNat * 1, none⟩) (xs.length - l.toNat) (cap - l.toNat)]).run P w = .ok (.tuple #[]) (w.setRow b (cur.take l.toNat ++ List.replicate (xs.length - l.toNat) c0 ++ cur.drop (l.toNat + (xs.length - l.toNat))).toArray) := by
          obtain ⟨j, hj⟩ : ∃ j, xs.length - l.toNat = j + 1 := ⟨xs.length - l.toNat - 1, by omega⟩
          rw [hj] at hst ⊢
          simp only [Nat.mul_one]
          simp [Builtin.clear_, run_underlying hE.und, hZ, hzc, zeroCells_one, hst]
        have hS2 : St M w0 (w.setRow b (cur.take l.toNat ++ List.replicate (xs.length - l.toNat) c0 ++ cur.drop (l.toNat + (xs.length - l.toNat))).toArray) R (.cells b (cur.take l.toNat ++ List.replicate (xs.length - l.toNat) c0 ++ cur.drop (l.toNat + (xs.length - l.toNat))) e :: O) := by
          have h9 := hS1.setAll (o := l.toNat) (vs := List.replicate (xs.length - l.toNat) c0)
          rw [List.length_replicate] at h9
          exact h9
        have hcl : cs.length = xs.length * 1 := by rw [hcs.length, hty]
        have hS3 := hS2.raw_row (z := 1) (m := xs.length) (cap := cap) h2 k2 (by simp; omega)
        have hcells : (cur.take l.toNat ++ List.replicate (xs.length - l.toNat) c0 ++ cur.drop (l.toNat + (xs.length - l.toNat))).take (xs.length * 1) = cs.take l.toNat ++ List.replicate (xs.length - l.toNat) c0 := by
          rw [← k4, List.take_take, Nat.min_eq_left (by omega), List.take_append_of_le_length (by simp; omega), List.take_of_length_le (by simp; omega)]
        rw [hcells] at hS3
        have hrep' : Reps ty R (cs.take l.toNat ++ List.replicate (xs.length - l.toNat) c0) (clr xs l z0) := by
          have := (hcs.split l.toNat).1
          rw [hty, Nat.mul_one] at this
          exact this.append (Reps.replicate hrep _)
        exact slw0 hK hw rfl (op hr) fun a' hK' => h a' _ _ hrep' hS3 hK'
    · refine hstay (by omega) ?_
      have e1 : xs.length - l.toNat = 0 := by omega
      rw [e1]
      cases ad <;> simp [Builtin.clear_, run_underlying hE.und]
/-- s[:h] of a row of one's own: the row is shorter from here on. -/
theorem St.slice_head {t e z m : Nat} {v : Value} {cs : List Value} {xs ys : List α} {x y : Operand} {k : IntKind} {hi : Int} (hS : St M w0 w R (.row e z v m cs :: O)) (hK0 : Kn n a L) (hcs : Reps ty R cs xs) (hty : ty.n = z) (hm : m = xs.length) (hu : P.underlying t = some (.slice e)) (hz : ∀ w, (sizeOf e).run P w = .ok z w) (hc : cut xs 0 hi = some ys) (hx : ev L x = some v) (hy : ev L y = some (.int k hi)) :
    ∃ v' cs', St M w0 w R (.row e z v' ys.length cs' :: O) ∧ Reps ty R cs' ys ∧ ∀ (w : World) (a : Act) (d : Option Tmp) (ty' : TypeId) (pos : String) (af : Array Edge) (g : Option (Nat × Bool)), Kn n a L → Runs P w a ⟨d, .slice t x none (some y) none, ty', pos, af, g⟩ v' := by
  subst hm; subst hty
  have h0 : 0 ≤ hi ∧ hi ≤ (xs.length : Int) ∧ ys = xs.take hi.toNat := by
    unfold cut at hc
    split at hc
    · split at hc
      · split at hc
        · refine ⟨by assumption, by assumption, ?_⟩
          have := Option.some.inj hc
          rw [← this]; simp
        · cases hc
      · cases hc
    · cases hc
  obtain ⟨h1, h2, rfl⟩ := h0
  have hl : hi = ((hi.toNat : Nat) : Int) := by omega
  have hyl : (xs.take hi.toNat).length = hi.toNat := by simp; omega
  rcases hS.row_raw with ⟨rfl, e1, e2⟩ | ⟨b, cap, cur, rfl, k1, k2, k3, k4, hS1⟩
  · have hx0 : xs = [] := List.eq_nil_of_length_eq_zero e1
    subst hx0; subst e2
    have : hi = ((0 : Nat) : Int) := by simp at h2; omega
    refine ⟨.slice none 0 0, [], by simpa using hS, by simpa using Reps.nil _ _, fun w a d ty' pos af g hK => slice_nil hu hz hK hx trivial ⟨k, by rw [hy, this]⟩⟩
  · have hS2 := hS1.raw_row (z := ty.n) (m := hi.toNat) (cap := cap) (by omega) k2 k3
    refine ⟨.slice (some ⟨b, 0, none⟩) hi.toNat cap, cs.take (hi.toNat * ty.n), ?_, (hcs.split hi.toNat).1, fun w a d ty' pos af g hK => ?_⟩
    · rw [hyl, ← k4, List.take_take, Nat.min_eq_left (Nat.mul_le_mul_right _ (by omega))]
      exact hS2
    · have := r_slice_H (w := w) (d := d) (ty' := ty') (pos := pos) (af := af) (g := g) (lo := none) (hi := some y) (l := 0) (h := hi.toNat) hu hz (Nat.zero_le _) (by omega) hK hx rfl ⟨k, by rw [hy, ← hl]⟩
      simpa [add_lit] using this
end

/-! ### maps whose elements are rows of one's own -/
structure MRow (κ : Type) where
  k : κ
  v : Value
  n : Nat
  cs : List Value
section
variable {κ α : Type} [DecidableEq κ] {ty : Ty α} {fk : κ → Value}
/-- A map's entries: keys and headers. -/
def mkp (E : List (MRow κ)) : List (κ × Value) := E.map fun e => (e.k, e.v)
/-- .. and the rows. -/
def mrows (et sz : Nat) (E : List (MRow κ)) : List Own := E.map fun e => .row et sz e.v e.n e.cs
inductive MRel (ty : Ty α) (R : Hp) : List (MRow κ) → List (κ × List α) → Prop
  | nil : MRel ty R [] []
  | cons {e : MRow κ} {E : List (MRow κ)} {p : κ × List α} {m : List (κ × List α)} (h1 : e.k = p.1) (h2 : e.n = p.2.length) (h3 : Reps ty R e.cs p.2) (h : MRel ty R E m) : MRel ty R (e :: E) (p :: m)
omit [DecidableEq κ] in
theorem MRel.mono {R R' : Hp} {E : List (MRow κ)} {m : List (κ × List α)} (h : MRel ty R E m) (hR : R.le R') : MRel ty R' E m := by
  induction h with
  | nil => exact .nil
  | cons h1 h2 h3 _ ih => exact .cons h1 h2 (h3.mono hR) ih
/-- An entry is taken out; put back. -/
def rdel : List (MRow κ) → κ → List (MRow κ)
  | [], _ => []
  | e :: E, k => if e.k = k then E else e :: rdel E k
def rset : List (MRow κ) → MRow κ → List (MRow κ)
  | [], x => [x]
  | e :: E, x => if e.k = x.k then x :: E else e :: rset E x
/-- The header at a key. -/
def mhd (E : List (MRow κ)) (k : κ) : Value := (mget (mkp E) k).getD (.slice none 0 0)
theorem mkp_rset (E : List (MRow κ)) (x : MRow κ) : mkp (rset E x) = mset (mkp E) x.k x.v := by
  induction E with
  | nil => rfl
  | cons e E ih =>
    unfold mkp at *
    simp only [rset, List.map_cons, mset]
    by_cases h : e.k = x.k
    · simp [h]
    · simp [h, ih]
theorem mrows_rset (et sz : Nat) (E : List (MRow κ)) (x : MRow κ) : (mrows et sz (rset E x)).Perm (.row et sz x.v x.n x.cs :: mrows et sz (rdel E x.k)) := by
  induction E with
  | nil => exact List.Perm.refl _
  | cons e E ih =>
    unfold mrows at *
    simp only [rset, rdel]
    by_cases h : e.k = x.k
    · simp [h]
    · simp only [if_neg h, List.map_cons]
      exact (ih.cons _).trans (List.Perm.swap ..)
theorem MRel.set {R : Hp} {E : List (MRow κ)} {m : List (κ × List α)} (h : MRel ty R E m) {x : MRow κ} {ys : List α} (hn : x.n = ys.length) (hr : Reps ty R x.cs ys) : MRel ty R (rset E x) (mset m x.k ys) := by
  induction h with
  | nil => exact .cons rfl hn hr .nil
  | cons h1 h2 h3 h ih =>
    simp only [rset, mset]
    rename_i e E p m
    by_cases hk : e.k = x.k
    · rw [if_pos hk, if_pos (h1 ▸ hk)]
      exact .cons rfl hn hr h
    · rw [if_neg hk, if_neg (h1 ▸ hk)]
      exact .cons h1 h2 h3 ih
end
section
variable {κ α : Type} [DecidableEq κ] {ty : Ty α} {fk : κ → Value} {kd : TypeDesc}
variable {P : Program} {ops : Array Oper} {Q : Exit → Act → World → Prop} {a : Act} {w0 w : World} {M : List Own} {R : Hp} {O : List Own} {rest : List Oper} {n : Fr} {L : Sl}
variable {d : Option Tmp} {ty' : TypeId} {pos : String} {af : Array Edge} {g : Option (Nat × Bool)}

/-- One key's row is taken out of the tail. -/
theorem St.mtake {et sz : Nat} {E : List (MRow κ)} {m : List (κ × List α)} (hty : ty.n = sz) (hr : MRel ty R E m) (k : κ) : ∀ {O : List Own}, St M w0 w R (O ++ mrows et sz E) →
    ∃ cs, St M w0 w R (.row et sz (mhd E k) ((mget m k).getD []).length cs :: (O ++ mrows et sz (rdel E k))) ∧ Reps ty R cs ((mget m k).getD []) := by
  induction hr with
  | nil =>
    intro O h
    exact ⟨[], h.row_nil et sz, Reps.nil _ _⟩
  | cons h1 h2 h3 h' ih =>
    rename_i e E p m
    intro O h
    by_cases hk : e.k = k
    · refine ⟨e.cs, ?_, by simp only [mget]; rw [if_pos (h1 ▸ hk)]; exact h3⟩
      have e1 : mhd (e :: E) k = e.v := by simp [mhd, mkp, mget, hk]
      have e2 : ((mget (p :: m) k).getD []).length = e.n := by simp only [mget]; rw [if_pos (h1 ▸ hk), h2]; rfl
      rw [e1, e2]
      have e3 : rdel (e :: E) k = E := by simp [rdel, hk]
      rw [e3]
      refine h.perm ?_
      simp only [mrows, List.map_cons]
      exact List.perm_middle
    · have hsw : St M w0 w R ((O ++ [.row et sz e.v e.n e.cs]) ++ mrows et sz E) := by simpa [mrows] using h
      obtain ⟨cs, g1, g2⟩ := ih hsw
      refine ⟨cs, ?_, by simp only [mget]; rw [if_neg (h1 ▸ hk)]; exact g2⟩
      have e1 : mhd (e :: E) k = mhd E k := by simp [mhd, mkp, mget, hk]
      have e2 : (mget (p :: m) k).getD [] = (mget m k).getD [] := by simp only [mget]; rw [if_neg (h1 ▸ hk)]
      have e3 : rdel (e :: E) k = e :: rdel E k := by simp [rdel, hk]
      rw [e1, e2, e3]
      simpa [mrows] using g1
/-- .. and a row put back. -/
theorem St.mput {et sz b nn : Nat} {v : Value} {cs : List Value} {E : List (MRow κ)} {m : List (κ × List α)} {k : κ} {fv : Value → Value} {ys : List α} (hfv : fv = id) (hr : MRel ty R E m) (hq : Reps ty R cs ys) (hn : nn = ys.length) (h : St M w0 w R (.mp b (kvs fk fv (mset (mkp E) k v)) :: .row et sz v nn cs :: (O ++ mrows et sz (rdel E k)))) :
    ∃ E', St M w0 w R (.mp b (kvs fk fv (mkp E')) :: (O ++ mrows et sz E')) ∧ MRel ty R E' (mset m k ys) := by
  refine ⟨rset E ⟨k, v, nn, cs⟩, ?_, hr.set hn hq⟩
  rw [mkp_rset]
  refine h.perm (List.Perm.cons _ ?_)
  refine List.Perm.trans ?_ ((mrows_rset et sz E ⟨k, v, nn, cs⟩).symm.append_left O)
  exact List.perm_middle.symm
/-- All rows are read only from here on. -/
def MRd (ty : Ty α) (R : Hp) (E : List (MRow κ)) (m : List (κ × List α)) : Prop := ∀ k, SlR ty R (mhd E k) ((mget m k).getD [])
theorem MRd.mono {R R' : Hp} {E : List (MRow κ)} {m : List (κ × List α)} (h : MRd ty R E m) (hR : R.le R') : MRd ty R' E m := fun k => (h k).mono hR
theorem St.mfreeze {et sz : Nat} {E : List (MRow κ)} {m : List (κ × List α)} (hty : ty.n = sz) (hr : MRel ty R E m) : ∀ {O : List Own}, St M w0 w R (O ++ mrows et sz E) → ∃ R', St M w0 w R' O ∧ RLe M w0 R R' ∧ MRd ty R' E m := by
  have key : ∀ {E : List (MRow κ)} {m : List (κ × List α)} {R0 : Hp}, MRel ty R0 E m → ∀ {R : Hp}, R0.le R → ∀ {O : List Own}, St M w0 w R (O ++ mrows et sz E) → ∃ R', St M w0 w R' O ∧ RLe M w0 R R' ∧ MRd ty R' E m := by
    intro E m R0 hr
    induction hr with
    | nil => intro R hle O h; exact ⟨R, by simpa [mrows] using h, RLe.refl _ _, fun k => SlR.nil _ _⟩
    | cons h1 h2 h3 h' ih =>
      rename_i e E p m
      intro R hle O h
      have hp : St M w0 w R (.row et sz e.v e.n e.cs :: (O ++ mrows et sz E)) := h.perm (by simp only [mrows, List.map_cons]; exact List.perm_middle)
      obtain ⟨R1, g1, g2, g3⟩ := hp.fz_row (h3.mono hle) h2 hty
      obtain ⟨R2, k1, k2, k3⟩ := ih (hle.trans g2.le) g1
      refine ⟨R2, k1, g2.trans k2, fun k => ?_⟩
      by_cases hk : e.k = k
      · have e1 : mhd (e :: E) k = e.v := by simp [mhd, mkp, mget, hk]
        simp only [mget]
        rw [if_pos (h1 ▸ hk), e1]
        exact g3.mono k2.le
      · have e1 : mhd (e :: E) k = mhd E k := by simp [mhd, mkp, mget, hk]
        simp only [mget]
        rw [if_neg (h1 ▸ hk), e1]
        exact k3 k
  intro O h
  exact key hr (Hp.le.refl _) h
/-- A look into such a map. -/
theorem r_lookup_M {mp key : Operand} {t kt et : TypeId} {b : Nat} {E : List (MRow κ)} {x : κ} (hm : P.underlying t = some (.map kt et)) (hd : P.underlying kt = some kd) (hk : KeyT kd fk) (hz : ∀ w, (zeroValue et).run P w = .ok (.slice none 0 0) w)
    (hS : St M w0 w R O) (hmem : Own.mp b (kvs fk id (mkp E)) ∈ O) (hK : Kn n a L) (hx : ev L mp = some (.map (some b))) (hy : ev L key = some (fk x)) :
    Runs P w a ⟨d, .lookup t mp key false, ty', pos, af, g⟩ (mhd E x) :=
  r_lookup_O (fv := id) (z := .slice none 0 0) hm hd hk hz hS hmem rfl hK hx hy
end
end Go.Eng
