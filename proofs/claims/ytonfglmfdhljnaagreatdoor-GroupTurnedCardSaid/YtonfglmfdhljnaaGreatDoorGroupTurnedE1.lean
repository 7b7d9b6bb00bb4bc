/- For the law GroupTurned: laws of memory, calls and single operations, for any program; each holds under its own hypotheses alone. -/
import Derived.WalkKit
import Derived.Deep.Quiet
import Derived.Deep.LoopGhost
import Derived.KernelRfl
import Derived.Laws.AppendOwn
import Derived.StillTail
import Derived.Laws.MakeOwn
import Derived.Laws.OwnMore
import Derived.Lib.AppendStr
import Derived.Laws.BytesString
import Derived.Laws.StructEq
import Derived.Scope
import Derived.Lib.Bytealg
import Derived.Lib.AppendZerosOnto
import Derived.Lib.Overlaps
import Derived.Laws.Externs
import Derived.Shelf.SlSortCmp.NoneTotal
import Derived.Defers
import Derived.Recover
import Derived.Laws.IdiomStrings
import Derived.ProofKit
import Derived.OpenShut
import Derived.ShutString
import Derived.ChangeOld
import Derived.SizedLaws
import Derived.Deep.Slices
import Derived.HandedShaped
import Derived.LaidMore
import Derived.Lib.LaidTab
import Derived.MapKept
section
namespace Go.Eng
set_option linter.unusedVariables false
set_option linter.unusedSimpArgs false
open Go.RowKit
abbrev Sl := List (Nat × Value)
def look : Sl → Nat → Option Value
  | [], _ => none
  | (k, v) :: r, t => bif Nat.beq k t then some v else look r t
structure Fr where
  n : Nat
  ds : List Deferred
instance {k : Nat} : OfNat Fr k := ⟨⟨k, []⟩⟩
structure Kn (n : Fr) (a : Act) (L : Sl) : Prop where
  size : a.tmps.size = n.n
  dfs : a.defers = n.ds
  at_ : ∀ t v, look L t = some v → a.tmps[t]? = some v
def ev (L : Sl) : Operand → Option Value
  | .tmp t => look L t
  | .const v => some v
  | .global g => some (.pointer (some ⟨g, 0, none⟩))
  | .func f => some (.func (.func f) #[] #[])
theorem Kn.ev {n : Fr} {a : Act} {L : Sl} (h : Kn n a L) {x : Operand} {v : Value} (hx : ev L x = some v) : a.eval x = v := by
  cases x with
  | tmp t =>
    have := h.at_ t v hx
    simp [Act.eval, this]
  | const u => simpa [Eng.ev, Act.eval] using hx
  | global g => simpa [Eng.ev, Act.eval] using hx
  | func f => simpa [Eng.ev, Act.eval] using hx
theorem look_cons (k : Nat) (v : Value) (r : Sl) (t : Nat) : look ((k, v) :: r) t = if k = t then some v else look r t := by
  simp only [look]
  by_cases h : k = t
  · simp [h]
  · have : Nat.beq k t = false := by
      cases hb : Nat.beq k t with
      | false => rfl
      | true => exact absurd (Nat.eq_of_beq_eq_true hb) h
    simp [h, this]
theorem Kn.put {n : Fr} {a : Act} {L : Sl} (h : Kn n a L) {d : Nat} (hd : d < n.n) (v : Value) : Kn n (a.put (some d) v) ((d, v) :: L) := by
  refine ⟨by simp [Act.put, h.size], by simp [Act.put, h.dfs], fun t u hu => ?_⟩
  rw [look_cons] at hu
  by_cases hdt : d = t
  · subst hdt
    simp only [if_true] at hu
    cases hu
    simp [Act.put, h.size, hd]
  · rw [if_neg hdt] at hu
    have := h.at_ t u hu
    simp [Act.put, Array.getElem?_setIfInBounds_ne hdt, this]
theorem Kn.sub {n : Fr} {a : Act} {L L' : Sl} (h : Kn n a L) (hs : ∀ p ∈ L', look L p.1 = some p.2) : Kn n a L' := by
  refine ⟨h.size, h.dfs, fun t v hv => h.at_ t v ?_⟩
  induction L' with
  | nil => simp [look] at hv
  | cons p r ih =>
    obtain ⟨k, u⟩ := p
    rw [look_cons] at hv
    by_cases hk : k = t
    · subst hk
      simp only [if_true] at hv
      have hv' : u = v := Option.some.inj hv
      subst hv'
      exact hs (k, u) (List.mem_cons_self ..)
    · rw [if_neg hk] at hv
      exact ih (fun p hp => hs p (by simp [hp])) hv
theorem all_nil {α : Type} {p : α → Prop} : ∀ x ∈ ([] : List α), p x := fun _ h => nomatch h
theorem all_cons {α : Type} {p : α → Prop} {a : α} {l : List α} (h : p a) (hr : ∀ x ∈ l, p x) : ∀ x ∈ a :: l, p x := fun x hx => by
  cases hx with
  | head => exact h
  | tail _ hx => exact hr x hx
def initL : Nat → List Value → Sl
  | _, [] => []
  | k, v :: r => (k, v) :: initL (k + 1) r
theorem look_initL : ∀ (vs : List Value) (k t : Nat) (v : Value), look (initL k vs) t = some v → k ≤ t ∧ vs[t - k]? = some v
  | [], _, _, _, h => by simp [initL, look] at h
  | u :: r, k, t, v, h => by
    rw [initL, look_cons] at h
    by_cases hk : k = t
    · subst hk
      simp only [if_true] at h
      cases h
      simp
    · rw [if_neg hk] at h
      obtain ⟨h1, h2⟩ := look_initL r (k + 1) t v h
      refine ⟨by omega, ?_⟩
      have : t - k = (t - (k + 1)) + 1 := by omega
      rw [this]
      simpa using h2
theorem Kn.init (vs : List Value) (n : Nat) (hn : vs.length ≤ n) :
    Kn ⟨n, []⟩ { tmps := vs.toArray ++ Array.replicate (n - vs.toArray.size) undef, defers := [] } (initL 0 vs) := by
  refine ⟨by simp; omega, rfl, fun t v h => ?_⟩
  obtain ⟨_, h2⟩ := look_initL vs 0 t v h
  simp only [Nat.sub_zero] at h2
  have hlt := (List.getElem?_eq_some_iff.1 h2).1
  have h3 : t < vs.toArray.size := by simpa using hlt
  rw [Array.getElem?_append_left h3]
  simpa using h2
abbrev Hp := Nat → Option Obj
def Hp.le (R R' : Hp) : Prop := ∀ b o, R b = some o → R' b = some o
def Hp.sub (R : Hp) (w : World) : Prop := ∀ b o, R b = some o → w.heap[b]? = some o
def Hp.cell (R : Hp) (b i : Nat) : Option Value :=
  match R b with
  | some (.cells c _ _) => c[i]?
  | _ => none
def hpOf (w : World) : Hp := fun b => w.heap[b]?
theorem Hp.le.refl (R : Hp) : R.le R := fun _ _ h => h
theorem Hp.le.trans {R R' R'' : Hp} (h : R.le R') (h' : R'.le R'') : R.le R'' := fun b o hb => h' b o (h b o hb)
theorem Hp.sub.le {R R' : Hp} {w : World} (h : R'.sub w) (h' : R.le R') : R.sub w := fun b o hb => h b o (h' b o hb)
theorem hpOf_sub (w : World) : (hpOf w).sub w := fun _ _ h => h
theorem Hp.cell_le {R R' : Hp} (h : R.le R') {b i : Nat} {v : Value} (hc : R.cell b i = some v) : R'.cell b i = some v := by
  unfold Hp.cell at *
  cases hr : R b with
  | none => simp [hr] at hc
  | some o => rw [hr] at hc; rw [h b o hr]; exact hc
theorem Hp.sub.cell {R : Hp} {w : World} (h : R.sub w) {b i : Nat} {v : Value} (hc : R.cell b i = some v) : w.cell? ⟨b, i, none⟩ = some v := by
  unfold Hp.cell at hc
  cases hr : R b with
  | none => simp [hr] at hc
  | some o =>
    rw [hr] at hc
    have := h b o hr
    cases o <;> simp at hc
    simp [World.cell?, this, hc]
theorem Hp.sub.lt {R : Hp} {w : World} (h : R.sub w) {b : Nat} {o : Obj} (hb : R b = some o) : b < w.heap.size :=
  (Array.getElem?_eq_some_iff.1 (h b o hb)).1
def entriesOf (es : Array MapEntry) : List (Value × Value) := es.toList.map fun e => (e.key, e.val)
def ownsM (w : World) (e sz : Nat) (v : Value) (n : Nat) (xs : List Value) : Prop :=
  xs.length = n * sz ∧ ∃ g cap cur fz, v = .slice (some ⟨g, 0, none⟩) n cap ∧ w.heap[g]? = some (.cells cur e fz) ∧ (∀ i, i < cur.size → ¬ (fz.1 ≤ i ∧ i < fz.2)) ∧ n ≤ cap ∧ cap ≤ maxLen ∧ cur.size = cap * sz ∧ cur.toList.take (n * sz) = xs
inductive Own where
  | cells (b : Nat) (c : List Value) (t : TypeId)
  | row (t sz : Nat) (v : Value) (n : Nat) (xs : List Value)
  | mp (b : Nat) (kvs : List (Value × Value))
  | rowM (t sz : Nat) (v : Value) (n : Nat) (xs : List Value)
  | obj (b : Nat) (o : Obj)
def Own.blk : Own → Option Nat
  | .cells b _ _ => some b
  | .row _ _ v _ _ => v.ownBlock
  | .mp b _ => some b
  | .rowM _ _ v _ _ => v.ownBlock
  | .obj b _ => some b
def Own.ok (w : World) : Own → Prop
  | .cells b c t => w.heap[b]? = some (.cells c.toArray t (0, 0))
  | .row t sz v n xs => w.ownsRow 0 t sz v n xs
  | .mp b kvs => ∃ es cl, w.heap[b]? = some (.map es cl) ∧ entriesOf es = kvs
  | .rowM t sz v n xs => ownsM w t sz v n xs
  | .obj b o => w.heap[b]? = some o
theorem Own.ok_lt {w : World} {x : Own} (h : x.ok w) {b : Nat} (hb : x.blk = some b) : b < w.heap.size := by
  cases x with
  | cells b' c t => simp [Own.blk] at hb; subst hb; exact (Array.getElem?_eq_some_iff.1 h).1
  | row t sz v n xs => exact (World.ownsRow.lt h b hb).2
  | mp b' kvs =>
    obtain ⟨es, cl, hh, _⟩ := h
    simp [Own.blk] at hb
    subst hb
    exact (Array.getElem?_eq_some_iff.1 hh).1
  | rowM t sz v n xs =>
    obtain ⟨_, g, cap, cur, fz, rfl, hh, _⟩ := h
    simp [Own.blk, Value.ownBlock] at hb
    subst hb
    exact (Array.getElem?_eq_some_iff.1 hh).1
  | obj b' o => simp [Own.blk] at hb; subst hb; exact (Array.getElem?_eq_some_iff.1 h).1
theorem Own.ok_kept {w w' : World} {x : Own} (h : x.ok w) (hk : ∀ b, x.blk = some b → w'.heap[b]? = w.heap[b]?) : x.ok w' := by
  cases x with
  | cells b c t => exact (hk b rfl).trans h
  | obj b o => exact (hk b rfl).trans h
  | mp b kvs =>
    obtain ⟨es, cl, hh, he⟩ := h
    exact ⟨es, cl, (hk b rfl).trans hh, he⟩
  | rowM t sz v n xs =>
    obtain ⟨h1, g, cap, cur, fz, rfl, hh, r⟩ := h
    exact ⟨h1, g, cap, cur, fz, rfl, (hk g rfl).trans hh, r⟩
  | row t sz v n xs =>
    refine ⟨h.1, ?_⟩
    rcases h.2 with h2 | ⟨g, cap, cur, hv, hg, hh, r⟩
    · exact Or.inl h2
    · exact Or.inr ⟨g, cap, cur, hv, hg, by rw [hk g (by rw [Own.blk, hv]; rfl)]; exact hh, r⟩
def blks (M : List Own) (b : Nat) : Prop := ∃ x ∈ M, x.blk = some b
theorem blks_nil {b : Nat} : ¬ blks [] b := fun ⟨_, h, _⟩ => nomatch h
def DrOk (w0 w : World) : Prop := w0.drawn ≤ w.drawn
theorem DrOk.of {w0 w : World} (h : w0.drawn ≤ w.drawn) : DrOk w0 w := by first | exact h | trivial
theorem DrOk.trans {w0 w1 w2 : World} (h : DrOk w0 w1) (h' : DrOk w1 w2) : DrOk w0 w2 := by first | exact Nat.le_trans h h' | trivial
structure Bel (M : List Own) (w0 w : World) : Prop where
  os : w.os = w0.os
  tape : w.tape = w0.tape
  output : w.output = w0.output
  size : w0.heap.size ≤ w.heap.size
  dr : DrOk w0 w
  block : ∀ k, k < w0.heap.size → ¬ blks M k → w.heap[k]? = w0.heap[k]?
theorem Bel.refl (M : List Own) (w : World) : Bel M w w := ⟨rfl, rfl, rfl, Nat.le_refl _, .of (Nat.le_refl _), fun _ _ _ => rfl⟩
theorem Bel.to {w0 w : World} (h : Bel [] w0 w) : Below w0.heap.size w0 w := ⟨h.os, h.tape, h.output, h.size, fun k hk => h.block k hk blks_nil⟩
theorem Bel.mk0 {M : List Own} {w0 w : World} (hos : w.os = w0.os) (htape : w.tape = w0.tape) (hout : w.output = w0.output) (hsz : w0.heap.size ≤ w.heap.size) (hd : w0.drawn ≤ w.drawn) (hb : ∀ k, k < w0.heap.size → w.heap[k]? = w0.heap[k]?) : Bel M w0 w := ⟨hos, htape, hout, hsz, .of hd, fun k hk _ => hb k hk⟩
theorem Bel.step {M X : List Own} {w0 w w' : World} (h : Bel M w0 w) (h' : Bel X w w') (hX : ∀ k, k < w0.heap.size → blks X k → blks M k) : Bel M w0 w' :=
  ⟨h'.os.trans h.os, h'.tape.trans h.tape, h'.output.trans h.output, Nat.le_trans h.size h'.size, h.dr.trans h'.dr, fun k hk hm => (h'.block k (Nat.lt_of_lt_of_le hk h.size) (fun hx => hm (hX k hk hx))).trans (h.block k hk hm)⟩
structure St (M : List Own) (w0 w : World) (R : Hp) (O : List Own) : Prop where
  bel : Bel M w0 w
  sub : R.sub w
  own : ∀ x ∈ O, x.ok w
  base : ∀ x ∈ O, ∀ b, x.blk = some b → (w0.heap.size ≤ b ∨ blks M b) ∧ R b = none
  sep : O.Pairwise fun x y => ∀ b, x.blk = some b → y.blk ≠ some b
theorem St.init {w : World} {R : Hp} (h : R.sub w) : St [] w w R [] :=
  ⟨Bel.refl _ _, h, fun _ h => (by cases h), fun _ h => (by cases h), List.Pairwise.nil⟩
section
variable {M : List Own}
theorem St.keep {w0 w w' : World} {R : Hp} {O : List Own} (h : St M w0 w R O) (hb : Bel [] w w') : St M w0 w' R O := by
  refine ⟨h.bel.step (X := []) hb (fun k _ hx => absurd hx blks_nil), fun b o hr => ?_, fun x hx => ?_, h.base, h.sep⟩
  · have := h.sub b o hr
    rw [hb.to.block b (Array.getElem?_eq_some_iff.1 this).1]; exact this
  · exact Own.ok_kept (h.own x hx) (fun b hbk => hb.to.block b (Own.ok_lt (h.own x hx) hbk))
theorem St.drew {w0 w : World} {R : Hp} {O : List Own} (h : St M w0 w R O) (n : Nat) (hn : w.drawn ≤ n) : St M w0 { w with drawn := n } R O :=
  h.keep (Bel.mk0 rfl rfl rfl (Nat.le_refl _) hn fun _ _ => rfl)
theorem St.new {w0 w : World} {R : Hp} {O : List Own} (h : St M w0 w R O) (x : Own) (o : Obj) (hx : x.ok (w.alloc o)) (hb : x.blk = some w.heap.size) : St M w0 (w.alloc o) R (x :: O) := by
  have k : St M w0 (w.alloc o) R O := h.keep (Bel.mk0 rfl rfl rfl (by simp) (Nat.le_refl _) fun k hk => Below.heap_alloc _ _ _ hk)
  refine ⟨k.bel, k.sub, all_cons hx k.own, all_cons (fun b hbb => ?_) k.base, List.Pairwise.cons (fun y hy b hbb hyb => ?_) k.sep⟩
  · rw [hb] at hbb
    cases hbb
    refine ⟨Or.inl h.bel.size, ?_⟩
    cases hr : R w.heap.size with
    | none => rfl
    | some o => have := h.sub.lt hr; omega
  · rw [hb] at hbb
    cases hbb
    have := Own.ok_lt (h.own y hy) hyb
    omega
theorem St.alloc {w0 w : World} {R : Hp} {O : List Own} (h : St M w0 w R O) (c : List Value) (t : TypeId) : St M w0 (w.alloc (.cells c.toArray t)) R (.cells w.heap.size c t :: O) :=
  h.new (.cells w.heap.size c t) _ (heap_alloc_new w _) rfl
theorem perm_pick {α : Type} {O : List α} {x : α} {i : Nat} (h : O[i]? = some x) : O.Perm (x :: O.eraseIdx i) := by
  induction O generalizing i with
  | nil => simp at h
  | cons a r ih =>
    cases i with
    | zero => simp at h; subst h; simp
    | succ i =>
      simp only [List.getElem?_cons_succ] at h
      simp only [List.eraseIdx_cons_succ]
      exact (List.Perm.cons a (ih h)).trans (List.Perm.swap x a _)
theorem St.perm {w0 w : World} {R : Hp} {O O' : List Own} (h : St M w0 w R O) (hp : O.Perm O') : St M w0 w R O' :=
  ⟨h.bel, h.sub, fun x hx => h.own x (hp.mem_iff.2 hx), fun x hx => h.base x (hp.mem_iff.2 hx),
   (hp.pairwise_iff (R := fun x y => ∀ b, x.blk = some b → y.blk ≠ some b) (fun hxy b hy hx => hxy b hx hy)).1 h.sep⟩
theorem St.pick {w0 w : World} {R : Hp} {O : List Own} (h : St M w0 w R O) (i : Nat) {x : Own} (hi : O[i]? = some x) : St M w0 w R (x :: O.eraseIdx i) := h.perm (perm_pick hi)
theorem St.tail {w0 w : World} {R : Hp} {O : List Own} {x : Own} (h : St M w0 w R (x :: O)) : St M w0 w R O :=
  ⟨h.bel, h.sub, fun y hy => h.own y (List.mem_cons_of_mem _ hy), fun y hy => h.base y (List.mem_cons_of_mem _ hy), (List.pairwise_cons.1 h.sep).2⟩
theorem St.ltM {w0 w : World} {R : Hp} {O : List Own} (h : St M w0 w R O) {x : Own} (hx : x ∈ O) {k : Nat} (hb : x.blk = some k) (hk : k < w0.heap.size) : blks M k := by
  rcases (h.base x hx k hb).1 with h1 | h1
  · omega
  · exact h1
theorem St.turn {w0 w w' : World} {R : Hp} {O : List Own} {x y : Own} (h : St M w0 w R (x :: O)) (hos : w'.os = w.os) (htape : w'.tape = w.tape) (hout : w'.output = w.output) (hsz : w.heap.size ≤ w'.heap.size) (hdr : w.drawn ≤ w'.drawn)
    (hb : ∀ k, k < w.heap.size → x.blk ≠ some k → w'.heap[k]? = w.heap[k]?) (hy : y.ok w')
    (hk : ∀ b, y.blk = some b → x.blk = some b ∨ w.heap.size ≤ b) : St M w0 w' R (y :: O) := by
  have hsep := List.pairwise_cons.1 h.sep
  have other : ∀ z ∈ O, ∀ b, z.blk = some b → w'.heap[b]? = w.heap[b]? := fun z hz b hzb =>
    hb b (Own.ok_lt (h.own z (List.mem_cons_of_mem _ hz)) hzb) (fun e => hsep.1 z hz b e hzb)
  refine ⟨h.bel.step (X := [x]) ⟨hos, htape, hout, hsz, .of hdr, fun k hk' hne => hb k hk' (fun e => hne ⟨x, List.mem_cons_self .., e⟩)⟩ (fun k hk' ⟨z, hz, hzb⟩ => ?_), fun b o hr => ?_, all_cons hy fun z hz => Own.ok_kept (h.own z (List.mem_cons_of_mem _ hz)) (other z hz),
    all_cons (fun b hyb => ?_) fun z hz => h.base z (List.mem_cons_of_mem _ hz), List.Pairwise.cons (fun z hz b hyb hzb => ?_) hsep.2⟩
  · rw [List.mem_singleton] at hz
    subst hz
    exact h.ltM (List.mem_cons_self ..) hzb hk'
  · rw [hb b (h.sub.lt hr) (fun e => by have := (h.base x (by simp) b e).2; rw [this] at hr; cases hr)]
    exact h.sub b o hr
  · rcases hk b hyb with h1 | h1
    · exact h.base x (by simp) b h1
    · refine ⟨Or.inl (Nat.le_trans h.bel.size h1), ?_⟩
      cases hr : R b with
      | none => rfl
      | some o => have := h.sub.lt hr; omega
  · rcases hk b hyb with h1 | h1
    · exact hsep.1 z hz b h1 hzb
    · have := Own.ok_lt (h.own z (List.mem_cons_of_mem _ hz)) hzb; omega
theorem St.set {w0 w : World} {R : Hp} {O : List Own} {b : Nat} {c : List Value} {t : TypeId} (h : St M w0 w R (.cells b c t :: O)) (i : Nat) (v : Value) : St M w0 (w.setCell ⟨b, i, none⟩ v) R (.cells b (c.set i v) t :: O) := by
  have h0 : w.heap[b]? = some (.cells c.toArray t (0, 0)) := h.own (.cells b c t) (List.mem_cons_self ..)
  refine h.turn rfl rfl rfl (by simp [World.setCell]) (Nat.le_refl _) (fun k _ hk => Below.heap_setCell _ _ _ _ (fun e => hk (by simp [Own.blk, e]))) ?_ (fun b' hb' => Or.inl hb')
  show (w.setCell ⟨b, i, none⟩ v).heap[b]? = _
  rw [heap_setCell_same w b i _ t v h0]
  simp
theorem St.freeze {w0 w : World} {R : Hp} {O : List Own} {x : Own} (h : St M w0 w R (x :: O)) {b : Nat} {o : Obj} (hx : x.blk = some b) (hb : w.heap[b]? = some o) :
    St M w0 w (fun k => if k = b then some o else R k) O ∧ R.le (fun k => if k = b then some o else R k) := by
  have hR : R b = none := (h.base x (by simp) b hx).2
  have t := h.tail
  have hsep := List.pairwise_cons.1 h.sep
  refine ⟨⟨t.bel, fun k u hk => ?_, t.own, fun y hy k hyk => ⟨(t.base y hy k hyk).1, ?_⟩, t.sep⟩, fun k u hk => ?_⟩
  · by_cases e : k = b
    · subst e; simp at hk; subst hk; exact hb
    · simp [e] at hk; exact t.sub k u hk
  · by_cases e : k = b
    · subst e; exact absurd hyk (hsep.1 y hy k hx)
    · simp [e]; exact (t.base y hy k hyk).2
  · by_cases e : k = b
    · subst e; rw [hR] at hk; cases hk
    · simp [e]; exact hk
structure RLe (M : List Own) (w0 : World) (R R' : Hp) : Prop where
  le : R.le R'
  new : ∀ b o, R' b = some o → R b = some o ∨ w0.heap.size ≤ b ∨ blks M b
theorem RLe.refl (w0 : World) (R : Hp) : RLe M w0 R R := ⟨Hp.le.refl _, fun _ _ h => Or.inl h⟩
theorem RLe.trans {w0 : World} {R R' R'' : Hp} (h : RLe M w0 R R') (h' : RLe M w0 R' R'') : RLe M w0 R R'' :=
  ⟨h.le.trans h'.le, fun b o hb => (h'.new b o hb).elim (fun h1 => h.new b o h1) Or.inr⟩
theorem St.lend {w0 w : World} {R : Hp} {N O : List Own} (h : St M w0 w R (N ++ O)) : St N w w R N :=
  ⟨Bel.refl _ _, h.sub, fun x hx => h.own x (List.mem_append_left _ hx), fun x hx b hb => ⟨Or.inr ⟨x, hx, hb⟩, (h.base x (List.mem_append_left _ hx) b hb).2⟩, (List.pairwise_append.1 h.sep).1⟩
theorem St.back {w0 w w' : World} {R R' : Hp} {N N' O : List Own} (h : St M w0 w R (N ++ O)) (h' : St N w w' R' N') (hr : RLe N w R R') : St M w0 w' R' (N' ++ O) ∧ RLe M w0 R R' := by
  have hsep := List.pairwise_append.1 h.sep
  have hO : ∀ x ∈ O, ∀ b, x.blk = some b → ¬ blks N b := fun x hx b hb ⟨y, hy, hyb⟩ => hsep.2.2 y hy x hx b hyb hb
  have hlt : ∀ x ∈ O, ∀ b, x.blk = some b → b < w.heap.size := fun x hx b hb => Own.ok_lt (h.own x (List.mem_append_right _ hx)) hb
  have hNM : ∀ k, k < w0.heap.size → blks N k → blks M k := fun k hk ⟨y, hy, hyb⟩ => h.ltM (List.mem_append_left _ hy) hyb hk
  have hup : ∀ b, w.heap.size ≤ b ∨ blks N b → w0.heap.size ≤ b ∨ blks M b := fun b hb => by
    rcases hb with h1 | ⟨y, hy, hyb⟩
    · exact Or.inl (Nat.le_trans h.bel.size h1)
    · exact (h.base y (List.mem_append_left _ hy) b hyb).1
  refine ⟨⟨h.bel.step h'.bel hNM, h'.sub, fun x hx => ?_, fun x hx b hb => ?_, ?_⟩, hr.le, fun b o hb => (hr.new b o hb).imp id (hup b)⟩
  · rcases List.mem_append.1 hx with hx | hx
    · exact h'.own x hx
    · exact Own.ok_kept (h.own x (List.mem_append_right _ hx)) fun b hb => h'.bel.block b (hlt x hx b hb) (hO x hx b hb)
  · rcases List.mem_append.1 hx with hx | hx
    · exact ⟨hup b (h'.base x hx b hb).1, (h'.base x hx b hb).2⟩
    · refine ⟨(h.base x (List.mem_append_right _ hx) b hb).1, ?_⟩
      cases hR : R' b with
      | none => rfl
      | some o =>
        exfalso
        rcases hr.new b o hR with h1 | h1 | h1
        · rw [(h.base x (List.mem_append_right _ hx) b hb).2] at h1; cases h1
        · have := hlt x hx b hb; omega
        · exact hO x hx b hb h1
  · refine List.pairwise_append.2 ⟨h'.sep, hsep.2.1, fun x hx y hy b hxb hyb => ?_⟩
    rcases (h'.base x hx b hxb).1 with h1 | h1
    · have := hlt y hy b hyb; omega
    · exact hO y hy b hyb h1
noncomputable def lentOf (M : List Own) (w : World) : Hp := open Classical in fun b => if blks M b then none else w.heap[b]?
theorem lentOf_sub (M : List Own) (w : World) : (lentOf M w).sub w := fun b o h => by
  unfold lentOf at h
  split at h
  · cases h
  · exact h
theorem lentOf_not {M : List Own} {w : World} : ∀ b, blks M b → lentOf M w b = none := fun b h => by unfold lentOf; rw [if_pos h]
theorem lentOf_some {M : List Own} {w : World} {b : Nat} {o : Obj} (h : ¬ blks M b) (ho : w.heap[b]? = some o) : lentOf M w b = some o := by unfold lentOf; rw [if_neg h]; exact ho
theorem St.ra {w0 w : World} {R RA : Hp} {O : List Own} (h : St M w0 w R O) (hA : RA.sub w0) (hM : ∀ b, blks M b → RA b = none) : RA.sub w := fun b o hb => by
  have h0 := hA b o hb
  rw [h.bel.block b (Array.getElem?_eq_some_iff.1 h0).1 (fun hm => by rw [hM b hm] at hb; cases hb)]
  exact h0
theorem St.rLe {w0 w : World} {R : Hp} {N O : List Own} (h : St M w0 w R (N ++ O)) : R.le (lentOf N w) := fun b o hb => lentOf_some (fun ⟨x, hx, hxb⟩ => by
  have := (h.base x (List.mem_append_left _ hx) b hxb).2
  rw [this] at hb; cases hb) (h.sub b o hb)
theorem St.raLe {w0 w : World} {R RA : Hp} {N O : List Own} (h : St M w0 w R (N ++ O)) (hA : RA.sub w0) (hM : ∀ b, blks M b → RA b = none) : RA.le (lentOf N w) := fun b o hb => lentOf_some (fun ⟨x, hx, hxb⟩ => by
  rcases (h.base x (List.mem_append_left _ hx) b hxb).1 with h1 | h1
  · have := hA.lt hb; omega
  · rw [hM b h1] at hb; cases hb) (h.ra hA hM b o hb)
theorem St.ownLent {w0 w : World} {R : Hp} {N O : List Own} (h : St M w0 w R (N ++ O)) {x : Own} (hx : x ∈ O) {b : Nat} {o : Obj} (hb : x.blk = some b) (ho : w.heap[b]? = some o) : lentOf N w b = some o :=
  lentOf_some (fun ⟨y, hy, hyb⟩ => (List.pairwise_append.1 h.sep).2.2 y hy x hx b hyb hb) ho
end
section
variable {P : Program} {ops : Array Oper} {Q : Exit → Act → World → Prop} {C : World → Prop} {QQ : Act → Prop} {a : Act} {w : World} {rest : List Oper} {o : Oper} {n : Fr} {L : Sl}
def wantedL (ops : Array Oper) (L : Sl) (o : Oper) : Option Bool :=
  match o.guard with
  | none => some true
  | some (j, want) =>
    match (ops[j]?).bind (·.dst) with
    | some d => match look L d with
      | some (.bool b) => some (b == want)
      | some (.tuple _) => some false
      | _ => none
    | none => none
theorem wantedL_ok (hK : Kn n a L) {b : Bool} (h : wantedL ops L o = some b) : Region.wanted o (yielded ops a.tmps) = b := by
  unfold wantedL at h
  unfold Region.wanted
  cases hg : o.guard with
  | none => simp only [hg] at h; cases h; rfl
  | some p =>
    obtain ⟨j, want⟩ := p
    simp only [hg] at h
    unfold yielded
    cases hd : (ops[j]?).bind (·.dst) with
    | none => simp [hd] at h
    | some d =>
      simp only [hd] at h
      cases hl : look L d with
      | none => simp [hl] at h
      | some v =>
        simp only [hl] at h
        have := hK.at_ d v hl
        cases v <;> simp at h <;> subst h <;> simp [hd, this]
def Runs (P : Program) (w : World) (a : Act) (o : Oper) (v : Value) : Prop := (execOp a.eval o).run P w = .ok (.value v) w
theorem sl {d : Nat} {v : Value} (hK : Kn n a L) (hd : d < n.n) (hw : wantedL ops L o = some true) (ho : o.dst = some d) (hr : Runs P w a o v)
    (h : ∀ a, Kn n a ((d, v) :: L) → wpList P ops Q rest a w) : wpList P ops Q (o :: rest) a w := by
  unfold wpList
  rw [if_pos (wantedL_ok hK hw)]
  refine .inl ?_
  unfold Oper.wp
  rw [hr, Oper.upon_value, ho]
  exact h _ (hK.put hd v)
theorem sl_skip {d : Nat} (hK : Kn n a L) (hd : d < n.n) (hw : wantedL ops L o = some false) (ho : o.dst = some d)
    (h : ∀ a, Kn n a ((d, undef) :: L) → wpList P ops Q rest a w) : wpList P ops Q (o :: rest) a w := by
  unfold wpList
  rw [if_neg (by rw [wantedL_ok hK hw]; simp), ho]
  exact h _ (hK.put hd _)
theorem slw {d : Nat} {v : Value} {w' : World} (hK : Kn n a L) (hd : d < n.n) (hw : wantedL ops L o = some true) (ho : o.dst = some d) (hr : (execOp a.eval o).run P w = .ok (.value v) w')
    (h : ∀ a, Kn n a ((d, v) :: L) → wpList P ops Q rest a w') : wpList P ops Q (o :: rest) a w := by
  unfold wpList
  rw [if_pos (wantedL_ok hK hw)]
  refine .inl ?_
  unfold Oper.wp
  rw [hr, Oper.upon_value, ho]
  exact h _ (hK.put hd v)
theorem sls {w' : World} (hK : Kn n a L) (hw : wantedL ops L o = some true) (ho : o.dst = none) (hr : (execOp a.eval o).run P w = .ok .skip w')
    (h : ∀ a, Kn n a L → wpList P ops Q rest a w') : wpList P ops Q (o :: rest) a w := by
  unfold wpList
  rw [if_pos (wantedL_ok hK hw)]
  refine .inl ?_
  unfold Oper.wp
  rw [hr, Oper.upon_skip, ho]
  exact h _ hK
theorem r_move {d ty pos af g} {x : Operand} {v : Value} (hK : Kn n a L) (hx : ev L x = some v) : Runs P w a ⟨d, .move x, ty, pos, af, g⟩ v := by
  simp [Runs, execOp, hK.ev hx]
theorem r_assign {d ty pos af g} {x : Operand} {v : Value} (hK : Kn n a L) (hx : ev L x = some v) : Runs P w a ⟨d, .assign x, ty, pos, af, g⟩ v := by
  simp [Runs, execOp, hK.ev hx]
theorem r_pick {d ty pos af g} {c x y : Operand} {b : Bool} {u v : Value} (hK : Kn n a L) (hc : ev L c = some (.bool b)) (hx : (bif b then ev L x else ev L y) = some u) (hv : u = v) : Runs P w a ⟨d, .pick c x y, ty, pos, af, g⟩ v := by
  subst hv
  cases b
  · simp [Runs, execOp, hK.ev hc, asBool, hK.ev hx]
  · simp [Runs, execOp, hK.ev hc, asBool, hK.ev hx]
def ibin : BinOp → IntKind → Int → Int → Option Value
  | .add, k, x, y => some (.int k (k.wrap (x + y)))
  | .sub, k, x, y => some (.int k (k.wrap (x - y)))
  | .mul, k, x, y => some (.int k (k.wrap (x * y)))
  | .eql, _, x, y => some (.bool (x == y))
  | .neq, _, x, y => some (.bool (x != y))
  | .lss, _, x, y => some (.bool (decide (x < y)))
  | .leq, _, x, y => some (.bool (decide (x ≤ y)))
  | .gtr, _, x, y => some (.bool (decide (x > y)))
  | .geq, _, x, y => some (.bool (decide (x ≥ y)))
  | .and, k, x, y => some (.int k (k.wrap (BitVec.ofInt k.bits x &&& BitVec.ofInt k.bits y).toNat))
  | .or, k, x, y => some (.int k (k.wrap (BitVec.ofInt k.bits x ||| BitVec.ofInt k.bits y).toNat))
  | .xor, k, x, y => some (.int k (k.wrap (BitVec.ofInt k.bits x ^^^ BitVec.ofInt k.bits y).toNat))
  | _, _, _, _ => none
theorem r_ibin {d ty pos af g} {op : BinOp} {t t' : TypeId} {x y : Operand} {k : IntKind} {p q : Int} {v : Value} (hK : Kn n a L) (hx : ev L x = some (.int k p)) (hy : ev L y = some (.int k q)) (hv : ibin op k p q = some v) : Runs P w a ⟨d, .binOp op t x y t', ty, pos, af, g⟩ v := by
  cases op <;> simp [ibin] at hv <;> subst hv <;> simp [Runs, execOp, hK.ev hx, hK.ev hy, eqGuard, binOp, Op.intArith, Op.intCmp, Op.intBits]
end
end Go.Eng
end
section
namespace Go.Eng
open Go.RowKit
set_option linter.unusedVariables false
set_option linter.unusedSimpArgs false
theorem add_lit (b o k : Nat) : (⟨b, o, none⟩ : Addr).add k = ⟨b, o + k, none⟩ := by unfold Addr.add; split <;> simp_all
section
variable {M : List Own}
theorem St.pk1 {w0 w : World} {R : Hp} {O : List Own} {x0 x : Own} (h : St M w0 w R (x0 :: x :: O)) : St M w0 w R (x :: x0 :: O) := h.pick 1 rfl
theorem St.pk2 {w0 w : World} {R : Hp} {O : List Own} {x0 x1 x : Own} (h : St M w0 w R (x0 :: x1 :: x :: O)) : St M w0 w R (x :: x0 :: x1 :: O) := h.pick 2 rfl
theorem St.pk3 {w0 w : World} {R : Hp} {O : List Own} {x0 x1 x2 x : Own} (h : St M w0 w R (x0 :: x1 :: x2 :: x :: O)) : St M w0 w R (x :: x0 :: x1 :: x2 :: O) := h.pick 3 rfl
theorem St.pk4 {w0 w : World} {R : Hp} {O : List Own} {x0 x1 x2 x3 x : Own} (h : St M w0 w R (x0 :: x1 :: x2 :: x3 :: x :: O)) : St M w0 w R (x :: x0 :: x1 :: x2 :: x3 :: O) := h.pick 4 rfl
theorem St.pk5 {w0 w : World} {R : Hp} {O : List Own} {x0 x1 x2 x3 x4 x : Own} (h : St M w0 w R (x0 :: x1 :: x2 :: x3 :: x4 :: x :: O)) : St M w0 w R (x :: x0 :: x1 :: x2 :: x3 :: x4 :: O) := h.pick 5 rfl
theorem St.pk6 {w0 w : World} {R : Hp} {O : List Own} {x0 x1 x2 x3 x4 x5 x : Own} (h : St M w0 w R (x0 :: x1 :: x2 :: x3 :: x4 :: x5 :: x :: O)) : St M w0 w R (x :: x0 :: x1 :: x2 :: x3 :: x4 :: x5 :: O) := h.pick 6 rfl
theorem St.pk7 {w0 w : World} {R : Hp} {O : List Own} {x0 x1 x2 x3 x4 x5 x6 x : Own} (h : St M w0 w R (x0 :: x1 :: x2 :: x3 :: x4 :: x5 :: x6 :: x :: O)) : St M w0 w R (x :: x0 :: x1 :: x2 :: x3 :: x4 :: x5 :: x6 :: O) := h.pick 7 rfl
theorem St.pk8 {w0 w : World} {R : Hp} {O : List Own} {x0 x1 x2 x3 x4 x5 x6 x7 x : Own} (h : St M w0 w R (x0 :: x1 :: x2 :: x3 :: x4 :: x5 :: x6 :: x7 :: x :: O)) : St M w0 w R (x :: x0 :: x1 :: x2 :: x3 :: x4 :: x5 :: x6 :: x7 :: O) := h.pick 8 rfl
theorem St.drop1 {w0 w : World} {R : Hp} {O : List Own} {x0 x : Own} (h : St M w0 w R (x0 :: x :: O)) : St M w0 w R (x0 :: O) := h.pk1.tail
theorem St.cell {w0 w : World} {R : Hp} {O : List Own} (h : St M w0 w R O) {b : Nat} {c : List Value} {t : TypeId} (hm : Own.cells b c t ∈ O) {j : Nat} {v : Value} (hv : c[j]? = some v) : w.cell? ⟨b, j, none⟩ = some v := by
  have : w.heap[b]? = some (.cells c.toArray t (0, 0)) := h.own _ hm
  rw [cell_of_row w b j _ t (0, 0) this]
  simpa using hv
theorem St.rcell {w0 w : World} {R : Hp} {O : List Own} (h : St M w0 w R O) {b j : Nat} {v : Value} (hc : R.cell b j = some v) : w.cell? ⟨b, j, none⟩ = some v := h.sub.cell hc
end
section
variable {P : Program} {ops : Array Oper} {Q : Exit → Act → World → Prop} {C : World → Prop} {QQ : Act → Prop} {a : Act} {w0 w : World} {M : List Own} {R : Hp} {O : List Own} {rest : List Oper} {n : Fr} {L : Sl}
variable {d : Option Tmp} {ty : TypeId} {pos : String} {af : Array Edge} {g : Option (Nat × Bool)}
theorem r_un {op : UnOp} {t : TypeId} {x : Operand} {u v : Value} (hK : Kn n a L) (hx : ev L x = some u) (hr : ∀ w, (Op.unary op u).run P w = .ok v w) : Runs P w a ⟨d, .unOp op t x, ty, pos, af, g⟩ v := by
  simp [Runs, execOp, hK.ev hx, hr]
theorem u_not (b : Bool) (w : World) : (Op.unary .not (.bool b)).run P w = .ok (.bool !b) w := rfl
def sbin : BinOp → ByteArray → ByteArray → Option Value
  | .eql, x, y => some (.bool (x.toList == y.toList))
  | .neq, x, y => some (.bool !(x.toList == y.toList))
  | .lss, x, y => some (.bool (Op.bytesLess x.toList y.toList))
  | _, _, _ => none
theorem r_sbin {op : BinOp} {t t' : TypeId} {x y : Operand} {p q : ByteArray} {v : Value} (hK : Kn n a L) (hx : ev L x = some (.string p)) (hy : ev L y = some (.string q)) (hv : sbin op p q = some v) : Runs P w a ⟨d, .binOp op t x y t', ty, pos, af, g⟩ v := by
  cases op <;> simp [sbin] at hv <;> subst hv <;> simp [Runs, execOp, hK.ev hx, hK.ev hy, eqGuard, binOp, Op.stringOp]
theorem r_sadd {t t' : TypeId} {x y : Operand} {p q : ByteArray} (hK : Kn n a L) (hx : ev L x = some (.string p)) (hy : ev L y = some (.string q)) (hl : p.size + q.size ≤ 9223372036854775807) : Runs P w a ⟨d, .binOp .add t x y t', ty, pos, af, g⟩ (.string (p ++ q)) := by
  have : ¬ (((p.size + q.size : Nat) : Int) > IntKind.i64.max) := by have e : IntKind.i64.max = 9223372036854775807 := by decide
                                                                     rw [e]; omega
  simp only [Runs, execOp, hK.ev hx, hK.ev hy, eqGuard, binOp, Op.stringOp, Sem.run_bind]
  rw [if_neg this]; rfl
theorem eql_bool {t : TypeId} (hu : P.underlying t = some .bool) (p q : Bool) (k : Nat) : (Op.equalIn (k + 1) t (.bool p) (.bool q)).run P w = .ok (p == q) w := by
  simp only [Op.equalIn, Sem.run_bind, run_underlying hu, Result.andThen_ok, Sem.run_pure]
theorem eql_bool' {t : TypeId} (hu : P.underlying t = some .bool) (p q : Bool) : (Op.equal t (.bool p) (.bool q)).run P w = .ok (p == q) w := eql_bool hu p q 9999
theorem r_bne {t t' : TypeId} {x y : Operand} {p q : Bool} (hu : P.underlying t = some .bool) (hK : Kn n a L) (hx : ev L x = some (.bool p)) (hy : ev L y = some (.bool q)) : Runs P w a ⟨d, .binOp .neq t x y t', ty, pos, af, g⟩ (.bool (!(p == q))) := by
  simp [Runs, execOp, hK.ev hx, hK.ev hy, eqGuard, binOp, eql_bool' hu]
theorem r_quo {t t' : TypeId} {x y : Operand} {k : IntKind} {p q : Int} (hK : Kn n a L) (hx : ev L x = some (.int k p)) (hy : ev L y = some (.int k q)) (hq : q ≠ 0) : Runs P w a ⟨d, .binOp .quo t x y t', ty, pos, af, g⟩ (.int k (k.wrap (p.tdiv q))) := by
  simp [Runs, execOp, hK.ev hx, hK.ev hy, eqGuard, binOp, Op.intDiv, hq]
theorem r_shr {t t' : TypeId} {x y : Operand} {k k' : IntKind} {p q : Int} (hK : Kn n a L) (hx : ev L x = some (.int k p)) (hy : ev L y = some (.int k' q)) (hq : 0 ≤ q) : Runs P w a ⟨d, .binOp .shr t x y t', ty, pos, af, g⟩ (.int k (p.fdiv (2 ^ (min q.toNat k.bits)))) := by
  simp [Runs, execOp, hK.ev hx, hK.ev hy, eqGuard, binOp, Op.shift, Int.not_lt.2 hq]
theorem r_conv {s t : TypeId} {x : Operand} {k k' : IntKind} {p : Int} {ds : TypeDesc} (hs : P.underlying s = some ds) (ht : P.underlying t = some (.int k')) (hK : Kn n a L) (hx : ev L x = some (.int k p)) : Runs P w a ⟨d, .convert s t x, ty, pos, af, g⟩ (.int k' (k'.wrap p)) := by
  simp [Runs, execOp, hK.ev hx, convert, run_underlying hs, run_underlying ht, Conv.intToInt]
theorem r_extract {x : Operand} {i : Nat} {vs : Array Value} {v : Value} (hK : Kn n a L) (hx : ev L x = some (.tuple vs)) (hv : vs[i]? = some v) : Runs P w a ⟨d, .extract x i, ty, pos, af, g⟩ v := by
  simp [Runs, execOp, hK.ev hx, Instr.extract, hv]
theorem r_len_str {x : Operand} {t : TypeId} {p : ByteArray} (hu : P.underlying t = some .string) (hK : Kn n a L) (hx : ev L x = some (.string p)) : Runs P w a ⟨d, .call { callee := .builtin .len, args := #[x], argTypes := #[t] }, ty, pos, af, g⟩ (.int .i64 (p.size : Int)) := by
  simp [Runs, execOp, resolve, invoke, builtin, Builtin.len_, hK.ev hx, run_underlying hu, goInt]
theorem r_len_sl {x : Operand} {t e : TypeId} {ad : Option Addr} {m c : Nat} (hu : P.underlying t = some (.slice e)) (hK : Kn n a L) (hx : ev L x = some (.slice ad m c)) : Runs P w a ⟨d, .call { callee := .builtin .len, args := #[x], argTypes := #[t] }, ty, pos, af, g⟩ (.int .i64 (m : Int)) := by
  simp [Runs, execOp, resolve, invoke, builtin, Builtin.len_, hK.ev hx, run_underlying hu, goInt]
theorem r_func {fn : Fn} {fs cs : List Operand} {us vs : List Value} (hf : fs.map a.eval = us) (hc : cs.map a.eval = vs) : Runs P w a ⟨d, .makeFunc fn fs.toArray cs.toArray, ty, pos, af, g⟩ (.func fn us.toArray vs.toArray) := by
  subst hf; subst hc
  simp [Runs, execOp, Instr.makeFunc]
theorem r_nilCheck {x : Operand} {ad : Addr} (hK : Kn n a L) (hx : ev L x = some (.pointer (some ad))) : Runs P w a ⟨d, .nilCheck x, ty, pos, af, g⟩ (.pointer (some ad)) := by
  simp [Runs, execOp, hK.ev hx]
theorem r_index_str {x y : Operand} {t : TypeId} {p : ByteArray} {k : IntKind} {i : Int} (hu : P.underlying t = some .string) (hK : Kn n a L) (hx : ev L x = some (.string p)) (hy : ev L y = some (.int k i)) (h0 : 0 ≤ i) (h1 : i < (p.size : Int)) :
    Runs P w a ⟨d, .index t x y, ty, pos, af, g⟩ (.int .u8 ((p.data.toList.getD i.toNat 0).toNat : Int)) := by
  have hlt : i.toNat < p.size := by omega
  have hlt' : i.toNat < p.data.size := hlt
  have e : p[i.toNat]? = some (p.data.toList.getD i.toNat 0) := by
    rw [getElem?_pos p i.toNat hlt]
    congr 1
    have : p.data.toList.getD i.toNat 0 = p.data.toList[i.toNat]'(by simpa using hlt') := by rw [List.getD_eq_getElem?_getD, List.getElem?_eq_getElem (by simpa using hlt')]; rfl
    rw [this]
    rfl
  simp [Runs, execOp, Instr.index, hK.ev hx, hK.ev hy, asIntOf, run_underlying hu, h0, e]
theorem r_load {t : TypeId} {x : Operand} {ad : Addr} {v : Value} (hA : ∀ w, (isAgg t).run P w = .ok false w) (hK : Kn n a L) (hx : ev L x = some (.pointer (some ad))) (hc : w.cell? ad = some v) : Runs P w a ⟨d, .load t x, ty, pos, af, g⟩ v := by
  simp [Runs, execOp, hK.ev hx, Instr.loadAt, Instr.sureAddr, loadVar, hA, hc]
theorem cells_load (P : Program) {w : World} {b o : Nat} {cs : List Value} (hc : ∀ j v, cs[j]? = some v → w.cell? ⟨b, o + j, none⟩ = some v) : (loadCells ⟨b, o, none⟩ cs.length).run P w = .ok cs.toArray w :=
  run_loadCells_list (P := P) w ⟨b, o, none⟩ cs (fun j v hv => by rw [add_lit]; exact hc j v hv)
theorem r_loadA {t : TypeId} {x : Operand} {b o m : Nat} {cs : List Value} (hA : ∀ w, (isAgg t).run P w = .ok true w) (hz : ∀ w, (sizeOf t).run P w = .ok m w) (hm : cs.length = m) (hK : Kn n a L) (hx : ev L x = some (.pointer (some ⟨b, o, none⟩)))
    (hc : ∀ j v, cs[j]? = some v → w.cell? ⟨b, o + j, none⟩ = some v) : Runs P w a ⟨d, .load t x, ty, pos, af, g⟩ (.agg cs.toArray) := by
  subst hm
  simp [Runs, execOp, hK.ev hx, Instr.loadAt, Instr.sureAddr, loadVar, hA, hz, cells_load P hc]
theorem St.cells_of {b o m : Nat} {c : List Value} {t : TypeId} (h : St M w0 w R O) (hm : Own.cells b c t ∈ O) {cs : List Value} (hcs : (c.drop o).take m = cs) : ∀ j v, cs[j]? = some v → w.cell? ⟨b, o + j, none⟩ = some v := by
  subst hcs
  intro j v hv
  rw [List.getElem?_take] at hv
  split at hv
  · rw [List.getElem?_drop] at hv
    exact h.cell hm hv
  · cases hv
theorem r_fieldAddr {s : TypeId} {x : Operand} {i b o m : Nat} {fs : Array Field} {f : Field} (hu : P.underlying s = some (.struct fs)) (hf : fs[i]? = some f) (hz : ∀ w, (sizeOf f.type).run P w = .ok (m + 1) w) (hK : Kn n a L) (hx : ev L x = some (.pointer (some ⟨b, o, none⟩))) :
    Runs P w a ⟨d, .fieldAddr s x i, ty, pos, af, g⟩ (.pointer (some ⟨b, o + f.offset, none⟩)) := by
  simp [Runs, execOp, hK.ev hx, Instr.fieldAt, run_underlying hu, hf, Instr.sureAddr, fieldPlace, hz, add_lit]
theorem r_indexAddr_arr {t e : TypeId} {x y : Operand} {b o m z : Nat} {k : IntKind} {i : Int} (hu : P.underlying t = some (.array m e)) (hz : ∀ w, (sizeOf e).run P w = .ok z w) (hK : Kn n a L) (hx : ev L x = some (.pointer (some ⟨b, o, none⟩))) (hy : ev L y = some (.int k i)) (h0 : 0 ≤ i) (h1 : i < (m : Int)) :
    Runs P w a ⟨d, .indexAddr t x y, ty, pos, af, g⟩ (.pointer (some ⟨b, o + i.toNat * z, none⟩)) := by
  simp [Runs, execOp, hK.ev hx, hK.ev hy, Instr.indexAt, asIntOf, run_underlying hu, Instr.sureAddr, h0, h1, hz, add_lit]
theorem r_indexAddr_sl {t e : TypeId} {x y : Operand} {b o m c z : Nat} {k : IntKind} {i : Int} (hu : P.underlying t = some (.slice e)) (hz : ∀ w, (sizeOf e).run P w = .ok z w) (hK : Kn n a L) (hx : ev L x = some (.slice (some ⟨b, o, none⟩) m c)) (hy : ev L y = some (.int k i)) (h0 : 0 ≤ i) (h1 : i < (m : Int)) :
    Runs P w a ⟨d, .indexAddr t x y, ty, pos, af, g⟩ (.pointer (some ⟨b, o + i.toNat * z, none⟩)) := by
  simp [Runs, execOp, hK.ev hx, hK.ev hy, Instr.indexAt, asIntOf, run_underlying hu, Instr.sureAddr, h0, h1, hz, add_lit]
theorem sl_box {d : Nat} {t : TypeId} {x : Operand} {v : Value} {c : List Value} (hS : St M w0 w R O) (hK : Kn n a L) (hd : d < n.n) (hw : wantedL ops L ⟨some d, .box t x, ty, pos, af, g⟩ = some true) (hx : ev L x = some v) (hc : v.cells = c.toArray)
    (h : ∀ a w b, St M w0 w R (.cells b c t :: O) → Kn n a ((d, .pointer (some ⟨b, 0, none⟩)) :: L) → wpList P ops Q rest a w) : wpList P ops Q (⟨some d, .box t x, ty, pos, af, g⟩ :: rest) a w := by
  refine slw hK hd hw rfl (v := .pointer (some ⟨w.heap.size, 0, none⟩)) (w' := w.alloc (.cells c.toArray t)) ?_ fun a' hK' => h a' _ _ (hS.alloc c t) hK'
  simp [execOp, hK.ev hx, Instr.box, newVar, newRow, hc]
theorem sl_alloc {d : Nat} {t : TypeId} {v : Value} {c : List Value} (hZ : ∀ w, (zeroValue t).run P w = .ok v w) (hS : St M w0 w R O) (hK : Kn n a L) (hd : d < n.n) (hw : wantedL ops L ⟨some d, .alloc t, ty, pos, af, g⟩ = some true) (hc : v.cells = c.toArray)
    (h : ∀ a w b, St M w0 w R (.cells b c t :: O) → Kn n a ((d, .pointer (some ⟨b, 0, none⟩)) :: L) → wpList P ops Q rest a w) : wpList P ops Q (⟨some d, .alloc t, ty, pos, af, g⟩ :: rest) a w := by
  refine slw hK hd hw rfl (v := .pointer (some ⟨w.heap.size, 0, none⟩)) (w' := w.alloc (.cells c.toArray t)) ?_ fun a' hK' => h a' _ _ (hS.alloc c t) hK'
  simp [execOp, Instr.alloc, newVar, newRow, hZ, hc]
def evps (L : Sl) : List (Nat × Operand) → Option (List (Nat × Value))
  | [] => some []
  | (i, x) :: r => match ev L x, evps L r with
    | some v, some vs => some ((i, v) :: vs)
    | _, _ => none
theorem Kn.evps {L : Sl} (hK : Kn n a L) : ∀ {xs : List (Nat × Operand)} {vs : List (Nat × Value)}, Eng.evps L xs = some vs → xs.map (fun p => (p.1, a.eval p.2)) = vs
  | [], vs, h => by simp [Eng.evps] at h; simp [h]
  | (i, x) :: r, vs, h => by
    simp only [Eng.evps] at h
    cases h1 : Eng.ev L x with
    | none => simp [h1] at h
    | some v =>
      cases h2 : Eng.evps L r with
      | none => simp [h1, h2] at h
      | some us =>
        simp only [h1, h2, Option.some.injEq] at h
        subst h
        simp [hK.ev h1, Kn.evps hK h2]
def setAt (cs : List Value) (off : Nat) : List Value → List Value
  | [] => cs
  | v :: r => setAt (cs.set off v) (off + 1) r
def fillL (place : Nat → Option (Nat × Nat)) (cs : List Value) : List (Nat × Value) → Option (List Value)
  | [] => some cs
  | (i, v) :: r => match place i with
    | none => none
    | some (off, size) => bif Nat.beq v.cells.toList.length size && Nat.ble (off + v.cells.toList.length) cs.length then fillL place (setAt cs off v.cells.toList) r else none
theorem foldl_setAt (off : Nat) : ∀ (vs : List Value) (k : Nat) (cs : List Value), (vs.zipIdx k).foldl (fun (acc : Array Value) (p : Value × Nat) => acc.setIfInBounds (off + p.2) p.1) cs.toArray = (setAt cs (off + k) vs).toArray
  | [], k, cs => rfl
  | v :: r, k, cs => by
    rw [List.zipIdx_cons, List.foldl_cons]
    simp only [List.setIfInBounds_toArray]
    rw [foldl_setAt off r (k + 1) (cs.set (off + k) v)]
    rfl
theorem fill_eq (place : Nat → Option (Nat × Nat)) : ∀ (ps : List (Nat × Value)) (cs : List Value), Instr.fill place cs.toArray ps = (fillL place cs ps).map List.toArray
  | [], cs => rfl
  | (i, v) :: r, cs => by
    simp only [Instr.fill, fillL]
    cases place i with
    | none => rfl
    | some p =>
      obtain ⟨off, size⟩ := p
      simp only [List.size_toArray]
      have hl : v.cells.toList.length = v.cells.size := by simp
      by_cases h : v.cells.size ≠ size ∨ off + v.cells.size > cs.length
      · rw [if_pos (by simpa using h)]
        have : (Nat.beq v.cells.toList.length size && Nat.ble (off + v.cells.toList.length) cs.length) = false := by
          rw [hl]
          rcases h with h | h
          · have : Nat.beq v.cells.size size = false := by
              cases hb : Nat.beq v.cells.size size with
              | false => rfl
              | true => exact absurd (Nat.eq_of_beq_eq_true hb) h
            rw [this]; rfl
          · have : Nat.ble (off + v.cells.size) cs.length = false := by
              cases hb : Nat.ble (off + v.cells.size) cs.length with
              | false => rfl
              | true => exact absurd (Nat.le_of_ble_eq_true hb) (by omega)
            rw [this, Bool.and_false]
        rw [this]; rfl
      · have h' : v.cells.size = size ∧ off + v.cells.size ≤ cs.length := by omega
        rw [if_neg (by simpa using h)]
        have : (Nat.beq v.cells.toList.length size && Nat.ble (off + v.cells.toList.length) cs.length) = true := by
          rw [hl, h'.1, Nat.beq_refl, ← h'.1, Nat.ble_eq_true_of_le h'.2]; rfl
        rw [this]
        simp only [cond_true]
        rw [← fill_eq place r]
        congr 1
        have := foldl_setAt off v.cells.toList 0 cs
        rw [Nat.add_zero] at this
        rw [← this]
        rw [← Array.foldl_toList, Array.toList_zipIdx]
def zerosL (zc : List Value) (k : Nat) : List Value := (List.range k).map fun i => (zc[i % zc.length]?).getD undef
theorem sl_buildSlice {d : Nat} {t e : TypeId} {m z : Nat} {parts : List (Nat × Operand)} {ps : List (Nat × Value)} {zv : Value} {zc c : List Value} (hu : P.underlying t = some (.slice e)) (hz : ∀ w, (sizeOf e).run P w = .ok z w) (hZ : ∀ w, (zeroValue e).run P w = .ok zv w)
    (hp : evps L parts = some ps) (hsm : Nat.ble (m * z) (2 ^ 24) = true) (hzc : zv.cells = zc.toArray) (hzl : 0 < zc.length) (hfill : fillL (fun i => some (i * z, z)) (zerosL zc (m * z)) ps = some c)
    (hS : St M w0 w R O) (hK : Kn n a L) (hd : d < n.n) (hw : wantedL ops L ⟨some d, .buildSlice t m parts.toArray, ty, pos, af, g⟩ = some true)
    (h : ∀ a w b, St M w0 w R (.cells b c e :: O) → Kn n a ((d, .slice (some ⟨b, 0, none⟩) m m) :: L) → wpList P ops Q rest a w) : wpList P ops Q (⟨some d, .buildSlice t m parts.toArray, ty, pos, af, g⟩ :: rest) a w := by
  refine slw hK hd hw rfl (v := .slice (some ⟨w.heap.size, 0, none⟩) m m) (w' := w.alloc (.cells c.toArray e)) ?_ fun a' hK' => h a' _ _ (hS.alloc c e) hK'
  have e1 : ¬ (m * z > 2 ^ 24) := by have := Nat.le_of_ble_eq_true hsm; omega
  have e2 : (parts.toArray.map fun (i, x) => (i, a.eval x)).toList = ps := by rw [← hK.evps hp]; simp
  have hf : Instr.fill (fun i => some (i * z, z)) (zerosL zc (m * z)).toArray ps = some c.toArray := by rw [fill_eq, hfill]; rfl
  simp only [execOp, Instr.buildSlice, Sem.run_bind, run_underlying hu, Result.andThen_ok, hz, Sem.run_ite, if_neg e1, e2]
  by_cases h0 : m * z = 0
  · have ez : (Array.map (fun x => (#[] : Array Value)[x % (#[] : Array Value).size]!) (Array.range (m * z))) = (zerosL zc (m * z)).toArray := by rw [h0]; simp [zerosL]
    simp only [h0, if_true, Sem.run_bind, Sem.run_pure, Result.andThen_ok] at ez ⊢
    rw [ez]
    rw [h0] at hf
    simp [hf, newRow]
  · have ez : (Array.map (fun x => zv.cells[x % zv.cells.size]!) (Array.range (m * z))) = (zerosL zc (m * z)).toArray := by
      rw [hzc]
      apply Array.ext'
      simp only [zerosL, Array.toList_map, Array.toList_range]
      apply List.map_congr_left
      intro i _
      have hi : i % zc.length < zc.length := Nat.mod_lt _ hzl
      simp [hi]
    simp only [if_neg h0, Sem.run_bind, hZ, Sem.run_pure, Result.andThen_ok]
    rw [ez, hf]
    simp [newRow]
theorem store_one (P : Program) {w : World} {b j : Nat} {c : List Value} {t : TypeId} (hb : w.heap[b]? = some (.cells c.toArray t (0, 0))) (hj : j < c.length) (v : Value) (h1 : v.oneCell' = true) : (storeCells ⟨b, j, none⟩ [v]).run P w = .ok () (w.setCell ⟨b, j, none⟩ v) := by
  have hc : w.cell? ⟨b, j, none⟩ = some c[j] := by rw [cell_of_row w b j _ t (0, 0) hb]; simp [hj]
  simp [storeCells, add_lit, run_store P w _ v _ h1, hc, frozen_of_row w b j _ t hb]
theorem sl_store1 {t : TypeId} {x y : Operand} {b j : Nat} {c c' : List Value} {t' : TypeId} {v : Value} (hz : ∀ w, (sizeOf t).run P w = .ok 1 w) (hS : St M w0 w R (.cells b c t' :: O)) (hK : Kn n a L) (hw : wantedL ops L ⟨none, .store t x y, ty, pos, af, g⟩ = some true)
    (hx : ev L x = some (.pointer (some ⟨b, j, none⟩))) (hy : ev L y = some v) (h1 : v.oneCell' = true) (hj : j < c.length) (hc' : c.set j v = c')
    (h : ∀ a w, St M w0 w R (.cells b c' t' :: O) → Kn n a L → wpList P ops Q rest a w) : wpList P ops Q (⟨none, .store t x y, ty, pos, af, g⟩ :: rest) a w := by
  subst hc'
  have hb : w.heap[b]? = some (.cells c.toArray t' (0, 0)) := hS.own (.cells b c t') (List.mem_cons_self ..)
  refine sls hK hw rfl (w' := w.setCell ⟨b, j, none⟩ v) ?_ fun a' hK' => h a' _ (hS.set j v) hK'
  have hcells : v.cells = #[v] := by cases v <;> first | rfl | (simp [Value.oneCell'] at h1)
  simp [execOp, hK.ev hx, hK.ev hy, Instr.storeAt, Instr.sureAddr, storeVar, hcells, hz, store_one P hb hj v h1]
theorem St.setAll {b o : Nat} {c vs : List Value} {t : TypeId} (h : St M w0 w R (.cells b c t :: O)) : St M w0 (w.setRow b (c.take o ++ vs ++ c.drop (o + vs.length)).toArray) R (.cells b (c.take o ++ vs ++ c.drop (o + vs.length)) t :: O) := by
  have h0 : w.heap[b]? = some (.cells c.toArray t (0, 0)) := h.own (.cells b c t) (List.mem_cons_self ..)
  refine h.turn rfl rfl rfl (by simp) (Nat.le_refl _) (fun k _ hk => setRow_other w b k _ (fun e => hk (by simp [Own.blk, e]))) ?_ (fun b' hb' => Or.inl hb')
  exact setRow_heap w b _ _ t _ h0
theorem sl_storeA {t : TypeId} {x y : Operand} {b o m : Nat} {c c' vs : List Value} {t' : TypeId} (hz : ∀ w, (sizeOf t).run P w = .ok m w) (hS : St M w0 w R (.cells b c t' :: O)) (hK : Kn n a L) (hw : wantedL ops L ⟨none, .store t x y, ty, pos, af, g⟩ = some true)
    (hx : ev L x = some (.pointer (some ⟨b, o, none⟩))) (hy : ev L y = some (.agg vs.toArray)) (hm : vs.length = m) (h1 : ∀ v ∈ vs, v.oneCell' = true) (hj : o + m ≤ c.length) (hc' : c.take o ++ vs ++ c.drop (o + vs.length) = c')
    (h : ∀ a w, St M w0 w R (.cells b c' t' :: O) → Kn n a L → wpList P ops Q rest a w) : wpList P ops Q (⟨none, .store t x y, ty, pos, af, g⟩ :: rest) a w := by
  subst hc'
  subst hm
  have hb : w.heap[b]? = some (.cells c.toArray t' (0, 0)) := hS.own (.cells b c t') (List.mem_cons_self ..)
  refine sls hK hw rfl (w' := w.setRow b (c.take o ++ vs ++ c.drop (o + vs.length)).toArray) ?_ fun a' hK' => h a' _ hS.setAll hK'
  have hs := run_storeCells_at P b o t' vs 0 c.toArray w hb (by simpa using hj) h1
  simp only [Nat.add_zero] at hs
  simp [execOp, hK.ev hx, hK.ev hy, Instr.storeAt, Instr.sureAddr, storeVar, Value.cells, hz, hs]
def Rets (Φ : Value → World → Prop) : Ending → World → Prop := fun e w' => ∃ v, e = .returned v ∧ Φ v w'
def CallsV (P : Program) (f : FuncId) (args : Array Value) (w : World) (v : Value) : Prop := Calls P f args w fun e w' => e = .returned v ∧ Bel [] w w'
def evs (L : Sl) : List Operand → Option (List Value)
  | [] => some []
  | x :: r => match ev L x, evs L r with
    | some v, some vs => some (v :: vs)
    | _, _ => none
theorem Kn.evs {L : Sl} (hK : Kn n a L) : ∀ {xs : List Operand} {vs : List Value}, evs L xs = some vs → xs.map a.eval = vs
  | [], vs, h => by simp [Eng.evs] at h; simp [h]
  | x :: r, vs, h => by
    simp only [Eng.evs] at h
    cases h1 : Eng.ev L x with
    | none => simp [h1] at h
    | some v =>
      cases h2 : Eng.evs L r with
      | none => simp [h1, h2] at h
      | some us =>
        simp only [h1, h2, Option.some.injEq] at h
        subst h
        simp [hK.ev h1, Kn.evs hK h2]
theorem call_run {x : Operand} {xs : List Operand} {ts : Array TypeId} {f : FuncId} {cap : List Value} {vs : List Value} (hf : ∀ args w, (callFunc f args).run P w = .ok (.enter f args) w) (hK : Kn n a L) (hx : ev L x = some (.func (.func f) #[] cap.toArray)) (hv : evs L xs = some vs) :
    (execOp a.eval ⟨d, .call { callee := .value x, args := xs.toArray, argTypes := ts }, ty, pos, af, g⟩).run P w = .ok (.enter f (vs ++ cap).toArray) w := by
  have e : (xs.toArray.map a.eval) = vs.toArray := by rw [← hK.evs hv]; simp
  simp [execOp, resolve, hK.ev hx, Deferred.ofValue, invoke, e, hf]
theorem sl_call {d : Nat} {x : Operand} {xs : List Operand} {ts : Array TypeId} {f : FuncId} {cap : List Value} {vs : List Value} {Φ : Value → World → Prop} (hf : ∀ args w, (callFunc f args).run P w = .ok (.enter f args) w) (hK : Kn n a L) (hd : d < n.n)
    (hw : wantedL ops L ⟨some d, .call { callee := .value x, args := xs.toArray, argTypes := ts }, ty, pos, af, g⟩ = some true) (hx : ev L x = some (.func (.func f) #[] cap.toArray)) (hv : evs L xs = some vs)
    (hc : Calls P f (vs ++ cap).toArray w (Rets Φ)) (h : ∀ a v w', Φ v w' → Kn n a ((d, v) :: L) → wpList P ops Q rest a w') : wpList P ops Q (⟨some d, .call { callee := .value x, args := xs.toArray, argTypes := ts }, ty, pos, af, g⟩ :: rest) a w := by
  unfold wpList
  rw [if_pos (wantedL_ok hK hw)]
  refine .inl ?_
  unfold Oper.wp
  rw [call_run hf hK hx hv, Oper.upon_enter]
  refine hc.mono fun e w' ⟨v, he, hΦ⟩ => ?_
  subst he
  exact h _ v w' hΦ (hK.put hd v)
theorem sl_callV {d : Nat} {x : Operand} {xs : List Operand} {ts : Array TypeId} {f : FuncId} {cap : List Value} {vs : List Value} {v : Value} (hf : ∀ args w, (callFunc f args).run P w = .ok (.enter f args) w) (hS : St M w0 w R O) (hK : Kn n a L) (hd : d < n.n)
    (hw : wantedL ops L ⟨some d, .call { callee := .value x, args := xs.toArray, argTypes := ts }, ty, pos, af, g⟩ = some true) (hx : ev L x = some (.func (.func f) #[] cap.toArray)) (hv : evs L xs = some vs)
    (hc : CallsV P f (vs ++ cap).toArray w v) (h : ∀ a w', St M w0 w' R O → Kn n a ((d, v) :: L) → wpList P ops Q rest a w') : wpList P ops Q (⟨some d, .call { callee := .value x, args := xs.toArray, argTypes := ts }, ty, pos, af, g⟩ :: rest) a w :=
  sl_call (Φ := fun u w' => u = v ∧ Bel [] w w') hf hK hd hw hx hv (hc.mono fun e w' ⟨he, hb⟩ => ⟨v, he, rfl, hb⟩) fun a u w' ⟨hu, hb⟩ hK' => by subst hu; exact h a w' (hS.keep hb) hK'
end
end Go.Eng
end
section
namespace Go.Eng
open Go.RowKit
set_option linter.unusedVariables false
set_option linter.unusedSimpArgs false
structure Ty (α : Type) where
  n : Nat
  rep : Hp → List Value → α → Prop
  mono : ∀ {R R' : Hp} {cs : List Value} {x : α}, R.le R' → rep R cs x → rep R' cs x
  len : ∀ {R : Hp} {cs : List Value} {x : α}, rep R cs x → cs.length = n
  one : ∀ {R : Hp} {cs : List Value} {x : α}, rep R cs x → ∀ u ∈ cs, u.oneCell' = true
def Ty.flat {α : Type} (n : Nat) (enc : α → List Value) (h : ∀ x, (enc x).length = n) (h1 : ∀ x, ∀ u ∈ enc x, u.oneCell' = true) : Ty α where
  n := n
  rep := fun _ cs x => cs = enc x
  mono := fun _ h => h
  len := fun h' => by subst h'; exact h _
  one := fun h' => by subst h'; exact h1 _
def tyInt (k : IntKind) : Ty Int := Ty.flat 1 (fun x => [.int k x]) (fun _ => rfl) (fun _ => all_cons rfl all_nil)
def tyStr : Ty ByteArray := Ty.flat 1 (fun x => [.string x]) (fun _ => rfl) (fun _ => all_cons rfl all_nil)
def SlR {α : Type} (ty : Ty α) (R : Hp) (v : Value) (xs : List α) : Prop :=
  ∃ ad cap, v = .slice ad xs.length cap ∧ xs.length ≤ cap ∧ (xs ≠ [] → ∃ b o, ad = some ⟨b, o, none⟩ ∧ ∀ i x, xs[i]? = some x → ∃ cs, ty.rep R cs x ∧ ∀ j u, cs[j]? = some u → R.cell b (o + i * ty.n + j) = some u)
theorem SlR.mono {α : Type} {ty : Ty α} {R R' : Hp} {v : Value} {xs : List α} (h : SlR ty R v xs) (hR : R.le R') : SlR ty R' v xs := by
  obtain ⟨ad, cap, h1, h2, h3⟩ := h
  refine ⟨ad, cap, h1, h2, fun hne => ?_⟩
  obtain ⟨b, o, h4, h5⟩ := h3 hne
  refine ⟨b, o, h4, fun i x hx => ?_⟩
  obtain ⟨cs, h6, h7⟩ := h5 i x hx
  exact ⟨cs, ty.mono hR h6, fun j u hu => Hp.cell_le hR (h7 j u hu)⟩
theorem SlR.one {α : Type} {ty : Ty α} {R : Hp} {v : Value} {xs : List α} (h : SlR ty R v xs) : v.oneCell' = true := by
  obtain ⟨ad, cap, h1, _⟩ := h; subst h1; rfl
def tySl {α : Type} (ty : Ty α) : Ty (List α) where
  n := 1
  rep := fun R cs xs => ∃ v, cs = [v] ∧ SlR ty R v xs
  mono := fun hR ⟨v, h, h'⟩ => ⟨v, h, h'.mono hR⟩
  len := fun ⟨v, h, _⟩ => by subst h; rfl
  one := fun ⟨v, h, h'⟩ => by subst h; exact all_cons h'.one all_nil
theorem SlR.nil {α : Type} (ty : Ty α) (R : Hp) : SlR ty R (.slice none 0 0) ([] : List α) := ⟨none, 0, rfl, Nat.le_refl _, fun h => absurd rfl h⟩
def ix {α : Type} (xs : List α) (i : Int) : Option α := if 0 ≤ i then xs[i.toNat]? else none
theorem ix_some {α : Type} {xs : List α} {i : Int} {x : α} (h : ix xs i = some x) : 0 ≤ i ∧ i < (xs.length : Int) ∧ xs[i.toNat]? = some x := by
  unfold ix at h
  split at h
  · rename_i h0
    have := (List.getElem?_eq_some_iff.1 h).1
    exact ⟨h0, by omega, h⟩
  · cases h
theorem ix_nat {α : Type} (xs : List α) (i : Nat) : ix xs (i : Int) = xs[i]? := by simp [ix]
theorem SlR.ix {α : Type} {ty : Ty α} {R : Hp} {v : Value} {xs : List α} (h : SlR ty R v xs) {i : Int} {x : α} (hx : Eng.ix xs i = some x) :
    ∃ b o c cs, v = .slice (some ⟨b, o, none⟩) xs.length c ∧ ty.rep R cs x ∧ (∀ j u, cs[j]? = some u → R.cell b (o + i.toNat * ty.n + j) = some u) ∧ 0 ≤ i ∧ i < (xs.length : Int) := by
  obtain ⟨h0, h1, h2⟩ := ix_some hx
  obtain ⟨ad, cap, e, _, h3⟩ := h
  have hne : xs ≠ [] := by intro e; subst e; simp at h2
  obtain ⟨b, o, h4, h5⟩ := h3 hne
  obtain ⟨cs, h6, h7⟩ := h5 _ _ h2
  exact ⟨b, o, cap, cs, by rw [e, h4], h6, h7, h0, h1⟩
def ixs (s : ByteArray) (i : Int) : Option Int := if 0 ≤ i then (if i < (s.size : Int) then some ((s.data.toList.getD i.toNat 0).toNat : Int) else none) else none
theorem ixs_some {s : ByteArray} {i : Int} {x : Int} (h : ixs s i = some x) : 0 ≤ i ∧ i < (s.size : Int) ∧ x = ((s.data.toList.getD i.toNat 0).toNat : Int) := by
  unfold ixs at h
  split at h
  · split at h
    · exact ⟨by assumption, by assumption, (Option.some.inj h).symm⟩
    · cases h
  · cases h
def Reps {α : Type} (ty : Ty α) (R : Hp) (cs : List Value) (xs : List α) : Prop :=
  ∃ css : List (List Value), cs = css.flatten ∧ css.length = xs.length ∧ ∀ (i : Nat) c x, css[i]? = some c → xs[i]? = some x → ty.rep R c x
section
variable {α : Type} {ty : Ty α} {R R' : Hp}
theorem Reps.nil (ty : Ty α) (R : Hp) : Reps ty R [] [] := ⟨[], rfl, rfl, fun i c x h => by simp at h⟩
theorem Reps.mono {cs : List Value} {xs : List α} (h : Reps ty R cs xs) (hR : R.le R') : Reps ty R' cs xs := by
  obtain ⟨css, h1, h2, h3⟩ := h
  exact ⟨css, h1, h2, fun i c x hc hx => ty.mono hR (h3 i c x hc hx)⟩
theorem Reps.append {cs ds : List Value} {xs ys : List α} (h : Reps ty R cs xs) (h' : Reps ty R ds ys) : Reps ty R (cs ++ ds) (xs ++ ys) := by
  obtain ⟨css, h1, h2, h3⟩ := h
  obtain ⟨dss, k1, k2, k3⟩ := h'
  refine ⟨css ++ dss, by rw [h1, k1, List.flatten_append], by simp [h2, k2], fun i c x hc hx => ?_⟩
  rw [List.getElem?_append] at hc hx
  by_cases hi : i < css.length
  · rw [if_pos hi] at hc; rw [if_pos (by omega)] at hx; exact h3 i c x hc hx
  · rw [if_neg hi] at hc; rw [if_neg (by omega)] at hx; rw [h2] at hc; exact k3 _ c x hc hx
theorem Reps.one_ {c : List Value} {x : α} (h : ty.rep R c x) : Reps ty R c [x] :=
  ⟨[c], by simp, rfl, fun i c' x' hc hx => by
    cases i with
    | zero => simp at hc hx; subst hc; subst hx; exact h
    | succ i => simp at hc⟩
theorem Reps.cons {c ds : List Value} {x : α} {xs : List α} (h : ty.rep R c x) (h' : Reps ty R ds xs) : Reps ty R (c ++ ds) (x :: xs) := (Reps.one_ h).append h'
theorem flatten_len {css : List (List Value)} {n : Nat} (h : ∀ c ∈ css, c.length = n) : css.flatten.length = css.length * n := by
  induction css with
  | nil => simp
  | cons c r ih =>
    simp only [List.flatten_cons, List.length_append, List.length_cons, h c (by simp), ih (fun d hd => h d (by simp [hd]))]
    rw [Nat.add_mul, Nat.one_mul, Nat.add_comm]
theorem Reps.all {cs : List Value} {xs : List α} (h : Reps ty R cs xs) : ∃ css : List (List Value), cs = css.flatten ∧ css.length = xs.length ∧ (∀ c ∈ css, c.length = ty.n ∧ ∀ u ∈ c, u.oneCell' = true) ∧ ∀ (i : Nat) c x, css[i]? = some c → xs[i]? = some x → ty.rep R c x := by
  obtain ⟨css, h1, h2, h3⟩ := h
  refine ⟨css, h1, h2, fun c hc => ?_, h3⟩
  obtain ⟨i, hi, e⟩ := List.getElem_of_mem hc
  have hx : xs[i]? = some (xs[i]'(by omega)) := List.getElem?_eq_getElem (by omega)
  have := h3 i c _ (by rw [List.getElem?_eq_getElem hi, e]) hx
  exact ⟨ty.len this, ty.one this⟩
theorem Reps.length {cs : List Value} {xs : List α} (h : Reps ty R cs xs) : cs.length = xs.length * ty.n := by
  obtain ⟨css, h1, h2, h3, _⟩ := h.all
  rw [h1, flatten_len (fun c hc => (h3 c hc).1), h2]
theorem Reps.one {cs : List Value} {xs : List α} (h : Reps ty R cs xs) : ∀ u ∈ cs, u.oneCell' = true := by
  obtain ⟨css, h1, h2, h3, _⟩ := h.all
  intro u hu
  rw [h1] at hu
  obtain ⟨c, hc, huc⟩ := List.mem_flatten.1 hu
  exact (h3 c hc).2 u huc
theorem flatten_get {css : List (List Value)} {n : Nat} (h : ∀ c ∈ css, c.length = n) {i j : Nat} {c : List Value} {u : Value} (hc : css[i]? = some c) (hu : c[j]? = some u) : css.flatten[i * n + j]? = some u := by
  induction css generalizing i with
  | nil => simp at hc
  | cons d r ih =>
    have hd : d.length = n := h d (by simp)
    rw [List.flatten_cons]
    cases i with
    | zero =>
      simp at hc; subst hc
      have := (List.getElem?_eq_some_iff.1 hu).1
      rw [Nat.zero_mul, Nat.zero_add, List.getElem?_append_left this]; exact hu
    | succ i =>
      simp only [List.getElem?_cons_succ] at hc
      rw [List.getElem?_append_right (by rw [hd, Nat.add_mul]; omega)]
      have e : (i + 1) * n + j - d.length = i * n + j := by rw [hd, Nat.add_mul]; omega
      rw [e]
      exact ih (fun c hc => h c (by simp [hc])) hc
theorem Reps.get {cs : List Value} {xs : List α} (h : Reps ty R cs xs) {i : Nat} {x : α} (hx : xs[i]? = some x) : ∃ c, ty.rep R c x ∧ ∀ j u, c[j]? = some u → cs[i * ty.n + j]? = some u := by
  obtain ⟨css, h1, h2, h3, h4⟩ := h.all
  have hi := (List.getElem?_eq_some_iff.1 hx).1
  have hc : css[i]? = some (css[i]'(by omega)) := List.getElem?_eq_getElem (by omega)
  exact ⟨_, h4 i _ x hc hx, fun j u hu => by rw [h1]; exact flatten_get (fun c hc => (h3 c hc).1) hc hu⟩
theorem SlR.cells {v : Value} {xs : List α} (h : SlR ty R v xs) : ∃ ad cap cs, v = .slice ad xs.length cap ∧ xs.length ≤ cap ∧ Reps ty R cs xs ∧ (xs ≠ [] → ∃ b o, ad = some ⟨b, o, none⟩ ∧ ∀ j u, cs[j]? = some u → R.cell b (o + j) = some u) := by
  obtain ⟨ad, cap, h1, h2, h3⟩ := h
  by_cases hne : xs = []
  · subst hne
    exact ⟨ad, cap, [], h1, h2, Reps.nil _ _, fun h => absurd rfl h⟩
  obtain ⟨b, o, h4, h5⟩ := h3 hne
  refine ⟨ad, cap, ?_⟩
  have key : ∀ (ys : List α) (k : Nat), (∀ i x, ys[i]? = some x → ∃ cs, ty.rep R cs x ∧ ∀ j u, cs[j]? = some u → R.cell b (k + i * ty.n + j) = some u) → ∃ cs, Reps ty R cs ys ∧ ∀ j u, cs[j]? = some u → R.cell b (k + j) = some u := by
    intro ys
    induction ys with
    | nil => intro k _; exact ⟨[], Reps.nil _ _, fun j u hu => by simp at hu⟩
    | cons y r ih =>
      intro k hk
      obtain ⟨c, hc1, hc2⟩ := hk 0 y rfl
      obtain ⟨ds, hd1, hd2⟩ := ih (k + ty.n) (fun i x hx => by
        obtain ⟨c', h1, h2⟩ := hk (i + 1) x (by simpa using hx)
        refine ⟨c', h1, fun j u hu => ?_⟩
        have := h2 j u hu
        rwa [show k + (i + 1) * ty.n + j = k + ty.n + i * ty.n + j from by rw [Nat.add_mul]; omega] at this)
      have hl := ty.len hc1
      refine ⟨c ++ ds, Reps.cons hc1 hd1, fun j u hu => ?_⟩
      by_cases hj : j < c.length
      · rw [List.getElem?_append_left hj] at hu
        have := hc2 j u hu
        simpa using this
      · rw [List.getElem?_append_right (by omega)] at hu
        have := hd2 _ u hu
        rwa [hl, show k + ty.n + (j - ty.n) = k + j from by omega] at this
  obtain ⟨cs, hcs1, hcs2⟩ := key xs o (fun i x hx => h5 i x hx)
  exact ⟨cs, h1, h2, hcs1, fun _ => ⟨b, o, h4, hcs2⟩⟩
theorem SlR.of_cells {v : Value} {xs : List α} {cs : List Value} {b o cap : Nat} (hv : v = .slice (some ⟨b, o, none⟩) xs.length cap) (hc : xs.length ≤ cap) (h : Reps ty R cs xs) (hcell : ∀ j u, cs[j]? = some u → R.cell b (o + j) = some u) : SlR ty R v xs :=
  ⟨_, cap, hv, hc, fun _ => ⟨b, o, rfl, fun i x hx => by
    obtain ⟨c, h1, h2⟩ := h.get hx
    exact ⟨c, h1, fun j u hu => by rw [Nat.add_assoc]; exact hcell _ u (h2 j u hu)⟩⟩⟩
end
section
variable {α : Type} {ty : Ty α}
variable {P : Program} {ops : Array Oper} {Q : Exit → Act → World → Prop} {C : World → Prop} {QQ : Act → Prop} {a : Act} {w0 w : World} {M : List Own} {R : Hp} {O : List Own} {rest : List Oper} {n : Fr} {L : Sl}
variable {d : Option Tmp} {ty' : TypeId} {pos : String} {af : Array Edge} {g : Option (Nat × Bool)}
theorem r_len_R {x : Operand} {t e : TypeId} {v : Value} {xs : List α} (hu : P.underlying t = some (.slice e)) (hs : SlR ty R v xs) (hK : Kn n a L) (hx : ev L x = some v) : Runs P w a ⟨d, .call { callee := .builtin .len, args := #[x], argTypes := #[t] }, ty', pos, af, g⟩ (.int .i64 (xs.length : Int)) := by
  obtain ⟨ad, cap, h1, _⟩ := hs
  exact r_len_sl hu hK (by rw [hx, h1])
theorem r_indexAddr_R {t e : TypeId} {x y : Operand} {b o m c z : Nat} {k : IntKind} {i : Int} {v : Value} (hu : P.underlying t = some (.slice e)) (hz : ∀ w, (sizeOf e).run P w = .ok z w) (hv : v = .slice (some ⟨b, o, none⟩) m c) (h0 : 0 ≤ i) (h1 : i < (m : Int)) (hK : Kn n a L) (hx : ev L x = some v) (hy : ev L y = some (.int k i)) :
    Runs P w a ⟨d, .indexAddr t x y, ty', pos, af, g⟩ (.pointer (some ⟨b, o + i.toNat * z, none⟩)) := r_indexAddr_sl hu hz hK (by rw [hx, hv]) hy h0 h1
def cut {β : Type} (xs : List β) (l h : Int) : Option (List β) := if 0 ≤ l then (if l ≤ h then (if h ≤ (xs.length : Int) then some ((xs.drop l.toNat).take (h.toNat - l.toNat)) else none) else none) else none
theorem cut_some {β : Type} {xs ys : List β} {l h : Int} (hc : cut xs l h = some ys) : 0 ≤ l ∧ l ≤ h ∧ h ≤ (xs.length : Int) ∧ ys = (xs.drop l.toNat).take (h.toNat - l.toNat) := by
  unfold cut at hc
  split at hc
  · split at hc
    · split at hc
      · exact ⟨by assumption, by assumption, by assumption, (Option.some.inj hc).symm⟩
      · cases hc
    · cases hc
  · cases hc
theorem run_bound {y : Nat} {i : Int} {k : IntKind} {code : BoundsCode} (h0 : 0 ≤ i) (h1 : i ≤ (y : Int)) : (Instr.sliceBound (.int k i) y code).run P w = .ok i.toNat w := by
  simp [Instr.sliceBound, asIntOf, h0, h1]
theorem SlR.slice {xs ys : List α} {ad : Option Addr} {cap l h : Nat} (hs : SlR ty R (.slice ad xs.length cap) xs) (hl : l ≤ h) (hh : h ≤ xs.length) (hy : ys = (xs.drop l).take (h - l)) :
    SlR ty R (.slice (if cap = l then ad else ad.map (·.add (l * ty.n))) (h - l) (cap - l)) ys := by
  obtain ⟨ad', cap', e, hc, h3⟩ := hs
  cases e
  have hlen : ys.length = h - l := by subst hy; simp; omega
  refine ⟨_, cap - l, by rw [hlen], by omega, fun hne => ?_⟩
  have hlt : l < h := by
    have : 0 < ys.length := List.length_pos_iff.2 hne
    omega
  obtain ⟨b, o, h4, h5⟩ := h3 (by intro e; subst e; simp at hh; omega)
  refine ⟨b, o + l * ty.n, by rw [if_neg (by omega), h4]; simp [add_lit], fun i x hx => ?_⟩
  have hx' : xs[l + i]? = some x := by
    subst hy
    rw [List.getElem?_take] at hx
    split at hx
    · simpa using hx
    · cases hx
  obtain ⟨cs, h6, h7⟩ := h5 _ x hx'
  refine ⟨cs, h6, fun j u hu => ?_⟩
  have := h7 j u hu
  rwa [show o + (l + i) * ty.n + j = o + l * ty.n + i * ty.n + j from by rw [Nat.add_mul]; omega] at this
theorem r_slice_R {t e : TypeId} {x : Operand} {lo hi : Option Operand} {v : Value} {xs ys : List α} {l h : Int} (hu : P.underlying t = some (.slice e)) (hz : ∀ w, (sizeOf e).run P w = .ok ty.n w) (hs : SlR ty R v xs) (hc : cut xs l h = some ys) (hK : Kn n a L) (hx : ev L x = some v)
    (hl : match lo with | some y => ∃ k, ev L y = some (.int k l) | none => l = 0) (hh : match hi with | some y => ∃ k, ev L y = some (.int k h) | none => h = (xs.length : Int)) :
    ∃ v', SlR ty R v' ys ∧ ∀ (a : Act) (w : World) (d : Option Tmp) (ty' : TypeId) (pos : String) (af : Array Edge) (g : Option (Nat × Bool)), Kn n a L → Runs P w a ⟨d, .slice t x lo hi none, ty', pos, af, g⟩ v' := by
  obtain ⟨h0, h1, h2, hy⟩ := cut_some hc
  obtain ⟨ad, cap, e1, hcap, h3⟩ := hs
  have hs' : SlR ty R (.slice ad xs.length cap) xs := ⟨ad, cap, rfl, hcap, h3⟩
  subst e1
  refine ⟨_, hs'.slice (l := l.toNat) (h := h.toNat) (by omega) (by omega) hy, fun a w d ty' pos af g hK => ?_⟩
  have elo : ∀ w, (match lo.map a.eval with | some v => Instr.sliceBound v h.toNat (.sliceB) | none => pure 0 : Sem Nat).run P w = .ok l.toNat w := by
    intro w
    cases lo with
    | none => simp only at hl; subst hl; rfl
    | some y => obtain ⟨k, hk⟩ := hl; simp only [Option.map_some, hK.ev hk]; exact run_bound h0 (by omega)
  have ehi : ∀ w, (match hi.map a.eval with | some v => Instr.sliceBound v cap (.sliceAcap) | none => pure xs.length : Sem Nat).run P w = .ok h.toNat w := by
    intro w
    cases hi with
    | none => simp only at hh; subst hh; rfl
    | some y => obtain ⟨k, hk⟩ := hh; simp only [Option.map_some, hK.ev hk]; exact run_bound (by omega) (by omega)
  have hb : ∀ w, (Instr.sliceBounds true xs.length cap (lo.map a.eval) (hi.map a.eval) none).run P w = .ok (l.toNat, h.toNat, cap) w := by
    intro w
    unfold Instr.sliceBounds
    simp only [Sem.run_bind, Sem.run_pure, Result.andThen_ok]
    have ehi' := ehi w
    have elo' := elo w
    cases hi with
    | none =>
      cases lo with
      | none => simp at elo' ehi' ⊢; exact ⟨elo', ehi'⟩
      | some y => simp at elo' ehi' ⊢; simp [ehi', elo']
    | some z =>
      cases lo with
      | none => simp at elo' ehi' ⊢; simp [ehi', elo']
      | some y => simp at elo' ehi' ⊢; simp [ehi', elo']
  simp only [Runs, execOp, hK.ev hx, Instr.sliceAt, Instr.slice, Sem.run_bind, run_underlying hu, Result.andThen_ok, Option.map_none, hb, hz, Sem.run_pure]
end
end Go.Eng
end
section
namespace Go.Eng
set_option linter.unusedVariables false
set_option linter.unusedSimpArgs false
section
variable {P : Program} {ops : Array Oper} {md : Region.Mode} {C : World → Prop} {Q : Exit → Act → World → Prop}
def parOp (P : Program) (ops : Array Oper) (C : World → Prop) (Q : Exit → Act → World → Prop) (i : Nat) (K : Act → World → Prop) (a : Act) (w : World) : Prop :=
  match ops[i]? with
  | none => K a w
  | some o => if Region.wanted o (yielded ops a.tmps) then o.wp P a w (fun a' w' => C w' ∧ K a' w') Q else K (a.put o.dst undef) w
def wpAnyP (P : Program) (md : Region.Mode) (ops : Array Oper) (C : World → Prop) (Q : Exit → Act → World → Prop) : Nat → Array Bool → Act → World → Prop
  | 0, listed, a, w => Region.ready md ops listed = [] ∧ Q .normal a w
  | f + 1, listed, a, w => (Region.ready md ops listed = [] → Q .normal a w) ∧ ∀ i ∈ Region.ready md ops listed, parOp P ops C Q i (wpAnyP P md ops C Q f (listed.setIfInBounds i true)) a w
theorem parOp_mono {i : Nat} {a : Act} {w : World} {K K' : Act → World → Prop} (h : ∀ a w, K a w → K' a w) (hh : parOp P ops C Q i K a w) : parOp P ops C Q i K' a w := by
  unfold parOp at *
  split
  · rename_i ho; simp only [ho] at hh; exact h _ _ hh
  · rename_i o ho
    simp only [ho] at hh
    split
    · rename_i hw; simp only [hw, if_true] at hh; exact Oper.wp_mono (fun a w ⟨h1, h2⟩ => ⟨h1, h _ _ h2⟩) hh
    · rename_i hw; simp only [hw] at hh; exact h _ _ hh
theorem wpOp_of_parOp {i : Nat} {a : Act} {w : World} {K K' : Act → World → Prop} (h : ∀ a w, K a w → K' a w) (hh : parOp P ops C Q i K a w) : wpOp P ops Q i K' a w := by
  unfold parOp at hh
  unfold wpOp
  split
  · rename_i ho; simp only [ho] at hh; exact h _ _ hh
  · rename_i o ho
    simp only [ho] at hh
    split
    · rename_i hw; simp only [hw, if_true] at hh; exact .inl (Oper.wp_mono (fun a w ⟨_, h2⟩ => h _ _ h2) hh)
    · rename_i hw; simp only [hw] at hh; exact h _ _ hh
theorem wpAny_of_par : ∀ (f : Nat) (listed : Array Bool) (a : Act) (w : World), wpAnyP P md ops C Q f listed a w → wpAny P md ops Q f listed a w
  | 0, _, _, _, h => h
  | f + 1, _, _, _, h => ⟨h.1, fun i hi => wpOp_of_parOp (fun a w h => wpAny_of_par f _ a w h) (h.2 i hi)⟩
def YieldsC (P : Program) (ops : Array Oper) (C : World → Prop) (o : Oper) (v : Value) (a : Act) : Prop :=
  (Region.wanted o (yielded ops a.tmps) = true ∧ ∀ w, C w → (execOp a.eval o).run P w = .ok (.value v) w) ∨ (Region.wanted o (yielded ops a.tmps) = false ∧ v = undef)
theorem YieldsC.parOp {i : Nat} {o : Oper} {v : Value} {a : Act} {w : World} (hi : ops[i]? = some o) (hy : YieldsC P ops C o v a) (hC : C w) {K : Act → World → Prop} (h : K (a.put o.dst v) w) : parOp P ops C Q i K a w := by
  unfold Eng.parOp
  simp only [hi]
  rcases hy with ⟨hw, hv⟩ | ⟨hw, rfl⟩
  · simp only [hw, if_true, Oper.wp, hv w hC, Oper.upon]; exact ⟨hC, h⟩
  · simp only [hw, Bool.false_eq_true, if_false]; exact h
theorem YieldsC.of_same {o : Oper} {v : Value} {a a' : Act} (hy : YieldsC P ops C o v a) (he : execOp a'.eval o = execOp a.eval o) (hw : Region.wanted o (yielded ops a'.tmps) = Region.wanted o (yielded ops a.tmps)) : YieldsC P ops C o v a' := by
  unfold YieldsC at *
  rw [he, hw]
  exact hy
theorem parOp_put {j : Nat} {oi oj : Oper} {v : Value} (hj : ops[j]? = some oj) (hap : oi.apart ops oj = true) (hsi : ∀ cs b, oi.op ≠ .select cs b) (hsj : ∀ cs b, oj.op ≠ .select cs b)
    (hQ : ∀ c a w, Q (.panic c) (a.put oi.dst v) w → Q (.panic c) a w) {K : Act → World → Prop} {a : Act} {w : World} (hC : C w)
    (hy : YieldsC P ops C oi v a) (h : parOp P ops C Q j K (a.put oi.dst v) w) : parOp P ops C Q j (fun a' w' => C w' ∧ YieldsC P ops C oi v a' ∧ K (a'.put oi.dst v) w') a w := by
  obtain ⟨h1, h2, h3⟩ := Oper.apart_spec hap
  have keep : ∀ (a : Act), YieldsC P ops C oi v a → ∀ u, YieldsC P ops C oi v (a.put oj.dst u) := fun a hy u => hy.of_same (execOp_put oi hsi a oj.dst u h3) (wanted_put oi a oj.dst u h3)
  have keepD : ∀ d, YieldsC P ops C oi v { a with defers := d :: a.defers } := fun d => hy.of_same rfl rfl
  unfold parOp at *
  simp only [hj] at *
  rw [wanted_put oj a oi.dst v h1] at h
  split
  · rename_i hw
    simp only [hw, if_true] at h
    unfold Oper.wp at *
    rw [execOp_put oj hsj a oi.dst v h1] at h
    generalize (execOp a.eval oj).run P w = r at *
    cases r with
    | ok n w' =>
      cases n <;> simp only [Oper.upon] at h ⊢
      case value u => exact ⟨h.1, h.1, keep a hy u, by rw [← Act.put_comm a v u h2]; exact h.2⟩
      case skip => exact ⟨h.1, h.1, keep a hy _, by rw [← Act.put_comm a v undef h2]; exact h.2⟩
      case defer d =>
        refine ⟨h.1, h.1, keep _ (keepD d) _, ?_⟩
        rw [← Act.put_comm _ v undef h2, ← Act.put_defers]
        exact h.2
      case enter f args =>
        refine Calls.mono h fun e w'' he => ?_
        cases e with
        | returned u => exact ⟨he.1, he.1, keep a hy u, by rw [← Act.put_comm a v u h2]; exact he.2⟩
        | panicked c => exact hQ _ _ _ he
        | outgrown => exact he
      case row row args => exact Rows.mono h fun u w'' he => ⟨he.1, he.1, keep a hy u, by rw [← Act.put_comm a v u h2]; exact he.2⟩
    | halt x w' =>
      cases x <;> simp only [Oper.upon] at h ⊢
      case panic u => exact hQ _ _ _ h
  · rename_i hw
    simp only [hw] at h
    exact ⟨hC, keep a hy _, by rw [← Act.put_comm a v undef h2]; exact h⟩
theorem wpAnyP_first {i : Nat} {oi : Oper} {v : Value} (hi : ops[i]? = some oi) (hsel : ∀ (j : Nat) (o : Oper) cs b, ops[j]? = some o → o.op ≠ .select cs b)
    (hQ : ∀ c a w, Q (.panic c) (a.put oi.dst v) w → Q (.panic c) a w) : ∀ (f : Nat) (listed : Array Bool) (a : Act) (w : World), C w →
      (∀ j oj, ops[j]? = some oj → j ≠ i → listed.getD j true = false → (∀ e ∈ oj.after, Region.binds md e = true → e.on ≠ i) → oi.apart ops oj = true) →
      i ∈ Region.ready md ops listed → YieldsC P ops C oi v a → wpAnyP P md ops C Q f (listed.setIfInBounds i true) (a.put oi.dst v) w → wpAnyP P md ops C Q (f + 1) listed a w := by
  intro f
  induction f with
  | zero =>
    intro listed a w hC _ hr hy H
    refine ⟨fun h => (by rw [h] at hr; cases hr), fun j hj => ?_⟩
    by_cases hji : j = i
    · subst hji; exact hy.parOp hi hC H
    · have := ready_mono hj hji
      rw [H.1] at this
      cases this
  | succ f ih =>
    intro listed a w hC hfree hr hy H
    refine ⟨fun h => (by rw [h] at hr; cases hr), fun j hj => ?_⟩
    by_cases hji : j = i
    · subst hji; exact hy.parOp hi hC H
    · have h1 := H.2 j (ready_mono hj hji)
      obtain ⟨hjun, oj, hoj, hall⟩ := mem_ready.1 hj
      have hnot : ∀ e ∈ oj.after, Region.binds md e = true → e.on ≠ i := fun e he hb heq => by
        have h1 := hall e he hb
        rw [heq, getD_both (mem_ready.1 hr).1] at h1
        cases h1
      have h2 := parOp_put hoj (hfree j oj hoj hji hjun hnot) (fun cs b => hsel i oi cs b hi) (fun cs b => hsel j oj cs b hoj) hQ hC hy h1
      have hfree' : ∀ k ok, ops[k]? = some ok → k ≠ i → (listed.setIfInBounds j true).getD k true = false → (∀ e ∈ ok.after, Region.binds md e = true → e.on ≠ i) → oi.apart ops ok = true := fun k ok hk hki hun hno => by
        refine hfree k ok hk hki ?_ hno
        by_cases hjk : j = k
        · subst hjk; exact hjun
        · rw [getD_set_ne true hjk] at hun; exact hun
      refine parOp_mono (fun a' w' h3 => ih (listed.setIfInBounds j true) a' w' h3.1 hfree' (ready_mono hr (Ne.symm hji)) h3.2.1 ?_) h2
      rw [Array.setIfInBounds_comm _ _ hji]
      exact h3.2.2
def parB (md : Region.Mode) (ops : Array Oper) : List (Nat × Bool) → Array Bool → Bool
  | [], listed => (Region.ready md ops listed).isEmpty
  | (k, true) :: r, listed => (Region.ready md ops listed).contains k && Region.free md ops listed k && parB md ops r (listed.setIfInBounds k true)
  | (k, false) :: r, listed => decide (Region.ready md ops listed = [k]) && parB md ops r (listed.setIfInBounds k true)
def wpPar (P : Program) (ops : Array Oper) (C : World → Prop) (Q : Exit → Act → World → Prop) : List (Nat × Bool) → Act → World → Prop
  | [], a, w => Q .normal a w
  | (k, true) :: r, a, w => match ops[k]? with
    | none => False
    | some o => ∃ v, YieldsC P ops C o v a ∧ wpPar P ops C Q r (a.put o.dst v) w
  | (k, false) :: r, a, w => parOp P ops C Q k (fun a' w' => wpPar P ops C Q r a' w') a w
theorem wpAnyP_par (hs : Region.noSelect ops = true) (hQ : ∀ (o : Oper), o ∈ ops → ∀ v c a w, Q (.panic c) (a.put o.dst v) w → Q (.panic c) a w) : ∀ (ord : List (Nat × Bool)) (listed : Array Bool) (a : Act) (w : World), C w →
    parB md ops ord listed = true → wpPar P ops C Q ord a w → wpAnyP P md ops C Q ord.length listed a w
  | [], _, _, _, _, hB, h => ⟨by simpa [parB] using hB, h⟩
  | (k, true) :: r, listed, a, w, hC, hB, h => by
    simp only [parB, Bool.and_eq_true] at hB
    obtain ⟨⟨hr, hf⟩, hB'⟩ := hB
    simp only [wpPar] at h
    cases h0 : ops[k]? with
    | none => simp only [h0] at h
    | some o =>
      simp only [h0] at h
      obtain ⟨v, hy, hK⟩ := h
      exact wpAnyP_first h0 (Region.noSelect_spec hs) (hQ o (Array.mem_of_getElem? h0) v) r.length listed a w hC (Region.free_spec h0 hf) (by simpa using hr) hy (wpAnyP_par hs hQ r _ _ _ hC hB' hK)
  | (k, false) :: r, listed, a, w, hC, hB, h => by
    simp only [parB, Bool.and_eq_true, decide_eq_true_eq] at hB
    refine ⟨fun h1 => (by rw [hB.1] at h1; cases h1), fun i hi => ?_⟩
    rw [hB.1] at hi
    have hik : i = k := by simpa using hi
    subst hik
    have h' : parOp P ops C Q i (fun a' w' => wpPar P ops C Q r a' w') a w := h
    unfold parOp at h' ⊢
    split
    · rename_i ho; simp only [ho] at h'; exact wpAnyP_par hs hQ r _ _ _ hC hB.2 h'
    · rename_i o ho
      simp only [ho] at h'
      split
      · rename_i hw; simp only [hw, if_true] at h'; exact Oper.wp_mono (fun a w ⟨h1, h2⟩ => ⟨h1, wpAnyP_par hs hQ r _ _ _ h1 hB.2 h2⟩) h'
      · rename_i hw; simp only [hw] at h'; exact wpAnyP_par hs hQ r _ _ _ hC hB.2 h'
theorem wp_region_par {id : Nat} {a : Act} {w : World} (ord : List (Nat × Bool)) (hm : P.follows .mixedOrders = true) (hB : (Region.noSelect ops && (ord.length == ops.size) && parB .any ops ord (Array.replicate ops.size false)) = true)
    (hQ : ∀ (o : Oper), o ∈ ops → ∀ v c a w, Q (.panic c) (a.put o.dst v) w → Q (.panic c) a w) (hC : C { w with drawn := w.drawn + 1 }) (h : wpPar P ops C Q ord a { w with drawn := w.drawn + 1 }) : (Code.region id ops true).wp P Q a w := by
  simp only [Bool.and_eq_true, beq_iff_eq] at hB
  refine wp_region_any hm (wpAny_of_par (C := C) _ _ _ _ ?_)
  rw [← hB.1.2]
  exact wpAnyP_par hB.1.1 hQ ord _ _ _ hC (by rw [hB.1.2]; exact hB.2) h
def NoP (Q : Exit → Act → World → Prop) : Exit → Act → World → Prop := fun e a w => match e with | .panic _ => False | e => Q e a w
theorem wp_region_parN {id : Nat} {a : Act} {w : World} (ord : List (Nat × Bool)) (hm : P.follows .mixedOrders = true) (hB : (Region.noSelect ops && (ord.length == ops.size) && parB .any ops ord (Array.replicate ops.size false)) = true)
    (hC : C { w with drawn := w.drawn + 1 }) (h : wpPar P ops C (NoP Q) ord a { w with drawn := w.drawn + 1 }) : (Code.region id ops true).wp P Q a w :=
  wp_mono (wp_region_par (C := C) ord hm hB (fun _ _ _ _ _ _ h => h.elim) hC h) fun e a w h => by
    cases e <;> first | exact h | exact h.elim
def wpAnyT (P : Program) (md : Region.Mode) (ops : Array Oper) (C : World → Prop) (Q : Exit → Act → World → Prop) (n : Nat) (L : Array Bool → Act → World → Prop) : Nat → Array Bool → Act → World → Prop
  | 0, listed, a, w => L listed a w
  | f + 1, listed, a, w => Region.ready md ops listed ≠ [] ∧ ∀ i ∈ Region.ready md ops listed, i < n ∧ parOp P ops C Q i (wpAnyT P md ops C Q n L f (listed.setIfInBounds i true)) a w
theorem wpAny_of_headT {n g : Nat} {L : Array Bool → Act → World → Prop} (hL : ∀ listed a w, L listed a w → wpAny P md ops Q g listed a w) :
    ∀ (f : Nat) (listed : Array Bool) (a : Act) (w : World), wpAnyT P md ops C Q n L f listed a w → wpAny P md ops Q (f + g) listed a w
  | 0, listed, a, w, h => by rw [Nat.zero_add]; exact hL _ _ _ h
  | f + 1, listed, a, w, h => by
    rw [show f + 1 + g = (f + g) + 1 by omega]
    exact ⟨fun h0 => absurd h0 h.1, fun i hi => wpOp_of_parOp (fun a' w' h' => wpAny_of_headT hL f _ a' w' h') (h.2 i hi).2⟩
theorem wpAnyT_first {n i : Nat} {oi : Oper} {v : Value} {L : Array Bool → Act → World → Prop} (hi : ops[i]? = some oi) (hsel : ∀ (j : Nat) (o : Oper) cs b, ops[j]? = some o → o.op ≠ .select cs b)
    (hQ : ∀ c a w, Q (.panic c) (a.put oi.dst v) w → Q (.panic c) a w) (hs : Region.sinkB md ops n = true) (hc : Region.chainB md ops n = true) (hn : n < ops.size) (hin : i < n)
    (hdone : ∀ listed a w, L listed a w → ∀ j ∈ Region.ready md ops listed, n ≤ j) :
    ∀ (f : Nat) (listed : Array Bool) (a : Act) (w : World), C w → HeadInv md ops n listed →
      (∀ j oj, ops[j]? = some oj → j ≠ i → listed.getD j true = false → (∀ e ∈ oj.after, Region.binds md e = true → e.on ≠ i) → oi.apart ops oj = true) →
      i ∈ Region.ready md ops listed → YieldsC P ops C oi v a → wpAnyT P md ops C Q n L f (listed.setIfInBounds i true) (a.put oi.dst v) w → wpAnyT P md ops C Q n L (f + 1) listed a w := by
  intro f
  induction f with
  | zero =>
    intro listed a w hC inv _ hr hy H
    have hun := (mem_ready.1 hr).1
    refine ⟨fun h => (by rw [h] at hr; cases hr), fun j hj => ?_⟩
    have hjn : j < n := by
      rcases Nat.lt_or_ge j n with h | h
      · exact h
      · exact absurd hj (tail_waits hs hc hn inv _ i rfl hin hun j h)
    refine ⟨hjn, ?_⟩
    by_cases hji : j = i
    · subst hji; exact hy.parOp hi hC H
    · have := hdone _ _ _ H j (ready_mono hj hji)
      omega
  | succ f ih =>
    intro listed a w hC inv hfree hr hy H
    have hun := (mem_ready.1 hr).1
    refine ⟨fun h => (by rw [h] at hr; cases hr), fun j hj => ?_⟩
    have hjn : j < n := by
      rcases Nat.lt_or_ge j n with h | h
      · exact h
      · exact absurd hj (tail_waits hs hc hn inv _ i rfl hin hun j h)
    refine ⟨hjn, ?_⟩
    by_cases hji : j = i
    · subst hji; exact hy.parOp hi hC H
    · have h1 := (H.2 j (ready_mono hj hji)).2
      obtain ⟨hjun, oj, hoj, hall⟩ := mem_ready.1 hj
      have hnot : ∀ e ∈ oj.after, Region.binds md e = true → e.on ≠ i := fun e he hb heq => by
        have h1 := hall e he hb
        rw [heq, getD_both hun] at h1
        cases h1
      have h2 := parOp_put hoj (hfree j oj hoj hji hjun hnot) (fun cs b => hsel i oi cs b hi) (fun cs b => hsel j oj cs b hoj) hQ hC hy h1
      have hfree' : ∀ k ok, ops[k]? = some ok → k ≠ i → (listed.setIfInBounds j true).getD k true = false → (∀ e ∈ ok.after, Region.binds md e = true → e.on ≠ i) → oi.apart ops ok = true := fun k ok hk hki hun hno => by
        refine hfree k ok hk hki ?_ hno
        by_cases hjk : j = k
        · subst hjk; exact hjun
        · rw [getD_set_ne true hjk] at hun; exact hun
      refine parOp_mono (fun a' w' h3 => ih (listed.setIfInBounds j true) a' w' h3.1 (inv.set hj hjn) hfree' (ready_mono hr (Ne.symm hji)) h3.2.1 ?_) h2
      rw [Array.setIfInBounds_comm _ _ hji]
      exact h3.2.2
def parTB (md : Region.Mode) (ops : Array Oper) (n g : Nat) : List (Nat × Bool) → Array Bool → Bool
  | [], listed => Region.seqB md ops g n listed
  | (k, true) :: r, listed => decide (k < n) && (Region.ready md ops listed).contains k && Region.free md ops listed k && parTB md ops n g r (listed.setIfInBounds k true)
  | (k, false) :: r, listed => decide (k < n) && decide (Region.ready md ops listed = [k]) && parTB md ops n g r (listed.setIfInBounds k true)
theorem wpAnyT_par {n g : Nat} {Lq : Act → World → Prop} (hsel : Region.noSelect ops = true) (hs : Region.sinkB md ops n = true) (hc : Region.chainB md ops n = true) (hn : n < ops.size)
    (hQ : ∀ (o : Oper), o ∈ ops → ∀ v c a w, Q (.panic c) (a.put o.dst v) w → Q (.panic c) a w) : ∀ (ord : List (Nat × Bool)) (listed : Array Bool) (a : Act) (w : World), C w → HeadInv md ops n listed →
    parTB md ops n g ord listed = true → wpPar P ops C (fun e a w => match e with | .normal => Lq a w | e => Q e a w) ord a w → wpAnyT P md ops C Q n (fun listed' a' w' => Region.seqB md ops g n listed' = true ∧ Lq a' w') ord.length listed a w
  | [], _, _, _, _, _, hB, h => ⟨by simpa [parTB] using hB, h⟩
  | (k, true) :: r, listed, a, w, hC, inv, hB, h => by
    simp only [parTB, Bool.and_eq_true, decide_eq_true_eq] at hB
    obtain ⟨⟨⟨hkn, hr⟩, hf⟩, hB'⟩ := hB
    have hr' : k ∈ Region.ready md ops listed := by simpa using hr
    simp only [wpPar] at h
    cases h0 : ops[k]? with
    | none => simp only [h0] at h
    | some o =>
      simp only [h0] at h
      obtain ⟨v, hy, hK⟩ := h
      exact wpAnyT_first h0 (Region.noSelect_spec hsel) (hQ o (Array.mem_of_getElem? h0) v) hs hc hn hkn (fun listed' a' w' hL => seqB_ready hL.1) r.length listed a w hC inv (Region.free_spec h0 hf) hr' hy
        (wpAnyT_par hsel hs hc hn hQ r _ _ _ hC (inv.set hr' hkn) hB' hK)
  | (k, false) :: r, listed, a, w, hC, inv, hB, h => by
    simp only [parTB, Bool.and_eq_true, decide_eq_true_eq] at hB
    have hr' : k ∈ Region.ready md ops listed := by rw [hB.1.2]; simp
    refine ⟨fun h1 => (by rw [hB.1.2] at h1; cases h1), fun i hi => ?_⟩
    rw [hB.1.2] at hi
    have hik : i = k := by simpa using hi
    subst hik
    refine ⟨hB.1.1, ?_⟩
    have h' := h
    simp only [wpPar] at h'
    have inv' := inv.set hr' hB.1.1
    unfold parOp at h' ⊢
    cases ho : ops[i]? with
    | none => simp only [ho] at h' ⊢; exact wpAnyT_par hsel hs hc hn hQ r _ _ _ hC inv' hB.2 h'
    | some o =>
      simp only [ho] at h' ⊢
      split
      · rename_i hw
        simp only [hw, if_true] at h'
        unfold Oper.wp at *
        generalize (execOp a.eval o).run P w = x at *
        have fin : ∀ a w, (C w ∧ wpPar P ops C (fun e a w => match e with | .normal => Lq a w | e => Q e a w) r a w) → C w ∧ wpAnyT P md ops C Q n (fun listed' a' w' => Region.seqB md ops g n listed' = true ∧ Lq a' w') r.length (listed.setIfInBounds i true) a w := fun a w ⟨h1, h2⟩ => ⟨h1, wpAnyT_par hsel hs hc hn hQ r _ _ _ h1 inv' hB.2 h2⟩
        cases x with
        | ok m w' =>
          cases m <;> simp only [Oper.upon] at h' ⊢
          case enter f args =>
            refine Calls.mono h' fun e w'' he => ?_
            cases e with
            | returned u => exact fin _ _ he
            | panicked c => exact he
            | outgrown => exact he
          case row row args => exact Rows.mono h' fun u w'' he => fin _ _ he
          all_goals exact fin _ _ h'
        | halt x w' => cases x <;> simp only [Oper.upon] at h' ⊢ <;> exact h'
      · rename_i hw
        simp only [hw] at h'
        exact wpAnyT_par hsel hs hc hn hQ r _ _ _ hC inv' hB.2 h'
theorem wp_region_parT {id : Nat} {a : Act} {w : World} {l : List Oper} (n : Nat) (ord : List (Nat × Bool)) (hm : P.follows .mixedOrders = true)
    (hB : (Region.noSelect l.toArray && decide (n < l.toArray.size) && (ord.length == n) && Region.sinkB .any l.toArray n && Region.chainB .any l.toArray n && parTB .any l.toArray n (l.toArray.size - n) ord (Array.replicate l.toArray.size false)) = true)
    (hQ : ∀ (o : Oper), o ∈ l.toArray → ∀ v c a w, Q (.panic c) (a.put o.dst v) w → Q (.panic c) a w) (hC : C { w with drawn := w.drawn + 1 })
    (h : wpPar P l.toArray C (fun e a w => match e with | .normal => wpList P l.toArray Q (l.drop n) a w | e => Q e a w) ord a { w with drawn := w.drawn + 1 }) : (Code.region id l.toArray true).wp P Q a w := by
  simp only [Bool.and_eq_true, decide_eq_true_eq, beq_iff_eq] at hB
  obtain ⟨⟨⟨⟨⟨hsel, hn⟩, hl⟩, hs⟩, hc⟩, hlex⟩ := hB
  have hdl : (l.drop n).length = l.toArray.size - n := by simp
  have inv0 : HeadInv .any l.toArray n (Array.replicate l.toArray.size false) :=
    ⟨by simp, fun j oj _ hl => (by rw [getD_replicate_false] at hl; cases hl), fun t _ ht => getD_in (by simpa using ht) (getD_replicate_false _ _)⟩
  have H := wpAnyT_par (md := .any) (g := l.toArray.size - n) hsel hs hc hn hQ ord _ a _ hC inv0 hlex h
  refine wp_region_any hm ?_
  have := wpAny_of_headT (Q := Q) (g := l.toArray.size - n) (fun listed a' w' hL => by
    have := wpAny_of_seq (md := .any) (Q' := Q) (l.drop n) n listed a' w' (fun j => by simp [List.getElem?_drop]) (by rw [hdl]; exact hL.1) hL.2
    rwa [hdl] at this) _ _ _ _ H
  rw [hl, show n + (l.toArray.size - n) = l.toArray.size by omega] at this
  exact this
def thenL (P : Program) (l : List Oper) (n : Nat) (Q : Exit → Act → World → Prop) : Exit → Act → World → Prop := fun e a w => match e with | .normal => wpList P l.toArray Q (l.drop n) a w | e => Q e a w
theorem wp_region_parTN {id : Nat} {a : Act} {w : World} {l : List Oper} (n : Nat) (ord : List (Nat × Bool)) (hm : P.follows .mixedOrders = true)
    (hB : (Region.noSelect l.toArray && decide (n < l.toArray.size) && (ord.length == n) && Region.sinkB .any l.toArray n && Region.chainB .any l.toArray n && parTB .any l.toArray n (l.toArray.size - n) ord (Array.replicate l.toArray.size false)) = true)
    (hC : C { w with drawn := w.drawn + 1 }) (h : wpPar P l.toArray C (thenL P l n (NoP Q)) ord a { w with drawn := w.drawn + 1 }) : (Code.region id l.toArray true).wp P Q a w :=
  wp_mono (wp_region_parT (C := C) n ord hm hB (fun _ _ _ _ _ _ h => h.elim) hC h) fun e a w h => by
    cases e <;> first | exact h | exact h.elim
inductive PT where
  | list (l : List (Nat × Bool))
  | br (l : List (Nat × Bool)) (i : Nat) (ti : PT) (j : Nat) (tj : PT)
  | br3 (l : List (Nat × Bool)) (i : Nat) (ti : PT) (j : Nat) (tj : PT) (k : Nat) (tk : PT)
def PT.len : PT → Nat
  | .list l => l.length
  | .br l _ ti _ _ => l.length + (ti.len + 1)
  | .br3 l _ ti _ _ _ _ => l.length + (ti.len + 1)
def thenT (K : Act → World → Prop) (Q : Exit → Act → World → Prop) : Exit → Act → World → Prop := fun e a w => match e with | .normal => K a w | e => Q e a w
def wpTree (P : Program) (ops : Array Oper) (C : World → Prop) (E : Exit → Act → World → Prop) : PT → Act → World → Prop
  | .list l, a, w => wpPar P ops C E l a w
  | .br l i ti j tj, a, w => wpPar P ops C (thenT (fun a w => parOp P ops C E i (wpTree P ops C E ti) a w ∧ parOp P ops C E j (wpTree P ops C E tj) a w) E) l a w
  | .br3 l i ti j tj k tk, a, w => wpPar P ops C (thenT (fun a w => parOp P ops C E i (wpTree P ops C E ti) a w ∧ parOp P ops C E j (wpTree P ops C E tj) a w ∧ parOp P ops C E k (wpTree P ops C E tk) a w) E) l a w
theorem parOp_thenT {K : Act → World → Prop} {i : Nat} {K1 K2 : Act → World → Prop} {a : Act} {w : World} (h : parOp P ops C (thenT K Q) i K1 a w) (hK : ∀ a w, C w → K1 a w → K2 a w) (h0 : ops[i]? = none → K1 a w → K2 a w) (h1 : K1 (a.put ((ops[i]?).bind (·.dst)) undef) w → K2 (a.put ((ops[i]?).bind (·.dst)) undef) w) : parOp P ops C Q i K2 a w := by
  unfold parOp at h ⊢
  cases ho : ops[i]? with
  | none => simp only [ho] at h ⊢; exact h0 ho h
  | some o =>
    simp only [ho, Option.bind_some] at h h1 ⊢
    split
    · rename_i hw
      simp only [hw, if_true] at h
      unfold Oper.wp at *
      generalize (execOp a.eval o).run P w = x at *
      have fin : ∀ a w, (C w ∧ K1 a w) → C w ∧ K2 a w := fun a w ⟨h1, h2⟩ => ⟨h1, hK _ _ h1 h2⟩
      cases x with
      | ok m w' =>
        cases m <;> simp only [Oper.upon] at h ⊢
        case enter f args =>
          refine Calls.mono h fun e w'' he => ?_
          cases e with
          | returned u => exact fin _ _ he
          | panicked c => exact he
          | outgrown => exact he
        case row row args => exact Rows.mono h fun u w'' he => fin _ _ he
        all_goals exact fin _ _ h
      | halt x w' => cases x <;> simp only [Oper.upon] at h ⊢ <;> exact h
    · rename_i hw
      simp only [hw] at h
      exact h1 h
def parTE (md : Region.Mode) (ops : Array Oper) (n : Nat) (E : Array Bool → Bool) : List (Nat × Bool) → Array Bool → Bool
  | [], listed => E listed
  | (k, true) :: r, listed => Nat.blt k n && (Region.ready md ops listed).contains k && Region.free md ops listed k && parTE md ops n E r (listed.setIfInBounds k true)
  | (k, false) :: r, listed => Nat.blt k n && decide (Region.ready md ops listed = [k]) && parTE md ops n E r (listed.setIfInBounds k true)
def treeTB (md : Region.Mode) (ops : Array Oper) (n g : Nat) : PT → Array Bool → Bool
  | .list l, listed => parTE md ops n (Region.seqB md ops g n) l listed
  | .br l i ti j tj, listed => parTE md ops n (fun listed => decide (Region.ready md ops listed = [i, j]) && Nat.blt i n && Nat.blt j n && Nat.beq ti.len tj.len && treeTB md ops n g ti (listed.setIfInBounds i true) && treeTB md ops n g tj (listed.setIfInBounds j true)) l listed
  | .br3 l i ti j tj k tk, listed => parTE md ops n (fun listed => decide (Region.ready md ops listed = [i, j, k]) && Nat.blt i n && Nat.blt j n && Nat.blt k n && Nat.beq ti.len tj.len && Nat.beq ti.len tk.len && treeTB md ops n g ti (listed.setIfInBounds i true) && treeTB md ops n g tj (listed.setIfInBounds j true) && treeTB md ops n g tk (listed.setIfInBounds k true)) l listed
section
variable {n : Nat} {LL : Array Bool → Act → World → Prop}
theorem wpAnyT_parE {K : Act → World → Prop} {E : Array Bool → Bool} {f : Nat} (hsel : Region.noSelect ops = true) (hs : Region.sinkB md ops n = true) (hc : Region.chainB md ops n = true) (hn : n < ops.size)
    (hQ : ∀ (o : Oper), o ∈ ops → ∀ v c a w, Q (.panic c) (a.put o.dst v) w → Q (.panic c) a w) (hdone : ∀ listed a w, LL listed a w → ∀ j ∈ Region.ready md ops listed, n ≤ j)
    (hE : ∀ listed a w, C w → HeadInv md ops n listed → E listed = true → K a w → wpAnyT P md ops C Q n LL f listed a w) : ∀ (ord : List (Nat × Bool)) (listed : Array Bool) (a : Act) (w : World), C w → HeadInv md ops n listed →
    parTE md ops n E ord listed = true → wpPar P ops C (thenT K Q) ord a w → wpAnyT P md ops C Q n LL (ord.length + f) listed a w
  | [], _, _, _, hC, inv, hB, h => by simpa using hE _ _ _ hC inv hB h
  | (k, true) :: r, listed, a, w, hC, inv, hB, h => by
    simp only [parTE, Bool.and_eq_true] at hB
    obtain ⟨⟨⟨hkn, hr⟩, hf⟩, hB'⟩ := hB
    have hkn : k < n := by simpa [Nat.blt_eq] using hkn
    have hr' : k ∈ Region.ready md ops listed := by simpa using hr
    simp only [wpPar] at h
    cases h0 : ops[k]? with
    | none => simp only [h0] at h
    | some o =>
      simp only [h0] at h
      obtain ⟨v, hy, hK⟩ := h
      rw [show ((k, true) :: r).length + f = (r.length + f) + 1 from by simp only [List.length_cons]; omega]
      exact wpAnyT_first h0 (Region.noSelect_spec hsel) (hQ o (Array.mem_of_getElem? h0) v) hs hc hn hkn hdone (r.length + f) listed a w hC inv (Region.free_spec h0 hf) hr' hy
        (wpAnyT_parE hsel hs hc hn hQ hdone hE r _ _ _ hC (inv.set hr' hkn) hB' hK)
  | (k, false) :: r, listed, a, w, hC, inv, hB, h => by
    simp only [parTE, Bool.and_eq_true, decide_eq_true_eq] at hB
    have hkn : k < n := by simpa [Nat.blt_eq] using hB.1.1
    have hr' : k ∈ Region.ready md ops listed := by rw [hB.1.2]; simp
    rw [show ((k, false) :: r).length + f = (r.length + f) + 1 from by simp only [List.length_cons]; omega]
    refine ⟨fun h1 => (by rw [hB.1.2] at h1; cases h1), fun i hi => ?_⟩
    rw [hB.1.2] at hi
    have hik : i = k := by simpa using hi
    subst hik
    refine ⟨hkn, ?_⟩
    have inv' := inv.set hr' hkn
    have h' : parOp P ops C (thenT K Q) i (fun a' w' => wpPar P ops C (thenT K Q) r a' w') a w := h
    exact parOp_thenT h' (fun a w h1 h2 => wpAnyT_parE hsel hs hc hn hQ hdone hE r _ a w h1 inv' hB.2 h2) (fun _ h2 => wpAnyT_parE hsel hs hc hn hQ hdone hE r _ _ _ hC inv' hB.2 h2) (fun h2 => wpAnyT_parE hsel hs hc hn hQ hdone hE r _ _ _ hC inv' hB.2 h2)
theorem wpAnyT_tree {g : Nat} (hsel : Region.noSelect ops = true) (hs : Region.sinkB md ops n = true) (hc : Region.chainB md ops n = true) (hn : n < ops.size)
    (hQ : ∀ (o : Oper), o ∈ ops → ∀ v c a w, Q (.panic c) (a.put o.dst v) w → Q (.panic c) a w) {Lq : Act → World → Prop} : ∀ (t : PT) (listed : Array Bool) (a : Act) (w : World), C w → HeadInv md ops n listed →
    treeTB md ops n g t listed = true → wpTree P ops C (thenT Lq Q) t a w → wpAnyT P md ops C Q n (fun listed' a' w' => Region.seqB md ops g n listed' = true ∧ Lq a' w') t.len listed a w
  | .list l, listed, a, w, hC, inv, hB, h => wpAnyT_parE (LL := fun listed' a' w' => Region.seqB md ops g n listed' = true ∧ Lq a' w') (f := 0) (E := Region.seqB md ops g n) (K := Lq) hsel hs hc hn hQ (fun _ _ _ hL => seqB_ready hL.1) (fun listed a w _ _ hE hK => ⟨hE, hK⟩) l listed a w hC inv hB h
  | .br l i ti j tj, listed, a, w, hC, inv, hB, h => by
    have e : thenT (fun a w => parOp P ops C (thenT Lq Q) i (wpTree P ops C (thenT Lq Q) ti) a w ∧ parOp P ops C (thenT Lq Q) j (wpTree P ops C (thenT Lq Q) tj) a w) (thenT Lq Q) = thenT (fun a w => parOp P ops C (thenT Lq Q) i (wpTree P ops C (thenT Lq Q) ti) a w ∧ parOp P ops C (thenT Lq Q) j (wpTree P ops C (thenT Lq Q) tj) a w) Q := by
      funext e a w; cases e <;> rfl
    simp only [wpTree] at h
    rw [e] at h
    refine wpAnyT_parE (f := ti.len + 1) hsel hs hc hn hQ (fun _ _ _ hL => seqB_ready hL.1) (fun listed a w hC inv hE hK => ?_) l listed a w hC inv hB h
    simp only [Bool.and_eq_true, decide_eq_true_eq] at hE
    obtain ⟨⟨⟨⟨⟨hr, hi⟩, hj⟩, hl⟩, h1⟩, h2⟩ := hE
    have hi : i < n := by simpa [Nat.blt_eq] using hi
    have hj : j < n := by simpa [Nat.blt_eq] using hj
    have hl' : ti.len = tj.len := Nat.eq_of_beq_eq_true hl
    have ri : i ∈ Region.ready md ops listed := by rw [hr]; simp
    have rj : j ∈ Region.ready md ops listed := by rw [hr]; simp
    refine ⟨fun h1 => (by rw [hr] at h1; cases h1), fun q hq => ?_⟩
    rw [hr] at hq
    simp only [List.mem_cons, List.not_mem_nil, or_false] at hq
    rcases hq with rfl | rfl
    · exact ⟨hi, parOp_thenT hK.1 (fun a w hC' h3 => wpAnyT_tree hsel hs hc hn hQ ti _ a w hC' (inv.set ri hi) h1 h3) (fun _ h3 => wpAnyT_tree hsel hs hc hn hQ ti _ _ _ hC (inv.set ri hi) h1 h3) (fun h3 => wpAnyT_tree hsel hs hc hn hQ ti _ _ _ hC (inv.set ri hi) h1 h3)⟩
    · rw [hl']
      exact ⟨hj, parOp_thenT hK.2 (fun a w hC' h3 => wpAnyT_tree hsel hs hc hn hQ tj _ a w hC' (inv.set rj hj) h2 h3) (fun _ h3 => wpAnyT_tree hsel hs hc hn hQ tj _ _ _ hC (inv.set rj hj) h2 h3) (fun h3 => wpAnyT_tree hsel hs hc hn hQ tj _ _ _ hC (inv.set rj hj) h2 h3)⟩
  | .br3 l i ti j tj k tk, listed, a, w, hC, inv, hB, h => by
    have e : thenT (fun a w => parOp P ops C (thenT Lq Q) i (wpTree P ops C (thenT Lq Q) ti) a w ∧ parOp P ops C (thenT Lq Q) j (wpTree P ops C (thenT Lq Q) tj) a w ∧ parOp P ops C (thenT Lq Q) k (wpTree P ops C (thenT Lq Q) tk) a w) (thenT Lq Q) = thenT (fun a w => parOp P ops C (thenT Lq Q) i (wpTree P ops C (thenT Lq Q) ti) a w ∧ parOp P ops C (thenT Lq Q) j (wpTree P ops C (thenT Lq Q) tj) a w ∧ parOp P ops C (thenT Lq Q) k (wpTree P ops C (thenT Lq Q) tk) a w) Q := by
      funext e a w; cases e <;> rfl
    simp only [wpTree] at h
    rw [e] at h
    refine wpAnyT_parE (f := ti.len + 1) hsel hs hc hn hQ (fun _ _ _ hL => seqB_ready hL.1) (fun listed a w hC inv hE hK => ?_) l listed a w hC inv hB h
    simp only [Bool.and_eq_true, decide_eq_true_eq] at hE
    obtain ⟨⟨⟨⟨⟨⟨⟨⟨hr, hi⟩, hj⟩, hk⟩, hl⟩, hlk⟩, h1⟩, h2⟩, h3'⟩ := hE
    have hi : i < n := by simpa [Nat.blt_eq] using hi
    have hj : j < n := by simpa [Nat.blt_eq] using hj
    have hk : k < n := by simpa [Nat.blt_eq] using hk
    have hl' : ti.len = tj.len := Nat.eq_of_beq_eq_true hl
    have hlk' : ti.len = tk.len := Nat.eq_of_beq_eq_true hlk
    have ri : i ∈ Region.ready md ops listed := by rw [hr]; simp
    have rj : j ∈ Region.ready md ops listed := by rw [hr]; simp
    have rk : k ∈ Region.ready md ops listed := by rw [hr]; simp
    refine ⟨fun h1 => (by rw [hr] at h1; cases h1), fun q hq => ?_⟩
    rw [hr] at hq
    simp only [List.mem_cons, List.not_mem_nil, or_false] at hq
    rcases hq with rfl | rfl | rfl
    · exact ⟨hi, parOp_thenT hK.1 (fun a w hC' h3 => wpAnyT_tree hsel hs hc hn hQ ti _ a w hC' (inv.set ri hi) h1 h3) (fun _ h3 => wpAnyT_tree hsel hs hc hn hQ ti _ _ _ hC (inv.set ri hi) h1 h3) (fun h3 => wpAnyT_tree hsel hs hc hn hQ ti _ _ _ hC (inv.set ri hi) h1 h3)⟩
    · rw [hl']
      exact ⟨hj, parOp_thenT hK.2.1 (fun a w hC' h3 => wpAnyT_tree hsel hs hc hn hQ tj _ a w hC' (inv.set rj hj) h2 h3) (fun _ h3 => wpAnyT_tree hsel hs hc hn hQ tj _ _ _ hC (inv.set rj hj) h2 h3) (fun h3 => wpAnyT_tree hsel hs hc hn hQ tj _ _ _ hC (inv.set rj hj) h2 h3)⟩
    · rw [hlk']
      exact ⟨hk, parOp_thenT hK.2.2 (fun a w hC' h3 => wpAnyT_tree hsel hs hc hn hQ tk _ a w hC' (inv.set rk hk) h3' h3) (fun _ h3 => wpAnyT_tree hsel hs hc hn hQ tk _ _ _ hC (inv.set rk hk) h3' h3) (fun h3 => wpAnyT_tree hsel hs hc hn hQ tk _ _ _ hC (inv.set rk hk) h3' h3)⟩
end
theorem wp_region_treeTN {id : Nat} {a : Act} {w : World} {l : List Oper} (n : Nat) (t : PT) (hm : P.follows .mixedOrders = true)
    (hB : (Region.noSelect l.toArray && decide (n < l.toArray.size) && Nat.beq t.len n && Region.sinkB .any l.toArray n && Region.chainB .any l.toArray n && treeTB .any l.toArray n (l.toArray.size - n) t (Array.replicate l.toArray.size false)) = true)
    (hC : C { w with drawn := w.drawn + 1 }) (h : wpTree P l.toArray C (thenL P l n (NoP Q)) t a { w with drawn := w.drawn + 1 }) : (Code.region id l.toArray true).wp P Q a w := by
  refine wp_mono (Q := NoP Q) ?_ fun e a w h => by cases e <;> first | exact h | exact h.elim
  simp only [Bool.and_eq_true, decide_eq_true_eq] at hB
  obtain ⟨⟨⟨⟨⟨hsel, hn⟩, hl⟩, hs⟩, hc⟩, hlex⟩ := hB
  have hl := Nat.eq_of_beq_eq_true hl
  have hdl : (l.drop n).length = l.toArray.size - n := by simp
  have inv0 : HeadInv .any l.toArray n (Array.replicate l.toArray.size false) :=
    ⟨by simp, fun j oj _ hl => (by rw [getD_replicate_false] at hl; cases hl), fun t _ ht => getD_in (by simpa using ht) (getD_replicate_false _ _)⟩
  have H := wpAnyT_tree (md := .any) (Q := NoP Q) (g := l.toArray.size - n) (Lq := fun a w => wpList P l.toArray (NoP Q) (l.drop n) a w) hsel hs hc hn (fun _ _ _ _ _ _ h => h.elim) t _ a _ hC inv0 hlex h
  refine wp_region_any hm ?_
  have := wpAny_of_headT (Q := NoP Q) (g := l.toArray.size - n) (fun listed a' w' hL => by
    have := wpAny_of_seq (md := .any) (Q' := NoP Q) (l.drop n) n listed a' w' (fun j => by simp [List.getElem?_drop]) (by rw [hdl]; exact hL.1) hL.2
    rwa [hdl] at this) _ _ _ _ H
  rw [hl, show n + (l.toArray.size - n) = l.toArray.size by omega] at this
  exact this
def CL (s : Nat) (C0 C1 : World → Prop) (listed : Array Bool) (w : World) : Prop := (listed.getD s false = false → C0 w) ∧ (listed.getD s false = true → C1 w)
def Clo (md : Region.Mode) (ops : Array Oper) (listed : Array Bool) : Prop := ∀ j oj, ops[j]? = some oj → listed.getD j false = true → ∀ e ∈ oj.after, Region.binds md e = true → listed.getD e.on false = true
theorem Clo.set {i : Nat} {listed : Array Bool} (hc : Clo md ops listed) (hi : i ∈ Region.ready md ops listed) : Clo md ops (listed.setIfInBounds i true) := by
  obtain ⟨_, oi, hoi, hall⟩ := mem_ready.1 hi
  intro j oj hj hl e he hb
  by_cases hij : i = j
  · subst hij
    have : oj = oi := Option.some.inj (hj.symm.trans hoi)
    subst this
    exact getD_set_true (hall e he hb)
  · rw [getD_set_ne false hij] at hl
    exact getD_set_true (hc j oj hj hl e he hb)
theorem Clo.none {m : Nat} : Clo md ops (Array.replicate m false) := fun j oj _ hl => (by rw [getD_replicate_false] at hl; cases hl)
variable {C0 C1 CY C' : World → Prop} {s : Nat}
theorem CL.set_ne {listed : Array Bool} {i : Nat} {w : World} (h : CL s C0 C1 listed w) (hi : i ≠ s) : CL s C0 C1 (listed.setIfInBounds i true) w := by
  unfold CL at *
  rw [getD_set_ne false hi]
  exact h
theorem getD_set_self {listed : Array Bool} {s : Nat} (h : s < listed.size) : (listed.setIfInBounds s true).getD s false = true := by simp [h]
theorem CL.set {listed : Array Bool} {i : Nat} {w : World} (h01 : ∀ w, C0 w → C1 w) (h : CL s C0 C1 listed w) : CL s C0 C1 (listed.setIfInBounds i true) w := by
  by_cases hi : i = s
  · subst hi
    rcases Nat.lt_or_ge i listed.size with hl | hl
    · refine ⟨fun h1 => (by rw [getD_set_self hl] at h1; cases h1), fun _ => ?_⟩
      cases hb : listed.getD i false with
      | true => exact h.2 hb
      | false => exact h01 _ (h.1 hb)
    · rw [Array.setIfInBounds_eq_of_size_le hl]; exact h
  · exact h.set_ne hi
section
variable {n : Nat} {L : Array Bool → Act → World → Prop}
end
section
variable {a : Act} {w : World} {n : Fr} {L : Sl} {t : PT} {r : List (Nat × Nat)} {k : Nat} {o : Oper}
end
section
variable {a : Act} {w : World} {n : Fr} {L : Sl} {r : List (Nat × Bool)} {k : Nat} {o : Oper}
theorem sp {d : Nat} {v : Value} (ho : ops[k]? = some o) (hK : Kn n a L) (hd : d < n.n) (hw : wantedL ops L o = some true) (hdst : o.dst = some d) (hr : ∀ w, C w → Runs P w a o v)
    (h : ∀ a, Kn n a ((d, v) :: L) → wpPar P ops C Q r a w) : wpPar P ops C Q ((k, true) :: r) a w := by
  simp only [wpPar, ho]
  exact ⟨v, .inl ⟨wantedL_ok hK hw, hr⟩, by rw [hdst]; exact h _ (hK.put hd v)⟩
theorem sp_skip {d : Nat} (ho : ops[k]? = some o) (hK : Kn n a L) (hd : d < n.n) (hw : wantedL ops L o = some false) (hdst : o.dst = some d)
    (h : ∀ a, Kn n a ((d, undef) :: L) → wpPar P ops C Q r a w) : wpPar P ops C Q ((k, true) :: r) a w := by
  simp only [wpPar, ho]
  exact ⟨undef, .inr ⟨wantedL_ok hK hw, rfl⟩, by rw [hdst]; exact h _ (hK.put hd _)⟩
def parK (P : Program) (ops : Array Oper) (C : World → Prop) (Q : Exit → Act → World → Prop) (r : List (Nat × Bool)) : Exit → Act → World → Prop := fun e a w => match e with | .normal => C w ∧ wpPar P ops C Q r a w | .outgrown => False | e => Q e a w
theorem spw {R : Exit → Act → World → Prop} (hR : R = parK P ops C Q r) (ho : ops[k]? = some o) (hC : C w) (h : wpList P ops R [o] a w) (hno : ¬ LetsOut Q → True := fun _ => trivial) : wpPar P ops C Q ((k, false) :: r) a w := by
  subst hR
  simp only [wpPar, parOp, ho]
  simp only [wpList] at h
  split
  · rename_i hw
    simp only [hw, if_true] at h
    rcases h with h | ⟨_, ⟨_, _, h⟩⟩
    · unfold Oper.wp at *
      generalize (execOp a.eval o).run P w = x at *
      cases x with
      | ok n w' =>
        cases n <;> simp only [Oper.upon] at h ⊢
        case enter f args =>
          refine Calls.mono h fun e w'' he => ?_
          cases e with
          | returned u => exact he
          | panicked c => exact he
          | outgrown => exact absurd he (fun ⟨_, _, h⟩ => h)
        all_goals exact h
      | halt x w' => cases x <;> simp only [Oper.upon] at h ⊢ <;> exact h
    · exact h.elim
  · rename_i hw
    simp only [hw] at h
    exact h.2
theorem parK_nil (hC : C w) (h : wpPar P ops C Q r a w) : wpList P ops (parK P ops C Q r) [] a w := ⟨hC, h⟩
theorem wpPar_nil (h : Q .normal a w) : wpPar P ops C Q [] a w := h
def parKK (C : World → Prop) (Q : Exit → Act → World → Prop) (K : Act → World → Prop) : Exit → Act → World → Prop := fun e a w => match e with | .normal => C w ∧ K a w | .outgrown => False | e => Q e a w
theorem spwB {R : Exit → Act → World → Prop} {K : Act → World → Prop} (hR : R = parKK C Q K) (ho : ops[k]? = some o) (hC : C w) (h : wpList P ops R [o] a w) : parOp P ops C Q k K a w := by
  subst hR
  simp only [parOp, ho]
  simp only [wpList] at h
  split
  · rename_i hw
    simp only [hw, if_true] at h
    rcases h with h | ⟨_, ⟨_, _, h⟩⟩
    · unfold Oper.wp at *
      generalize (execOp a.eval o).run P w = x at *
      cases x with
      | ok n w' =>
        cases n <;> simp only [Oper.upon] at h ⊢
        case enter f args =>
          refine Calls.mono h fun e w'' he => ?_
          cases e with
          | returned u => exact he
          | panicked c => exact he
          | outgrown => exact absurd he (fun ⟨_, _, h⟩ => h)
        all_goals exact h
      | halt x w' => cases x <;> simp only [Oper.upon] at h ⊢ <;> exact h
    · exact h.elim
  · rename_i hw
    simp only [hw] at h
    exact h.2
theorem parKK_nil {E : Exit → Act → World → Prop} {t : PT} (hC : C w) (h : wpTree P ops C E t a w) : wpList P ops (parKK C Q (wpTree P ops C E t)) [] a w := ⟨hC, h⟩
theorem tree_br {E : Exit → Act → World → Prop} {i j : Nat} {ti tj : PT} (h1 : parOp P ops C E i (wpTree P ops C E ti) a w) (h2 : parOp P ops C E j (wpTree P ops C E tj) a w) : thenT (fun a w => parOp P ops C E i (wpTree P ops C E ti) a w ∧ parOp P ops C E j (wpTree P ops C E tj) a w) E .normal a w := ⟨h1, h2⟩
theorem tree_list {E : Exit → Act → World → Prop} {l : List (Nat × Bool)} (h : wpPar P ops C E l a w) : wpTree P ops C E (.list l) a w := h
theorem tree_fork {E : Exit → Act → World → Prop} {l : List (Nat × Bool)} {i j : Nat} {ti tj : PT} (h : wpPar P ops C (thenT (fun a w => parOp P ops C E i (wpTree P ops C E ti) a w ∧ parOp P ops C E j (wpTree P ops C E tj) a w) E) l a w) : wpTree P ops C E (.br l i ti j tj) a w := h
end
end
end Go.Eng
end
section
namespace Go.Eng
open Go.RowKit
set_option linter.unusedVariables false
set_option linter.unusedSimpArgs false
structure ElT (P : Program) (t e : TypeId) (size bytes : Nat) : Prop where
  und : P.underlying t = some (.slice e)
  ex : ∃ i z, P.info? e = some i ∧ i.zero = some z ∧ i.size = size ∧ i.bytes = bytes ∧ z.cells.size = size
  pos : 0 < size
def apd {α : Type} (B : Nat) (xs ys : List α) : Option (List α) := if (xs.length + ys.length) * B ≤ 140737488355328 then some (xs ++ ys) else none
theorem apd_some {α : Type} {B : Nat} {xs ys zs : List α} (h : apd B xs ys = some zs) : (xs.length + ys.length) * B ≤ 140737488355328 ∧ zs = xs ++ ys := by
  unfold apd at h
  split at h
  · exact ⟨by assumption, (Option.some.inj h).symm⟩
  · cases h
section
variable {α : Type} {ty : Ty α}
variable {P : Program} {ops : Array Oper} {Q : Exit → Act → World → Prop} {a : Act} {w0 w : World} {M : List Own} {R : Hp} {O : List Own} {rest : List Oper} {n : Fr} {L : Sl}
variable {d : Option Tmp} {ty' : TypeId} {pos : String} {af : Array Edge} {g : Option (Nat × Bool)}
theorem append_none {t e : TypeId} {size : Nat} (hu : P.underlying t = some (.slice e)) (hz : ∀ w, (sizeOf e).run P w = .ok size w) (tt : TypeId) {ad ad' : Option Addr} {m c c' : Nat} (hc : m ≤ c) :
    (Builtin.append_ #[t, t] tt #[.slice ad m c, .slice ad' 0 c']).run P w = .ok (.slice ad m c) w := by
  cases ad <;> cases ad' <;> simp [Builtin.append_, run_underlying hu, hz, Builtin.lenOf, hc, Builtin.firstCells, loadCells, loadCellsFrom, storeCells]
theorem ownsRow_cap {base t sz : Nat} {v : Value} {m : Nat} {cs : List Value} (h : w.ownsRow base t sz v m cs) : ∃ ad c, v = .slice ad m c ∧ m ≤ c := by
  rcases h.2 with ⟨h1, h2⟩ | ⟨g, cap, cur, hv, _, _, h1, _⟩
  · subst h2; exact ⟨_, _, h1, Nat.le_refl _⟩
  · exact ⟨_, _, hv, h1⟩
theorem append_blk {t e size bytes tt : Nat} {i : TypeInfo} {z : Value} {base : Nat} {v v' : Value} {w' : World} {m k c : Nat} {cs news : List Value} {ad : Addr} (ht : P.underlying t = some (.slice e)) (hi : P.info? e = some i) (hz0 : i.zero = some z) (hsz : i.size = size) (hby : i.bytes = bytes)
    (hown : w.ownsRow base e size v m cs) (hk : k ≠ 0) (hl : news.length = k * size) (hnews : ∀ j u, news[j]? = some u → w.cell? (ad.add j) = some u) (h1 : ∀ u ∈ news, u.oneCell' = true) (h63 : m + k ≤ 140737488355328) (hb : (m + k) * bytes ≤ 140737488355328)
    (hr : (Builtin.append_ #[t, t] tt #[v, .slice (some ad) k c]).run P w = .ok v' w') : (∀ b, v'.ownBlock = some b → v.ownBlock = some b ∨ w.heap.size ≤ b) ∧ w.drawn ≤ w'.drawn := by
  subst hsz; subst hby
  rcases hown.2 with ⟨rfl, rfl⟩ | ⟨g, cap, cur, rfl, hbg, hg, hnc, hcm, hcs, htake⟩
  · have := run_append_nil (P := P) w t tt e i z ht hi hz0 ad k c news hl hnews (by omega) (by omega) (by simp only [Nat.zero_add] at hb; omega)
    rw [this] at hr
    injection hr with h1 h2
    subst h1; subst h2
    exact ⟨fun b hb' => by
      simp [Value.ownBlock] at hb'
      exact Or.inr (by omega), Nat.le_succ _⟩
  · by_cases hroom : m + k ≤ cap
    · have hfit : m * i.size + news.length ≤ cur.size := by rw [hl, hcs, ← Nat.add_mul]; exact Nat.mul_le_mul_right _ hroom
      have := run_append_room (P := P) w t tt e i ht hi g m cap cur hg ad k c news hl hnews h1 hroom hfit
      rw [this] at hr
      injection hr with h1 h2
      subst h1; subst h2
      exact ⟨fun b hb' => Or.inl hb', Nat.le_refl _⟩
    · have holds : ∀ j u, cs[j]? = some u → w.cell? ((⟨g, 0, none⟩ : Addr).add j) = some u := hown.cells (g := g) rfl
      have := run_append_grow (P := P) w t tt e i z ht hi hz0 ⟨g, 0, none⟩ m cap cs hown.1 holds ad k c news hl hnews (by omega) (by omega) (growslice_fits (by omega) hb)
      rw [this] at hr
      injection hr with h1 h2
      subst h1; subst h2
      exact ⟨fun b hb' => by
        simp [Value.ownBlock] at hb'
        exact Or.inr (by omega), Nat.le_succ _⟩
theorem run_append {t e size bytes tt : Nat} {v : Value} {m k c : Nat} {cs news : List Value} {ad : Option Addr} (hE : ElT P t e size bytes) (hB : 1 ≤ bytes)
    (hS : St M w0 w R (.row e size v m cs :: O)) (hl : news.length = k * size) (h1 : ∀ u ∈ news, u.oneCell' = true) (hb : (m + k) * bytes ≤ 140737488355328)
    (hsrc : k ≠ 0 → ∃ b o, ad = some ⟨b, o, none⟩ ∧ ∀ j u, news[j]? = some u → w.cell? ⟨b, o + j, none⟩ = some u) :
    ∃ v' w', (Builtin.append_ #[t, t] tt #[v, .slice ad k c]).run P w = .ok v' w' ∧ St M w0 w' R (.row e size v' (m + k) (cs ++ news) :: O) := by
  obtain ⟨i, z, hi, hz0, hsz, hby, hzs⟩ := hE.ex
  have hown : w.ownsRow 0 e size v m cs := hS.own (.row e size v m cs) (List.mem_cons_self ..)
  by_cases hk : k = 0
  · subst hk
    obtain ⟨ad0, c0, rfl, hc0⟩ := ownsRow_cap hown
    have : news = [] := List.eq_nil_of_length_eq_zero (by simpa using hl)
    subst this
    refine ⟨_, w, append_none (size := size) hE.und (fun w => by simp [sizeOf, typeInfo, hi, hsz]) tt hc0, ?_⟩
    simpa using hS
  · obtain ⟨b, o, rfl, hcell⟩ := hsrc hk
    have hle : m + k ≤ 140737488355328 := Nat.le_trans (Nat.le_mul_of_pos_right _ hB) hb
    obtain ⟨v', w', hr, h2, h3, h4⟩ := run_append_own (P := P) w 0 t tt e i z size bytes hE.und hi hz0 hsz hby hzs hE.pos v m cs hown ⟨b, o, none⟩ k c news hl (fun j u hu => by rw [add_lit]; exact hcell j u hu) h1
      (by simp only [maxLen]; omega) hb (Nat.zero_le _)
    have hab := append_blk hE.und hi hz0 hsz hby hown hk hl (fun j u hu => by rw [add_lit]; exact hcell j u hu) h1 hle hb hr
    exact ⟨v', w', hr, hS.turn h3.os h3.tape h3.output h3.size hab.2 (fun j hj hne => h3.block j hj (fun e => hne e.symm)) h2 hab.1⟩
theorem append_op {s x : Operand} {t : TypeId} {u v v' : Value} {w' : World} (hK : Kn n a L) (hs : ev L s = some v) (hx : ev L x = some u) (hr : (Builtin.append_ #[t, t] ty' #[v, u]).run P w = .ok v' w') :
    (execOp a.eval ⟨d, .call { callee := .builtin .append, args := #[s, x], argTypes := #[t, t] }, ty', pos, af, g⟩).run P w = .ok (.value v') w' := by
  simp [execOp, resolve, invoke, builtin, hK.ev hs, hK.ev hx, hr]
theorem sl_append_R {dd : Nat} {s x : Operand} {t e size bytes : Nat} {v u : Value} {m : Nat} {cs : List Value} {xs ys zs : List α} (hE : ElT P t e size bytes) (hB : 1 ≤ bytes) (hty : ty.n = size) (hcs : Reps ty R cs xs) (hm : m = xs.length) (hu : SlR ty R u ys) (hz : apd bytes xs ys = some zs)
    (hS : St M w0 w R (.row e size v m cs :: O)) (hK : Kn n a L) (hd : dd < n.n) (hw : wantedL ops L ⟨some dd, .call { callee := .builtin .append, args := #[s, x], argTypes := #[t, t] }, ty', pos, af, g⟩ = some true) (hs : ev L s = some v) (hx : ev L x = some u)
    (h : ∀ a w v' cs', Reps ty R cs' zs → St M w0 w R (.row e size v' zs.length cs' :: O) → Kn n a ((dd, v') :: L) → wpList P ops Q rest a w) :
    wpList P ops Q (⟨some dd, .call { callee := .builtin .append, args := #[s, x], argTypes := #[t, t] }, ty', pos, af, g⟩ :: rest) a w := by
  subst hm; subst hty
  obtain ⟨hb, hzs⟩ := apd_some hz
  obtain ⟨ad, cap, ds, rfl, _, hds, hsrc⟩ := hu.cells
  obtain ⟨v', w', hr, hS'⟩ := run_append (tt := ty') (c := cap) (news := ds) (ad := ad) hE hB hS hds.length hds.one hb (fun hk => by
    obtain ⟨b, o, h1, h2⟩ := hsrc (by intro e; subst e; exact hk rfl)
    exact ⟨b, o, h1, fun j u hu => hS.rcell (h2 j u hu)⟩)
  refine slw hK hd hw rfl (append_op hK hs hx hr) fun a' hK' => h a' w' v' (cs ++ ds) (by rw [hzs]; exact hcs.append hds) ?_ hK'
  rw [hzs, List.length_append]
  exact hS'
theorem sl_append_L {dd : Nat} {s x : Operand} {t e size bytes : Nat} {v : Value} {m k b : Nat} {t' : TypeId} {cs ds : List Value} {xs ys zs : List α} (hE : ElT P t e size bytes) (hB : 1 ≤ bytes) (hty : ty.n = size) (hcs : Reps ty R cs xs) (hm : m = xs.length) (hds : Reps ty R ds ys) (hk : k = ys.length) (hz : apd bytes xs ys = some zs)
    (hS : St M w0 w R (.row e size v m cs :: .cells b ds t' :: O)) (hK : Kn n a L) (hd : dd < n.n) (hw : wantedL ops L ⟨some dd, .call { callee := .builtin .append, args := #[s, x], argTypes := #[t, t] }, ty', pos, af, g⟩ = some true) (hs : ev L s = some v) (hx : ev L x = some (.slice (some ⟨b, 0, none⟩) k k))
    (h : ∀ a w v' cs', Reps ty R cs' zs → St M w0 w R (.row e size v' zs.length cs' :: O) → Kn n a ((dd, v') :: L) → wpList P ops Q rest a w) :
    wpList P ops Q (⟨some dd, .call { callee := .builtin .append, args := #[s, x], argTypes := #[t, t] }, ty', pos, af, g⟩ :: rest) a w := by
  subst hm; subst hty; subst hk
  obtain ⟨hb, hzs⟩ := apd_some hz
  obtain ⟨v', w', hr, hS'⟩ := run_append (tt := ty') (c := ys.length) (news := ds) (ad := some ⟨b, 0, none⟩) hE hB hS hds.length hds.one hb (fun hk => ⟨b, 0, rfl, fun j u hu => by
    rw [Nat.zero_add]; exact hS.cell (.tail _ (.head _)) hu⟩)
  refine slw hK hd hw rfl (append_op hK hs hx hr) fun a' hK' => h a' w' v' (cs ++ ds) (by rw [hzs]; exact hcs.append hds) ?_ hK'
  rw [hzs, List.length_append]
  exact hS'.drop1
theorem St.row_nil (h : St M w0 w R O) (e size : Nat) : St M w0 w R (.row e size (.slice none 0 0) 0 [] :: O) :=
  ⟨h.bel, h.sub, all_cons (World.ownsRow_nil w _ e size) h.own, all_cons (fun b hb => by simp [Own.blk, Value.ownBlock] at hb) h.base, List.Pairwise.cons (fun y _ b hb => by simp [Own.blk, Value.ownBlock] at hb) h.sep⟩
theorem St.row_lit {b m size : Nat} {c : List Value} {e : TypeId} (h : St M w0 w R (.cells b c e :: O)) (hc : c.length = m * size) (hm : m ≤ 140737488355328) : St M w0 w R (.row e size (.slice (some ⟨b, 0, none⟩) m m) m c :: O) := by
  have hb : w.heap[b]? = some (.cells c.toArray e (0, 0)) := h.own (.cells b c e) (List.mem_cons_self ..)
  refine h.turn rfl rfl rfl (Nat.le_refl _) (Nat.le_refl _) (fun _ _ _ => rfl) ⟨hc, Or.inr ⟨b, m, c.toArray, rfl, Nat.zero_le _, hb, Nat.le_refl _, by simp only [maxLen]; omega, by simpa using hc, ?_⟩⟩ (fun b' hb' => Or.inl hb')
  rw [← hc]; simp
theorem St.frozen {x : Own} {b : Nat} {o : Obj} (h : St M w0 w R (x :: O)) (hx : x.blk = some b) (hb : w.heap[b]? = some o) : ∃ R', St M w0 w R' O ∧ RLe M w0 R R' ∧ R' b = some o := by
  obtain ⟨h1, h2⟩ := h.freeze hx hb
  refine ⟨_, h1, ⟨h2, fun k u hk => ?_⟩, by simp⟩
  by_cases e : k = b
  · subst e; exact Or.inr (h.base x (List.mem_cons_self ..) k hx).1
  · simp [e] at hk; exact Or.inl hk
theorem St.fz_row {e size m : Nat} {v : Value} {cs : List Value} {xs : List α} (h : St M w0 w R (.row e size v m cs :: O)) (hcs : Reps ty R cs xs) (hm : m = xs.length) (hty : ty.n = size) : ∃ R', St M w0 w R' O ∧ RLe M w0 R R' ∧ SlR ty R' v xs := by
  subst hm; subst hty
  have hown : w.ownsRow 0 e ty.n v xs.length cs := h.own (.row e ty.n v xs.length cs) (List.mem_cons_self ..)
  rcases hown.2 with ⟨rfl, h0⟩ | ⟨g, cap, cur, rfl, hbg, hg, hnc, hcm, hcz, htake⟩
  · have : xs = [] := List.eq_nil_of_length_eq_zero h0
    subst this
    exact ⟨R, h.tail, RLe.refl _ _, SlR.nil ty R⟩
  · obtain ⟨R', h1, h2, h3⟩ := h.frozen rfl hg
    refine ⟨R', h1, h2, SlR.of_cells rfl hnc (hcs.mono h2.le) fun j u hu => ?_⟩
    rw [← htake, List.getElem?_take] at hu
    split at hu
    · simp only [Hp.cell, h3, Nat.zero_add]; simpa using hu
    · cases hu
theorem St.fz_lit {b m : Nat} {c : List Value} {t : TypeId} {xs : List α} (h : St M w0 w R (.cells b c t :: O)) (hcs : Reps ty R c xs) (hm : m = xs.length) : ∃ R', St M w0 w R' O ∧ RLe M w0 R R' ∧ SlR ty R' (.slice (some ⟨b, 0, none⟩) m m) xs := by
  subst hm
  obtain ⟨R', h1, h2, h3⟩ := h.frozen rfl (h.own (.cells b c t) (List.mem_cons_self ..))
  exact ⟨R', h1, h2, SlR.of_cells rfl (Nat.le_refl _) (hcs.mono h2.le) fun j u hu => by simp only [Hp.cell, h3, Nat.zero_add]; simpa using hu⟩
def Ty.Any {α : Type} (ty : Ty α) : Prop := ∀ (R R' : Hp) (cs : List Value) (x : α), ty.rep R cs x → ty.rep R' cs x
theorem Reps.any {R R' : Hp} {cs : List Value} {xs : List α} (hf : ty.Any) (h : Reps ty R cs xs) : Reps ty R' cs xs := by
  obtain ⟨css, h1, h2, h3⟩ := h
  exact ⟨css, h1, h2, fun i c x hc hx => hf _ _ _ _ (h3 i c x hc hx)⟩
theorem sl_append_A {dd : Nat} {s x : Operand} {t e size bytes : Nat} {v u : Value} {m : Nat} {cs : List Value} {xs ys zs : List α} {RA : Hp} (hE : ElT P t e size bytes) (hB : 1 ≤ bytes) (hty : ty.n = size) (hf : ty.Any) (hA : RA.sub w) (hcs : Reps ty R cs xs) (hm : m = xs.length) (hu : SlR ty RA u ys) (hz : apd bytes xs ys = some zs)
    (hS : St M w0 w R (.row e size v m cs :: O)) (hK : Kn n a L) (hd : dd < n.n) (hw : wantedL ops L ⟨some dd, .call { callee := .builtin .append, args := #[s, x], argTypes := #[t, t] }, ty', pos, af, g⟩ = some true) (hs : ev L s = some v) (hx : ev L x = some u)
    (h : ∀ a w v' cs', Reps ty R cs' zs → St M w0 w R (.row e size v' zs.length cs' :: O) → Kn n a ((dd, v') :: L) → wpList P ops Q rest a w) :
    wpList P ops Q (⟨some dd, .call { callee := .builtin .append, args := #[s, x], argTypes := #[t, t] }, ty', pos, af, g⟩ :: rest) a w := by
  subst hm; subst hty
  obtain ⟨hb, hzs⟩ := apd_some hz
  obtain ⟨ad, cap, ds, rfl, _, hds, hsrc⟩ := hu.cells
  obtain ⟨v', w', hr, hS'⟩ := run_append (tt := ty') (c := cap) (news := ds) (ad := ad) hE hB hS hds.length hds.one hb (fun hk => by
    obtain ⟨b, o, h1, h2⟩ := hsrc (by intro e; subst e; exact hk rfl)
    exact ⟨b, o, h1, fun j u hu => hA.cell (h2 j u hu)⟩)
  refine slw hK hd hw rfl (append_op hK hs hx hr) fun a' hK' => h a' w' v' (cs ++ ds) (by rw [hzs]; exact hcs.append (hds.any hf)) ?_ hK'
  rw [hzs, List.length_append]
  exact hS'
theorem St.lend_row {e size m : Nat} {v : Value} {cs : List Value} {xs : List α} {N : List Own} (h : St M w0 w R (N ++ O)) (hmem : Own.row e size v m cs ∈ O) (hcs : Reps ty R cs xs) (hm : m = xs.length) (hty : ty.n = size) : SlR ty (lentOf N w) v xs := by
  subst hm; subst hty
  have hown : w.ownsRow 0 e ty.n v xs.length cs := h.own _ (List.mem_append_right _ hmem)
  rcases hown.2 with ⟨rfl, h0⟩ | ⟨g, cap, cur, rfl, hbg, hg, hnc, hcm, hcz, htake⟩
  · have : xs = [] := List.eq_nil_of_length_eq_zero h0
    subst this
    exact SlR.nil ty _
  · refine SlR.of_cells rfl hnc (hcs.mono h.rLe) fun j u hu => ?_
    have h3 := h.ownLent hmem rfl hg
    rw [← htake, List.getElem?_take] at hu
    split at hu
    · simp only [Hp.cell, h3, Nat.zero_add]; simpa using hu
    · cases hu
theorem St.lend_box {b : Nat} {c : List Value} {t : TypeId} {N : List Own} (h : St M w0 w R (N ++ O)) (hmem : Own.cells b c t ∈ O) : ∀ j u, c[j]? = some u → (lentOf N w).cell b (0 + j) = some u := fun j u hu => by
  have h3 := h.ownLent hmem rfl (h.own _ (List.mem_append_right _ hmem))
  simp only [Hp.cell, h3, Nat.zero_add]; simpa using hu
theorem St.lend_lit {b m : Nat} {c : List Value} {t : TypeId} {xs : List α} {N : List Own} (h : St M w0 w R (N ++ O)) (hmem : Own.cells b c t ∈ O) (hcs : Reps ty R c xs) (hm : m = xs.length) : SlR ty (lentOf N w) (.slice (some ⟨b, 0, none⟩) m m) xs := by
  subst hm
  exact SlR.of_cells rfl (Nat.le_refl _) (hcs.mono h.rLe) (h.lend_box hmem)
theorem St.rLe0 (h : St M w0 w R O) : R.le (lentOf [] w) := St.rLe (N := []) h
theorem St.raLe0 {RA : Hp} (h : St M w0 w R O) (hA : RA.sub w0) (hM : ∀ b, blks M b → RA b = none) : RA.le (lentOf [] w) := St.raLe (N := []) h hA hM
theorem St.lend_row0 {e size m : Nat} {v : Value} {cs : List Value} {xs : List α} (h : St M w0 w R O) (hmem : Own.row e size v m cs ∈ O) (hcs : Reps ty R cs xs) (hm : m = xs.length) (hty : ty.n = size) : SlR ty (lentOf [] w) v xs := St.lend_row (N := []) h hmem hcs hm hty
theorem St.lend_box0 {b : Nat} {c : List Value} {t : TypeId} (h : St M w0 w R O) (hmem : Own.cells b c t ∈ O) : ∀ j u, c[j]? = some u → (lentOf [] w).cell b (0 + j) = some u := St.lend_box (N := []) h hmem
theorem St.lend_lit0 {b m : Nat} {c : List Value} {t : TypeId} {xs : List α} (h : St M w0 w R O) (hmem : Own.cells b c t ∈ O) (hcs : Reps ty R c xs) (hm : m = xs.length) : SlR ty (lentOf [] w) (.slice (some ⟨b, 0, none⟩) m m) xs := St.lend_lit (N := []) h hmem hcs hm
theorem St.lower {R' : Hp} (h : St M w0 w R' O) (hle : R.le R') : St M w0 w R O :=
  ⟨h.bel, h.sub.le hle, h.own, fun x hx b hb => ⟨(h.base x hx b hb).1, by
    cases hr : R b with
    | none => rfl
    | some o => have := hle b o hr; rw [(h.base x hx b hb).2] at this; cases this⟩, h.sep⟩
theorem St.sp0 (h : St M w0 w R O) : St M w0 w R ([] ++ O) := h
theorem St.sp1 {x1 : Own} (h : St M w0 w R (x1 :: O)) : St M w0 w R ([x1] ++ O) := h
theorem St.un0 (h : St M w0 w R ([] ++ O)) : St M w0 w R O := h
theorem St.un1 {x1 : Own} (h : St M w0 w R ([x1] ++ O)) : St M w0 w R (x1 :: O) := h
theorem St.un2 {x1 x2 : Own} (h : St M w0 w R ([x1, x2] ++ O)) : St M w0 w R (x1 :: x2 :: O) := h
theorem par_region {id : Nat} {ops : Array Oper} {C : World → Prop} (ord : List (Nat × Bool)) (hm : P.follows .mixedOrders = true) (hB : (Region.noSelect ops && (ord.length == ops.size) && parB .any ops ord (Array.replicate ops.size false)) = true)
    (hS : St M w0 w R O) (hC : ∀ w, St M w0 w R O → C w) (h : ∀ w, St M w0 w R O → wpPar P ops C (NoP Q) ord a w) : (Code.region id ops true).wp P Q a w :=
  wp_region_parN ord hm hB (hC _ (hS.drew _ (Nat.le_succ _))) (h _ (hS.drew _ (Nat.le_succ _)))
theorem parT_region {id : Nat} {l : List Oper} {C : World → Prop} (nn : Nat) (ord : List (Nat × Bool)) (hm : P.follows .mixedOrders = true)
    (hB : (Region.noSelect l.toArray && decide (nn < l.toArray.size) && (ord.length == nn) && Region.sinkB .any l.toArray nn && Region.chainB .any l.toArray nn && parTB .any l.toArray nn (l.toArray.size - nn) ord (Array.replicate l.toArray.size false)) = true)
    (hS : St M w0 w R O) (hC : ∀ w, St M w0 w R O → C w) (h : ∀ w, St M w0 w R O → wpPar P l.toArray C (thenL P l nn (NoP Q)) ord a w) : (Code.region id l.toArray true).wp P Q a w :=
  wp_region_parTN nn ord hm hB (hC _ (hS.drew _ (Nat.le_succ _))) (h _ (hS.drew _ (Nat.le_succ _)))
theorem treeT_region {id : Nat} {l : List Oper} {C : World → Prop} (nn : Nat) (t : PT) (hm : P.follows .mixedOrders = true)
    (hB : (Region.noSelect l.toArray && decide (nn < l.toArray.size) && Nat.beq t.len nn && Region.sinkB .any l.toArray nn && Region.chainB .any l.toArray nn && treeTB .any l.toArray nn (l.toArray.size - nn) t (Array.replicate l.toArray.size false)) = true)
    (hS : St M w0 w R O) (hC : ∀ w, St M w0 w R O → C w) (h : ∀ w, St M w0 w R O → wpTree P l.toArray C (thenL P l nn (NoP Q)) t a w) : (Code.region id l.toArray true).wp P Q a w :=
  wp_region_treeTN nn t hm hB (hC _ (hS.drew _ (Nat.le_succ _))) (h _ (hS.drew _ (Nat.le_succ _)))
theorem thenL_nil {l : List Oper} {nn : Nat} {QQ : Exit → Act → World → Prop} {C : World → Prop} (h : wpList P l.toArray QQ (l.drop nn) a w) : wpPar P l.toArray C (thenL P l nn QQ) [] a w := h
theorem NoP_nil (h : Q .normal a w) : NoP Q .normal a w := h
theorem St.row_one {e z m : Nat} {v : Value} {cs : List Value} (h : St M w0 w R O) (hm : Own.row e z v m cs ∈ O) : v.oneCell' = true := by
  obtain ⟨ad, c, rfl, _⟩ := ownsRow_cap (h.own _ hm)
  rfl
theorem nil_not {RA : Hp} : ∀ b, blks [] b → RA b = none := fun b h => absurd h blks_nil
theorem St.loadWhole {t : TypeId} {m b : Nat} {c : List Value} {t' : TypeId} (hA : ∀ w, (isAgg t).run P w = .ok true w) (hz : ∀ w, (sizeOf t).run P w = .ok m w) (hS : St M w0 w R O) (hm : Own.cells b c t' ∈ O) (hc : c.length = m) : (loadVar t ⟨b, 0, none⟩).run P w = .ok (.agg c.toArray) w := by
  subst hc
  have := cells_load P (w := w) (b := b) (o := 0) (cs := c) (fun j v hv => by rw [Nat.zero_add]; exact hS.cell hm hv)
  simp [loadVar, hA, hz, this]
end
section
variable {P : Program} {Q : Exit → Act → World → Prop} {a : Act} {w : World} {M : List Own}
theorem enter {f : FuncId} {fn : Func} {c : Code} {args : List Value} {n : Nat} {RR : Ending → World → Prop} (hf : P.funcs[f]? = some fn) (hb : fn.body = some c) (hn : fn.ntmps = n) (hl : Nat.ble args.length n = true)
    (h : ∀ a, Kn ⟨n, []⟩ a (initL 0 args) → c.wp P (bodyPost P fn RR) a w) : Calls P f args.toArray w RR := by
  subst hn
  exact calls_of_wp hf hb (h _ (Kn.init args fn.ntmps (Nat.le_of_ble_eq_true hl)))
theorem ifb_t {α : Type} {b : Bool} {x y : α} (h : b = true) : (if b = true then x else y) = x := if_pos h
theorem ifb_f {α : Type} {b : Bool} {x y : α} (h : b = false) : (if b = true then x else y) = y := if_neg (by simp [h])
theorem bind_some {α β : Type} {o : Option α} {f : α → Option β} {r : β} (h : o.bind f = some r) : ∃ y, o = some y ∧ f y = some r := by
  cases o with
  | none => cases h
  | some y => exact ⟨y, rfl, h⟩
theorem Kn.trunc {n : Fr} {L L' : Sl} (h : Kn n a L) (hs : ∀ p ∈ L', look L p.1 = some p.2) : Kn n a L' := h.sub hs
theorem St.trunc {w0 : World} {R : Hp} {O : List Own} (k : Nat) (h : St M w0 w R O) : St M w0 w R (O.take k) :=
  ⟨h.bel, h.sub, fun x hx => h.own x (List.mem_of_mem_take hx), fun x hx => h.base x (List.mem_of_mem_take hx), h.sep.sublist (List.take_sublist k O)⟩
theorem wp_mid {x : Code} (M : Act → World → Prop) (h : x.wp P (Exit.then M Q) a w) (h' : ∀ a w, M a w → Q .normal a w) : x.wp P Q a w :=
  wp_mono h fun e a w q => by cases e <;> first | exact h' _ _ q | exact q
theorem wtt {b : Bool} (h : b = true) : some (b == true) = some true := by subst h; rfl
theorem wtf {b : Bool} (h : b = false) : some (b == true) = some false := by subst h; rfl
theorem wft {b : Bool} (h : b = true) : some (b == false) = some false := by subst h; rfl
theorem wff {b : Bool} (h : b = false) : some (b == false) = some true := by subst h; rfl
theorem or_b (b : Bool) : b = true ∨ b = false := by cases b <;> simp
theorem r_pick_t {n : Fr} {L : Sl} {d : Option Tmp} {ty : TypeId} {pos : String} {af : Array Edge} {g : Option (Nat × Bool)} {c x y : Operand} {b : Bool} {v : Value} (hb : b = true) (hK : Kn n a L) (hc : ev L c = some (.bool b)) (hx : ev L x = some v) : Runs P w a ⟨d, .pick c x y, ty, pos, af, g⟩ v := by
  subst hb
  exact r_pick hK hc (u := v) hx rfl
theorem r_pick_f {n : Fr} {L : Sl} {d : Option Tmp} {ty : TypeId} {pos : String} {af : Array Edge} {g : Option (Nat × Bool)} {c x y : Operand} {b : Bool} {v : Value} (hb : b = false) (hK : Kn n a L) (hc : ev L c = some (.bool b)) (hx : ev L y = some v) : Runs P w a ⟨d, .pick c x y, ty, pos, af, g⟩ v := by
  subst hb
  exact r_pick hK hc (u := v) hx rfl
def ResV (P : Program) (w : World) (a : Act) : ResultVar → Value → Prop
  | .tmp t, v => a.tmps.getD t undef = v
  | .cell t tt, v => ∃ ad, a.tmps.getD t undef = .pointer (some ad) ∧ (loadVar tt ad).run P w = .ok v w
theorem rv_tmp {n : Fr} {t : Nat} {L : Sl} {v : Value} (hK : Kn n a L) (h : look L t = some v) : ResV P w a (.tmp t) v := by simp [ResV, hK.at_ t v h]
theorem rv_cell {n : Fr} {t tt m b : Nat} {L : Sl} {c : List Value} {t' : TypeId} {w0 : World} {R : Hp} {O : List Own} (hA : ∀ w, (isAgg tt).run P w = .ok true w) (hz : ∀ w, (sizeOf tt).run P w = .ok m w) (hS : St M w0 w R O) (hm : Own.cells b c t' ∈ O) (hc : c.length = m)
    (hK : Kn n a L) (hv : look L t = some (.pointer (some ⟨b, 0, none⟩))) : ResV P w a (.cell t tt) (.agg c.toArray) :=
  ⟨_, by simp [hK.at_ t _ hv], hS.loadWhole hA hz hm hc⟩
theorem ret_1 {fn : Func} {r : ResultVar} {v : Value} {n : Fr} {L : Sl} {RR : Ending → World → Prop} (hr : fn.results = #[r]) (hK : Kn n a L) (h1 : ResV P w a r v) (h : RR (.returned v) w) (hn0 : n.ds = [] := by rfl) : bodyPost P fn RR .ret a w := by
  refine ⟨hK.dfs.trans hn0, v, ?_, h⟩
  clear h hK
  cases r <;> simp [ResV] at h1 <;> (try obtain ⟨ad, h1, h1'⟩ := h1) <;> simp [results, hr, asAddr, *]
theorem ret_2 {fn : Func} {r r' : ResultVar} {v v' : Value} {n : Fr} {L : Sl} {RR : Ending → World → Prop} (hr : fn.results = #[r, r']) (hK : Kn n a L) (h1 : ResV P w a r v) (h2 : ResV P w a r' v') (h : RR (.returned (.tuple #[v, v'])) w) (hn0 : n.ds = [] := by rfl) : bodyPost P fn RR .ret a w := by
  refine ⟨hK.dfs.trans hn0, _, ?_, h⟩
  clear h hK
  cases r <;> cases r' <;> simp [ResV] at h1 h2 <;> (try obtain ⟨ad, h1, h1'⟩ := h1) <;> (try obtain ⟨ad', h2, h2'⟩ := h2) <;> simp [results, hr, asAddr, *]
theorem ret_3 {fn : Func} {r r' r'' : ResultVar} {v v' v'' : Value} {n : Fr} {L : Sl} {RR : Ending → World → Prop} (hr : fn.results = #[r, r', r'']) (hK : Kn n a L) (h1 : ResV P w a r v) (h2 : ResV P w a r' v') (h3 : ResV P w a r'' v'') (h : RR (.returned (.tuple #[v, v', v''])) w) (hn0 : n.ds = [] := by rfl) : bodyPost P fn RR .ret a w := by
  refine ⟨hK.dfs.trans hn0, _, ?_, h⟩
  clear h hK
  cases r <;> cases r' <;> cases r'' <;> simp [ResV] at h1 h2 h3 <;> (try obtain ⟨ad, h1, h1'⟩ := h1) <;> (try obtain ⟨ad', h2, h2'⟩ := h2) <;> (try obtain ⟨ad'', h3, h3'⟩ := h3) <;> simp [results, hr, asAddr, *]
theorem wp_loop_k {c : Code} (I : Nat → Act → World → Prop) (k : Nat) (h0 : I k a w) (round : ∀ k a w, I k a w → c.wp P (Exit.then (fun a' w' => ∃ k', k' < k ∧ I k' a' w') Q) a w) : (Code.loop c).wp P Q a w :=
  wp_loop_ghost I k h0 round
end
end Go.Eng
end
section
namespace Go.Eng
open Go.RowKit
set_option linter.unusedVariables false
set_option linter.unusedSimpArgs false
theorem ne_of_bne {p q : Int} (h : (p != q) = true) : p ≠ q := by simpa using h
def bstr (xs : List Int) : ByteArray := ⟨(xs.map fun x => UInt8.ofNat x.toNat).toArray⟩
def sbytes (s : ByteArray) : List Int := s.data.toList.map fun b => (b.toNat : Int)
def cuts (s : ByteArray) (l h : Int) : Option ByteArray := if 0 ≤ l then (if l ≤ h then (if h ≤ (s.size : Int) then some (s.extract l.toNat h.toNat) else none) else none) else none
theorem cuts_some {s t : ByteArray} {l h : Int} (hc : cuts s l h = some t) : 0 ≤ l ∧ l ≤ h ∧ h ≤ (s.size : Int) ∧ t = s.extract l.toNat h.toNat := by
  unfold cuts at hc
  split at hc
  · split at hc
    · split at hc
      · exact ⟨by assumption, by assumption, by assumption, (Option.some.inj hc).symm⟩
      · cases hc
    · cases hc
  · cases hc
def upd {α : Type} (xs : List α) (i : Int) (x : α) : List α := xs.set i.toNat x
theorem upd_length {α : Type} {xs : List α} {i : Int} {x : α} : (upd xs i x).length = xs.length := by simp [upd]
theorem ix_upd {α : Type} {xs : List α} {i : Int} {z : α} (k : Int) (x : α) (h : ix xs i = some z) : ∃ z', ix (upd xs k x) i = some z' := by
  obtain ⟨h0, h1, h2⟩ := ix_some h
  have hl : i.toNat < (upd xs k x).length := by rw [upd_length]; omega
  exact ⟨_, by unfold ix; rw [if_pos h0, List.getElem?_eq_getElem hl]⟩
section
variable {α : Type} {ty : Ty α}
variable {P : Program} {ops : Array Oper} {Q : Exit → Act → World → Prop} {a : Act} {w0 w : World} {M : List Own} {R : Hp} {O : List Own} {rest : List Oper} {n : Fr} {L : Sl}
variable {d : Option Tmp} {ty' : TypeId} {pos : String} {af : Array Edge} {g : Option (Nat × Bool)}
theorem r_index_str' {x y : Operand} {t : TypeId} {p : ByteArray} {k : IntKind} {i z : Int} (hu : P.underlying t = some .string) (hz : ixs p i = some z) (hK : Kn n a L) (hx : ev L x = some (.string p)) (hy : ev L y = some (.int k i)) :
    Runs P w a ⟨d, .index t x y, ty', pos, af, g⟩ (.int .u8 z) := by
  obtain ⟨h0, h1, h2⟩ := ixs_some hz
  subst h2
  exact r_index_str hu hK hx hy h0 h1
theorem r_slice_s {t : TypeId} {x : Operand} {lo hi : Option Operand} {s u : ByteArray} {l h : Int} (hu : P.underlying t = some .string) (hc : cuts s l h = some u) (hK : Kn n a L) (hx : ev L x = some (.string s))
    (hl : match lo with | some y => ∃ k, ev L y = some (.int k l) | none => l = 0) (hh : match hi with | some y => ∃ k, ev L y = some (.int k h) | none => h = (s.size : Int)) : Runs P w a ⟨d, .slice t x lo hi none, ty', pos, af, g⟩ (.string u) := by
  obtain ⟨h0, h1, h2, h3⟩ := cuts_some hc
  subst h3
  have hb : (Instr.sliceBounds false s.size s.size (lo.map a.eval) (hi.map a.eval) none).run P w = .ok (l.toNat, h.toNat, s.size) w := by
    unfold Instr.sliceBounds
    cases hi with
    | none =>
      simp only at hh; subst hh
      cases lo with
      | none => simp only at hl; subst hl; simp
      | some y => obtain ⟨k, hk⟩ := hl; simp [hK.ev hk, run_bound h0 (show l ≤ ((s.size : Nat) : Int) by omega)]
    | some z =>
      obtain ⟨k', hk'⟩ := hh
      cases lo with
      | none => simp only at hl; subst hl; simp [hK.ev hk', run_bound (show 0 ≤ h by omega) h2]
      | some y => obtain ⟨k, hk⟩ := hl; simp [hK.ev hk, hK.ev hk', run_bound (show 0 ≤ h by omega) h2, run_bound h0 (show l ≤ ((h.toNat : Nat) : Int) by omega)]
  simp only [Runs, execOp, hK.ev hx, Instr.sliceAt, Instr.slice, Sem.run_bind, run_underlying hu, Result.andThen_ok, Option.map_none, Option.isSome_none, Bool.false_eq_true, if_false, hb, Sem.run_pure]
theorem reps_u8 {cs : List Value} {xs : List Int} (h : Reps (tyInt .u8) R cs xs) : cs = xs.map (fun x => .int .u8 x) := by
  obtain ⟨css, h1, h2, h3⟩ := h
  subst h1
  induction xs generalizing css with
  | nil =>
    have : css = [] := List.eq_nil_of_length_eq_zero (by simpa using h2)
    subst this; rfl
  | cons x r ih =>
    cases css with
    | nil => simp at h2
    | cons c ds =>
      have hc : c = [.int .u8 x] := h3 0 c x rfl rfl
      subst hc
      simp only [List.flatten_cons, List.map_cons, List.singleton_append, List.cons.injEq, true_and]
      exact ih ds (by simpa using h2) (fun i c x hc hx => h3 (i + 1) c x (by simpa using hc) (by simpa using hx))
theorem push_all (xs : List Int) (acc : ByteArray) : xs.foldl (fun (s : ByteArray) x => s.push (UInt8.ofNat x.toNat)) acc = ⟨acc.data ++ (xs.map fun x => UInt8.ofNat x.toNat).toArray⟩ := by
  induction xs generalizing acc with
  | nil => simp
  | cons x r ih =>
    rw [List.foldl_cons, ih]
    congr 1
    simp [ByteArray.push]
theorem bstr_fold (xs : List Int) : xs.foldl (fun (s : ByteArray) x => s.push (UInt8.ofNat x.toNat)) ByteArray.empty = bstr xs := by
  rw [push_all]; simp [bstr, ByteArray.empty, ByteArray.emptyWithCapacity]; rfl
theorem r_conv_cells {s t e : TypeId} {x : Operand} {v : Value} {xs : List Int} {ad : Option Addr} {c : Nat} (hs : P.underlying s = some (.slice e)) (ht : P.underlying t = some .string) (he : P.underlying e = some (.int .u8)) (hv : v = .slice ad xs.length c)
    (hcell : xs ≠ [] → ∃ b o, ad = some ⟨b, o, none⟩ ∧ ∀ j u, (xs.map (fun x => Value.int .u8 x))[j]? = some u → w.cell? ⟨b, o + j, none⟩ = some u) (hK : Kn n a L) (hx : ev L x = some v) : Runs P w a ⟨d, .convert s t x, ty', pos, af, g⟩ (.string (bstr xs)) := by
  subst hv
  simp only [Runs, execOp, hK.ev hx, Sem.run_bind, run_convert_bytes_string w s t e ad xs.length c hs he ht]
  by_cases hne : xs = []
  · subst hne
    cases ad with
    | none => simp [Conv.bytesToString]; rfl
    | some ad =>
      have h := run_bytesToString (P := P) w ad 0 c [] (by simp [loadCells, loadCellsFrom])
      simp only [List.length_nil]
      rw [h]; rfl
  · obtain ⟨b, o, rfl, h⟩ := hcell hne
    have hl := cells_load P (w := w) (b := b) (o := o) (cs := xs.map (fun x => Value.int .u8 x)) h
    rw [List.length_map] at hl
    rw [run_bytesToString w _ _ c xs hl, bstr_fold]
    rfl
theorem row_cells {v : Value} {e size m : Nat} {cs : List Value} (hS : St M w0 w R O) (hm : Own.row e size v m cs ∈ O) : (v = .slice none 0 0 ∧ m = 0 ∧ cs = []) ∨ ∃ b c, v = .slice (some ⟨b, 0, none⟩) m c ∧ m ≤ c ∧ cs.length = m * size ∧ ∀ j u, cs[j]? = some u → w.cell? ⟨b, j, none⟩ = some u := by
  have hown : w.ownsRow 0 e size v m cs := hS.own _ hm
  rcases hown.2 with ⟨h1, h2⟩ | ⟨g, cap, cur, hv, _, hg, hnc, _, _, htake⟩
  · subst h2
    exact Or.inl ⟨h1, rfl, List.eq_nil_of_length_eq_zero (by simpa using hown.1)⟩
  · refine Or.inr ⟨g, cap, hv, hnc, hown.1, fun j u hu => ?_⟩
    rw [cell_of_row w g j cur e (0, 0) hg]
    rw [← htake, List.getElem?_take] at hu
    split at hu
    · simpa using hu
    · cases hu
theorem r_conv_bo {s t e : TypeId} {x : Operand} {v : Value} {xs : List Int} {et m : Nat} {cs : List Value} (hs : P.underlying s = some (.slice e)) (ht : P.underlying t = some .string) (he : P.underlying e = some (.int .u8)) (hcs : Reps (tyInt .u8) R cs xs) (hm : m = xs.length) (hS : St M w0 w R O) (hmem : Own.row et 1 v m cs ∈ O) (hK : Kn n a L) (hx : ev L x = some v) : Runs P w a ⟨d, .convert s t x, ty', pos, af, g⟩ (.string (bstr xs)) := by
  have := reps_u8 hcs
  subst this; subst hm
  rcases row_cells hS hmem with ⟨h1, h2, _⟩ | ⟨b, c, h1, h2, _, h3⟩
  · have : xs = [] := List.eq_nil_of_length_eq_zero h2
    subst this
    exact r_conv_cells (xs := []) hs ht he h1 (fun h => absurd rfl h) hK hx
  · exact r_conv_cells hs ht he h1 (fun _ => ⟨b, 0, rfl, fun j u hu => by rw [Nat.zero_add]; exact h3 j u hu⟩) hK hx
theorem r_len_O {x : Operand} {t e et size m : TypeId} {v : Value} {cs : List Value} (hu : P.underlying t = some (.slice e)) (hS : St M w0 w R O) (hmem : Own.row et size v m cs ∈ O) (hK : Kn n a L) (hx : ev L x = some v) : Runs P w a ⟨d, .call { callee := .builtin .len, args := #[x], argTypes := #[t] }, ty', pos, af, g⟩ (.int .i64 (m : Int)) := by
  have hown : w.ownsRow 0 et size v m cs := hS.own _ hmem
  obtain ⟨ad, c, h1, _⟩ := ownsRow_cap hown
  exact r_len_sl hu hK (by rw [hx, h1])
theorem St.row_ix {e size m : Nat} {v : Value} {cs : List Value} {xs : List α} {i : Int} {x : α} (hS : St M w0 w R O) (hmem : Own.row e size v m cs ∈ O) (hcs : Reps ty R cs xs) (hm : m = xs.length) (hty : ty.n = size) (hx : ix xs i = some x) :
    ∃ b c c1, v = .slice (some ⟨b, 0, none⟩) m c ∧ ty.rep R c1 x ∧ (∀ j u, c1[j]? = some u → cs[i.toNat * size + j]? = some u) ∧ 0 ≤ i ∧ i < (m : Int) := by
  subst hm; subst hty
  obtain ⟨h0, h1, h2⟩ := ix_some hx
  obtain ⟨c1, h3, h4⟩ := hcs.get h2
  rcases row_cells hS hmem with ⟨_, h6, _⟩ | ⟨b, c, h5, _, _, _⟩
  · omega
  · exact ⟨b, c, c1, h5, h3, h4, h0, h1⟩
theorem St.row_cell {e size m b c : Nat} {v u : Value} {cs : List Value} {k : Nat} (hS : St M w0 w R O) (hmem : Own.row e size v m cs ∈ O) (hv : v = .slice (some ⟨b, 0, none⟩) m c) (hu : cs[k]? = some u) : w.cell? ⟨b, 0 + k, none⟩ = some u := by
  rcases row_cells hS hmem with ⟨h1, _, _⟩ | ⟨b', c', h5, _, _, h6⟩
  · rw [hv] at h1; simp at h1
  · rw [hv] at h5
    simp only [Value.slice.injEq, Option.some.injEq, Addr.mk.injEq, and_true, true_and] at h5
    obtain ⟨rfl, rfl⟩ := h5
    rw [Nat.zero_add]; exact h6 k u hu
theorem Reps.set {cs : List Value} {xs : List α} {i : Nat} {x : α} {u : Value} (h : Reps ty R cs xs) (h1 : ty.n = 1) (hx : ty.rep R [u] x) : Reps ty R (cs.set i u) (xs.set i x) := by
  obtain ⟨css, h2, h3, h4, h5⟩ := h.all
  subst h2
  have key : ∀ (css : List (List Value)) (i : Nat), (∀ c ∈ css, c.length = 1) → css.flatten.set i u = (css.set i [u]).flatten := by
    intro css
    induction css with
    | nil => intro i _; simp
    | cons c r ih =>
      intro i hc
      obtain ⟨z, rfl⟩ : ∃ z, c = [z] := by
        have := hc c (by simp)
        match c, this with
        | [z], _ => exact ⟨z, rfl⟩
      cases i with
      | zero => simp
      | succ i => simp [← ih i (fun c hc' => hc c (by simp [hc']))]
  rw [key css i (fun c hc => by rw [(h4 c hc).1, h1])]
  refine ⟨css.set i [u], rfl, by simp [h3], fun j c y hc hy => ?_⟩
  rw [List.getElem?_set] at hc hy
  by_cases hij : i = j
  · subst hij
    by_cases hlt : i < css.length
    · simp only [if_true, hlt, h3 ▸ hlt] at hc hy
      cases hc; cases hy; exact hx
    · simp [hlt] at hc
  · rw [if_neg hij] at hc hy
    exact h5 j c y hc hy
theorem St.row_set {e m : Nat} {v : Value} {cs : List Value} {b c k : Nat} {u : Value} (hS : St M w0 w R (.row e 1 v m cs :: O)) (hv : v = .slice (some ⟨b, 0, none⟩) m c) : St M w0 (w.setCell ⟨b, k, none⟩ u) R (.row e 1 v m (cs.set k u) :: O) := by
  subst hv
  have hown : w.ownsRow 0 e 1 (.slice (some ⟨b, 0, none⟩) m c) m cs := hS.own (.row e 1 _ m cs) (List.mem_cons_self ..)
  obtain ⟨h1, h2⟩ := hown.stored k u
  exact hS.turn h2.os h2.tape h2.output h2.size (Nat.le_refl _) (fun j hj hne => h2.block j hj (fun e => hne (by rw [Own.blk, Value.ownBlock]; simpa using e.symm))) h1 (fun b' hb' => Or.inl hb')
def placesOf (P : Program) (t : TypeId) : Sem (Array (Nat × Nat)) := (match P.underlying t with | some (.struct fs) => fs | _ => (#[] : Array Field)).mapM fun (f : Field) => do pure (f.offset, ← sizeOf f.type)
theorem r_build {t : TypeId} {fs : Array Field} {parts : List (Nat × Operand)} {ps : List (Nat × Value)} {pl : Array (Nat × Nat)} {zv : Value} {zc c : List Value} (hu : P.underlying t = some (.struct fs)) (hZ : ∀ w, (zeroValue t).run P w = .ok zv w)
    (hpl : ∀ w, (placesOf P t).run P w = .ok pl w) (hK : Kn n a L) (hp : evps L parts = some ps) (hzc : zv.cells = zc.toArray) (hfl : fillL (pl[·]?) zc ps = some c) :
    Runs P w a ⟨d, .build t parts.toArray, ty', pos, af, g⟩ (.agg c.toArray) := by
  have e2 : (parts.toArray.map fun (i, x) => (i, a.eval x)).toList = ps := by rw [← hK.evps hp]; simp
  have hf : Instr.fill (pl[·]?) zv.cells ps = some c.toArray := by rw [hzc, fill_eq, hfl]; rfl
  simp only [placesOf, hu] at hpl
  simp only [Runs, execOp, Instr.build, Sem.run_bind, hZ, Result.andThen_ok, run_underlying hu, e2]
  rw [hpl w]
  simp [hf]
theorem r_buildA {t e z m : TypeId} {parts : List (Nat × Operand)} {ps : List (Nat × Value)} {zv : Value} {zc c : List Value} (hu : P.underlying t = some (.array m e)) (hZ : ∀ w, (zeroValue t).run P w = .ok zv w) (hz : ∀ w, (sizeOf e).run P w = .ok z w)
    (hK : Kn n a L) (hp : evps L parts = some ps) (hzc : zv.cells = zc.toArray) (hfl : fillL (fun i => some (i * z, z)) zc ps = some c) : Runs P w a ⟨d, .build t parts.toArray, ty', pos, af, g⟩ (.agg c.toArray) := by
  have e2 : (parts.toArray.map fun (i, x) => (i, a.eval x)).toList = ps := by rw [← hK.evps hp]; simp
  have hf : Instr.fill (fun i => some (i * z, z)) zv.cells ps = some c.toArray := by rw [hzc, fill_eq, hfl]; rfl
  simp only [Runs, execOp, Instr.build, Sem.run_bind, hZ, Result.andThen_ok, run_underlying hu, hz, e2]
  simp [hf]
theorem if_min (p q : Int) : (if q < p then q else p) = min p q := by
  by_cases h : q < p
  · rw [if_pos h, Int.min_eq_right (by omega)]
  · rw [if_neg h, Int.min_eq_left (by omega)]
theorem r_min2 {x y : Operand} {t1 t2 : TypeId} {k : IntKind} {p q : Int} (hK : Kn n a L) (hx : ev L x = some (.int k p)) (hy : ev L y = some (.int k q)) : Runs P w a ⟨d, .call { callee := .builtin .min, args := #[x, y], argTypes := #[t1, t2] }, ty', pos, af, g⟩ (.int k (min p q)) := by
  simp [Runs, execOp, resolve, invoke, builtin, hK.ev hx, hK.ev hy, Builtin.min_, Builtin.min2]
  exact if_min p q
end
structure Arr8 where
  (a0 a1 a2 a3 a4 a5 a6 a7 : Int)
  deriving DecidableEq
structure Arr2 where
  (a0 a1 : Int)
  deriving DecidableEq
def Arr8.list (h : Arr8) : List Int := [h.a0, h.a1, h.a2, h.a3, h.a4, h.a5, h.a6, h.a7]
def Arr2.list (h : Arr2) : List Int := [h.a0, h.a1]
def Arr8.of : List Int → Option Arr8
  | [a, b, c, d, e, f, g, h] => some ⟨a, b, c, d, e, f, g, h⟩
  | _ => none
def Arr2.of : List Int → Option Arr2
  | [a, b] => some ⟨a, b⟩
  | _ => none
def Arr8.ix (h : Arr8) (i : Int) : Option Int := Eng.ix h.list i
def Arr2.ix (h : Arr2) (i : Int) : Option Int := Eng.ix h.list i
def Arr8.put (h : Arr8) (i v : Int) : Option Arr8 := if 0 ≤ i then (if i < 8 then Arr8.of (h.list.set i.toNat v) else none) else none
def Arr2.put (h : Arr2) (i v : Int) : Option Arr2 := if 0 ≤ i then (if i < 2 then Arr2.of (h.list.set i.toNat v) else none) else none
def Arr8.cells (h : Arr8) : List Value := h.list.map (.int .i64 ·)
def Arr2.cells (h : Arr2) : List Value := h.list.map (.int .i64 ·)
def ty_Arr8 : Ty Arr8 := Ty.flat 8 Arr8.cells (fun _ => rfl) (fun _ => all_cons rfl (all_cons rfl (all_cons rfl (all_cons rfl (all_cons rfl (all_cons rfl (all_cons rfl (all_cons rfl all_nil))))))))
theorem ix_lt {α : Type} {xs : List α} {i : Int} {x : α} {m : Nat} (h : Eng.ix xs i = some x) (hm : xs.length = m) : 0 ≤ i ∧ i < (m : Int) := by
  obtain ⟨h0, h1, _⟩ := ix_some h
  exact ⟨h0, by omega⟩
theorem Arr8.ix_lt {h : Arr8} {i x : Int} (hx : h.ix i = some x) : 0 ≤ i ∧ i < ((8 : Nat) : Int) := Eng.ix_lt hx rfl
theorem Arr2.ix_lt {h : Arr2} {i x : Int} (hx : h.ix i = some x) : 0 ≤ i ∧ i < ((2 : Nat) : Int) := Eng.ix_lt hx rfl
theorem cells_ix {xs : List Int} {i x : Int} (h : Eng.ix xs i = some x) (pre post : List Value) {o : Nat} (ho : pre.length = o) : (pre ++ (xs.map (Value.int .i64 ·) ++ post))[o + i.toNat * 1]? = some (.int .i64 x) := by
  obtain ⟨h0, h1, h2⟩ := ix_some h
  subst ho
  rw [List.getElem?_append_right (by omega), Nat.mul_one, Nat.add_sub_cancel_left, List.getElem?_append_left (by rw [List.length_map]; omega), List.getElem?_map, h2]
  rfl
theorem Arr8.ix_cells {h : Arr8} {i x : Int} (hx : h.ix i = some x) (pre post : List Value) {o : Nat} (ho : pre.length = o) : (pre ++ (h.cells ++ post))[o + i.toNat * 1]? = some (.int .i64 x) := cells_ix hx pre post ho
theorem Arr2.ix_cells {h : Arr2} {i x : Int} (hx : h.ix i = some x) (pre post : List Value) {o : Nat} (ho : pre.length = o) : (pre ++ (h.cells ++ post))[o + i.toNat * 1]? = some (.int .i64 x) := cells_ix hx pre post ho
theorem Arr8.put_some {h y : Arr8} {i v : Int} (hy : h.put i v = some y) : 0 ≤ i ∧ i < 8 ∧ y.list = h.list.set i.toNat v := by
  unfold Arr8.put at hy
  split at hy
  · split at hy
    · rename_i h0 h1
      refine ⟨h0, h1, ?_⟩
      have hl : (h.list.set i.toNat v).length = 8 := by simp [Arr8.list]
      match hs : h.list.set i.toNat v, hl with
      | [a, b, c, d, e, f, g, k], _ => rw [hs] at hy; simp only [Arr8.of, Option.some.injEq] at hy; subst hy; rfl
    · cases hy
  · cases hy
theorem Arr2.put_some {h y : Arr2} {i v : Int} (hy : h.put i v = some y) : 0 ≤ i ∧ i < 2 ∧ y.list = h.list.set i.toNat v := by
  unfold Arr2.put at hy
  split at hy
  · split at hy
    · rename_i h0 h1
      refine ⟨h0, h1, ?_⟩
      have hl : (h.list.set i.toNat v).length = 2 := by simp [Arr2.list]
      match hs : h.list.set i.toNat v, hl with
      | [a, b], _ => rw [hs] at hy; simp only [Arr2.of, Option.some.injEq] at hy; subst hy; rfl
    · cases hy
  · cases hy
theorem cells_put {xs ys : List Int} {i v : Int} (h : ys = xs.set i.toNat v) (hl : i.toNat < xs.length) (pre post : List Value) {o : Nat} (ho : pre.length = o) : (pre ++ (xs.map (Value.int .i64 ·) ++ post)).set (o + i.toNat * 1) (.int .i64 v) = pre ++ (ys.map (Value.int .i64 ·) ++ post) := by
  subst ho; subst h
  rw [Nat.mul_one, List.set_append_right _ _ (by omega), Nat.add_sub_cancel_left, List.set_append_left _ _ (by rw [List.length_map]; omega), List.map_set]
theorem Arr8.put_cells {h y : Arr8} {i v : Int} (hy : h.put i v = some y) (pre post : List Value) {o : Nat} (ho : pre.length = o) : (pre ++ (h.cells ++ post)).set (o + i.toNat * 1) (.int .i64 v) = pre ++ (y.cells ++ post) := by
  obtain ⟨h0, h1, h2⟩ := Arr8.put_some hy
  exact cells_put h2 (by simp [Arr8.list]; omega) pre post ho
theorem Arr2.put_cells {h y : Arr2} {i v : Int} (hy : h.put i v = some y) (pre post : List Value) {o : Nat} (ho : pre.length = o) : (pre ++ (h.cells ++ post)).set (o + i.toNat * 1) (.int .i64 v) = pre ++ (y.cells ++ post) := by
  obtain ⟨h0, h1, h2⟩ := Arr2.put_some hy
  exact cells_put h2 (by simp [Arr2.list]; omega) pre post ho
theorem Arr8.put_lt {h y : Arr8} {i v : Int} (hy : h.put i v = some y) {o m : Nat} (hm : o + 8 ≤ m) : o + i.toNat * 1 < m := by
  obtain ⟨h0, h1, _⟩ := Arr8.put_some hy; omega
theorem Arr2.put_lt {h y : Arr2} {i v : Int} (hy : h.put i v = some y) {o m : Nat} (hm : o + 2 ≤ m) : o + i.toNat * 1 < m := by
  obtain ⟨h0, h1, _⟩ := Arr2.put_some hy; omega
end Go.Eng
end
section
namespace Go.Eng
open Go.RowKit
set_option linter.unusedVariables false
set_option linter.unusedSimpArgs false
section
variable {P : Program} {a : Act} {w : World} {n : Fr} {L : Sl}
variable {d : Option Tmp} {ty' : TypeId} {pos : String} {af : Array Edge} {g : Option (Nat × Bool)}
theorem SlR.nilcase {α : Type} {ty : Ty α} {R : Hp} {v : Value} {xs : List α} (h : SlR ty R v xs) : ((∃ c, v = .slice none 0 c) ∧ xs = []) ∨ ∃ ad m c, v = .slice (some ad) m c := by
  obtain ⟨ad, c, h1, h2, h3⟩ := h
  cases ad with
  | none =>
    have : xs = [] := by
      cases xs with
      | nil => rfl
      | cons x r => obtain ⟨b, o, h4, _⟩ := h3 (by simp); cases h4
    subst this
    exact Or.inl ⟨⟨c, h1⟩, rfl⟩
  | some ad => exact Or.inr ⟨ad, _, c, h1⟩
theorem eq_sl_nn {t e : TypeId} {m c m' c' : Nat} (hu : P.underlying t = some (.slice e)) (dd : Nat) : (Op.equalIn (dd + 1) t (.slice none m c) (.slice none m' c')).run P w = .ok true w := by
  simp [Op.equalIn, run_underlying hu]
theorem eq_sl_sn {t e : TypeId} {ad : Addr} {m c m' c' : Nat} (hu : P.underlying t = some (.slice e)) (dd : Nat) : (Op.equalIn (dd + 1) t (.slice (some ad) m c) (.slice none m' c')).run P w = .ok false w := by
  simp [Op.equalIn, run_underlying hu]
theorem eq_sl_nn' {t e : TypeId} {m c m' c' : Nat} (hu : P.underlying t = some (.slice e)) : (Op.equal t (.slice none m c) (.slice none m' c')).run P w = .ok true w := eq_sl_nn hu 9999
theorem eq_sl_sn' {t e : TypeId} {ad : Addr} {m c m' c' : Nat} (hu : P.underlying t = some (.slice e)) : (Op.equal t (.slice (some ad) m c) (.slice none m' c')).run P w = .ok false w := eq_sl_sn hu 9999
theorem r_sleqN {t t' e : TypeId} {x y : Operand} {v : Value} (hu : P.underlying t = some (.slice e)) (hn : ∃ c, v = .slice none 0 c) (hK : Kn n a L) (hx : ev L x = some v) (hy : ev L y = some (.slice none 0 0)) : Runs P w a ⟨d, .binOp .eql t x y t', ty', pos, af, g⟩ (.bool true) := by
  obtain ⟨c, rfl⟩ := hn
  simp [Runs, execOp, hK.ev hx, hK.ev hy, eqGuard, binOp, eq_sl_nn' hu]
theorem r_sleqS {t t' e : TypeId} {x y : Operand} {v : Value} {ad : Addr} {m c : Nat} (hu : P.underlying t = some (.slice e)) (hn : v = .slice (some ad) m c) (hK : Kn n a L) (hx : ev L x = some v) (hy : ev L y = some (.slice none 0 0)) : Runs P w a ⟨d, .binOp .eql t x y t', ty', pos, af, g⟩ (.bool false) := by
  subst hn
  simp [Runs, execOp, hK.ev hx, hK.ev hy, eqGuard, binOp, eq_sl_sn' hu]
def EqS (P : Program) (t : TypeId) (xs ys : Array Value) (b : Bool) : Prop := ∀ w, (Op.equalIn 10000 t (.agg xs) (.agg ys)).run P w = .ok b w
theorem r_seq {t t' : TypeId} {x y : Operand} {xs ys : Array Value} {b : Bool} (hm : P.eqGuardType P.depth t = false) (he : EqS P t xs ys b) (hK : Kn n a L) (hx : ev L x = some (.agg xs)) (hy : ev L y = some (.agg ys)) : Runs P w a ⟨d, .binOp .eql t x y t', ty', pos, af, g⟩ (.bool b) := by
  simp [Runs, execOp, hK.ev hx, hK.ev hy, run_eqGuard_agg w .eql t x y xs ys hm, run_eql_struct, he w]
theorem r_sne {t t' : TypeId} {x y : Operand} {xs ys : Array Value} {b : Bool} (hm : P.eqGuardType P.depth t = false) (he : EqS P t xs ys b) (hK : Kn n a L) (hx : ev L x = some (.agg xs)) (hy : ev L y = some (.agg ys)) : Runs P w a ⟨d, .binOp .neq t x y t', ty', pos, af, g⟩ (.bool (!b)) := by
  simp [Runs, execOp, hK.ev hx, hK.ev hy, run_eqGuard_agg w .neq t x y xs ys hm, run_neq_struct, he w]
theorem run_part1 {t : TypeId} {xs : Array Value} {o : Nat} {v : Value} (hA : ∀ w, (isAgg t).run P w = .ok false w) (hv : xs[o]? = some v) : (part t xs o).run P w = .ok v w := by
  simp [part, hA, hv]
theorem run_partA {t m : TypeId} {xs ys : Array Value} {o : Nat} (hA : ∀ w, (isAgg t).run P w = .ok true w) (hz : ∀ w, (sizeOf t).run P w = .ok m w) (hv : xs.extract o (o + m) = ys) : (part t xs o).run P w = .ok (.agg ys) w := by
  subst hv
  simp [part, hA, hz]
theorem eq_arr' {t e : TypeId} {k : IntKind} {m q : Nat} (hu : P.underlying t = some (.array m e)) (he : ∀ a b w, (Op.equalIn q e (.int k a) (.int k b)).run P w = .ok (a == b) w) (hA : ∀ w, (isAgg e).run P w = .ok false w) (hz : ∀ w, (sizeOf e).run P w = .ok 1 w) (xs ys : List Int) (hx : xs.length = m) (hy : ys.length = m) (w : World) :
    (Op.equalIn (q + 1) t (.agg (xs.map (Value.int k)).toArray) (.agg (ys.map (Value.int k)).toArray)).run P w = .ok (decide (xs = ys)) w := by
  simp only [Op.equalIn, Sem.run_bind, run_underlying hu, Result.andThen_ok, hz]
  rw [Std.Legacy.Range.forIn_eq_forIn_range']
  have key : ∀ (l : List Nat) (s : Nat), l = List.range' s (m - s) → s ≤ m → ∀ w : World, ((xs.take s) = (ys.take s)) →
      (forIn l ((none, ()) : Option Bool × Unit) (fun i r => do
        let a ← part e (xs.map (Value.int k)).toArray (i * 1)
        let b ← part e (ys.map (Value.int k)).toArray (i * 1)
        let c ← Op.equalIn q e a b
        if (!c) = true then pure (ForInStep.done (some false, ())) else do pure PUnit.unit; pure (ForInStep.yield (none, ()))) : Sem _).run P w = .ok (if xs = ys then (none, ()) else (some false, ())) w := by
    intro l
    induction l with
    | nil =>
      intro s hl hs w hp
      have : m - s = 0 := by
        have := congrArg List.length hl; simpa using this.symm
      have hs' : s = m := by omega
      subst hs'
      rw [List.take_of_length_le (by omega), List.take_of_length_le (by omega)] at hp
      simp [hp]
    | cons i r ih =>
      intro s hl hs w hp
      have hlen : m - s = (r.length + 1) := by have := congrArg List.length hl; simpa using this.symm
      rw [hlen, List.range'_succ] at hl
      injection hl with h1 h2
      subst h1
      have hi : i < m := by omega
      rw [List.forIn_cons]
      have e1 : (part e (xs.map (Value.int k)).toArray (i * 1)).run P w = .ok (.int k xs[i]) w := run_part1 hA (by simp [hx, hi])
      have e2 : (part e (ys.map (Value.int k)).toArray (i * 1)).run P w = .ok (.int k ys[i]) w := run_part1 hA (by simp [hy, hi])
      simp only [Sem.run_bind, e1, e2, Result.andThen_ok, he]
      by_cases hc : xs[i] = ys[i]
      · simp only [hc, beq_self_eq_true, Bool.not_true, Bool.false_eq_true, if_false, Sem.run_pure, Sem.run_bind, Result.andThen_ok]
        refine ih (i + 1) (by rw [h2]; congr 1; omega) (by omega) w ?_
        rw [List.take_succ_eq_append_getElem (by omega), List.take_succ_eq_append_getElem (by omega), hp, hc]
      · have hne : xs ≠ ys := fun e => hc (by subst e; rfl)
        have hb : (xs[i] == ys[i]) = false := by simpa using hc
        simp [hb, hne]
  have hk := key (List.range' 0 m) 0 (by simp) (Nat.zero_le _) w (by simp)
  simp only [Std.Legacy.Range.size, Nat.sub_zero, Nat.add_sub_cancel, Nat.div_one]
  rw [hk]
  by_cases h : xs = ys <;> simp [h]
theorem eqF_nil {q : Nat} {xs ys : Array Value} : (Op.eqFields q xs ys []).run P w = .ok true w := rfl
theorem eqF_cons {q : Nat} {xs ys : Array Value} {f : Field} {fs : List Field} {x y : Value} {r r' : Bool} (hn : f.name ≠ "_") (hx : (part f.type xs f.offset).run P w = .ok x w) (hy : (part f.type ys f.offset).run P w = .ok y w) (hr : (Op.equalIn q f.type x y).run P w = .ok r w) (hrest : (Op.eqFields q xs ys fs).run P w = .ok r' w) :
    (Op.eqFields q xs ys (f :: fs)).run P w = .ok (r && r') w := by
  rw [Op.eqFields, if_pos hn]
  simp only [Sem.run_bind, hx, hy, hr, Result.andThen_ok]
  cases r
  · simp
  · simpa using hrest
theorem eqS_of {t : TypeId} {xs ys : Array Value} {b b' : Bool} (hs : P.underlying t = some (.struct (P.fieldsOf t))) (hp : P.stoodInHeld t = false) (h : ∀ w, (Op.eqFields 9999 xs ys (P.fieldsOf t).toList).run P w = .ok b w) (hb : b = b') : EqS P t xs ys b' := fun w => by
  subst hb
  exact (run_equalIn_struct w 9999 t xs ys hs hp).trans (h w)
theorem Arr8.list_inj {x y : Arr8} : decide (x.list = y.list) = decide (x = y) := by
  cases x; cases y; simp [Arr8.list]
theorem Arr2.list_inj {x y : Arr2} : decide (x.list = y.list) = decide (x = y) := by
  cases x; cases y; simp [Arr2.list]
theorem beq_bytes (a b : ByteArray) : (a.toList == b.toList) = decide (a = b) := by
  rw [← beq_toListBytes]
  by_cases h : a = b
  · subst h; rw [beq_toListBytes]; simp
  · rw [beq_toListBytes]
    have : a.toList ≠ b.toList := by
      intro e
      apply h
      rw [ByteArray.toList_eq, ByteArray.toList_eq] at e
      obtain ⟨⟨x⟩⟩ := a
      obtain ⟨⟨y⟩⟩ := b
      simpa using e
    simp [h, this]
theorem r_index_arr {t e : TypeId} {m : Nat} {x y : Operand} {xs : Array Value} {k : IntKind} {i : Int} {v : Value} (hu : P.underlying t = some (.array m e)) (hA : ∀ w, (isAgg e).run P w = .ok false w) (hz : ∀ w, (sizeOf e).run P w = .ok 1 w) (h0 : 0 ≤ i) (h1 : i < (m : Int)) (hv : xs[i.toNat]? = some v)
    (hK : Kn n a L) (hx : ev L x = some (.agg xs)) (hy : ev L y = some (.int k i)) : Runs P w a ⟨d, .index t x y, ty', pos, af, g⟩ v := by
  have hp := run_part1 (P := P) (w := w) (t := e) (o := i.toNat * 1) hA (by rw [Nat.mul_one]; exact hv)
  rw [Nat.mul_one] at hp
  simp [Runs, execOp, Instr.index, hK.ev hx, hK.ev hy, asIntOf, run_underlying hu, h0, h1, hz, hp]
theorem Arr8.ix_agg {h : Arr8} {i y : Int} (hh : h.ix i = some y) : (h.list.map (Value.int .i64 ·)).toArray[i.toNat]? = some (.int .i64 y) := by
  obtain ⟨_, _, h2⟩ := ix_some hh
  simp [h2]
theorem Arr2.ix_agg {h : Arr2} {i y : Int} (hh : h.ix i = some y) : (h.list.map (Value.int .i64 ·)).toArray[i.toNat]? = some (.int .i64 y) := by
  obtain ⟨_, _, h2⟩ := ix_some hh
  simp [h2]
theorem r_ext {f : FuncId} {z : Operand} {xs : List Operand} {ts : Array TypeId} {vs : List Value} {v : Value} (hf : (callFunc f vs.toArray).run P w = .ok (.value v) w) (hK : Kn n a L) (hx : ev L z = some (.func (.func f) #[] #[])) (hv : evs L xs = some vs) :
    Runs P w a ⟨d, .call { callee := .value z, args := xs.toArray, argTypes := ts }, ty', pos, af, g⟩ v := by
  have e : (xs.toArray.map a.eval) = vs.toArray := by rw [← hK.evs hv]; simp
  simp [Runs, execOp, resolve, hK.ev hx, Deferred.ofValue, invoke, e, hf]
theorem r_slice_arr0 {t e m z : TypeId} {x : Operand} {b o : Nat} (hu : P.underlying t = some (.array m e)) (hz : ∀ w, (sizeOf e).run P w = .ok z w) (hK : Kn n a L) (hx : ev L x = some (.pointer (some ⟨b, o, none⟩))) :
    Runs P w a ⟨d, .slice t x none none none, ty', pos, af, g⟩ (.slice (some ⟨b, o, none⟩) m m) := by
  have hb : (Instr.sliceBounds false m m none none none).run P w = .ok (0, m, m) w := by simp [Instr.sliceBounds]
  simp only [Runs, execOp, hK.ev hx, Instr.sliceAt, Sem.run_bind, run_underlying hu, Result.andThen_ok, Option.map_none, hb, hz, Sem.run_pure, Instr.sureAddr, Nat.zero_mul, Nat.sub_zero, add_lit, Nat.add_zero, ite_self]
theorem flat_map {α β : Type} (f : α → β) : ∀ xs : List α, xs.map f = (xs.map fun x => [f x]).flatten
  | [] => rfl
  | x :: r => by simp [flat_map f r]
theorem St.lend_part {w0 : World} {M : List Own} {R : Hp} {O N : List Own} {b o cap : Nat} {c : List Value} {t : TypeId} {xs : List Int} (h : St M w0 w R (N ++ O)) (hmem : Own.cells b c t ∈ O) (hc : (c.drop o).take xs.length = xs.map (Value.int .i64 ·)) (hcap : xs.length ≤ cap) : SlR (tyInt .i64) (lentOf N w) (.slice (some ⟨b, o, none⟩) xs.length cap) xs := by
  refine SlR.of_cells (cs := xs.map (Value.int .i64 ·)) rfl hcap ⟨xs.map fun x => [Value.int .i64 x], flat_map _ xs, by simp, fun i c x hc hx => ?_⟩ fun j u hu => ?_
  · rw [List.getElem?_map, hx] at hc
    exact (Option.some.inj hc).symm
  · rw [← hc, List.getElem?_take] at hu
    split at hu
    · rw [List.getElem?_drop] at hu
      have := h.lend_box hmem (o + j) u hu
      rwa [Nat.zero_add] at this
    · cases hu
theorem St.lend_part0 {w0 : World} {M : List Own} {R : Hp} {O : List Own} {b o cap : Nat} {c : List Value} {t : TypeId} {xs : List Int} (h : St M w0 w R O) (hmem : Own.cells b c t ∈ O) (hc : (c.drop o).take xs.length = xs.map (Value.int .i64 ·)) (hcap : xs.length ≤ cap) : SlR (tyInt .i64) (lentOf [] w) (.slice (some ⟨b, o, none⟩) xs.length cap) xs := St.lend_part (N := []) h hmem hc hcap
def PC (ps : List (Nat × Value)) (pcs : List (Nat × List Value)) : Prop := ps.map (fun p => (p.1, p.2.cells.toList)) = pcs
theorem pc_nil : PC [] [] := rfl
theorem pc_cons {i : Nat} {v : Value} {l : List Value} {ps : List (Nat × Value)} {pcs : List (Nat × List Value)} (h : v.cells.toList = l) (hr : PC ps pcs) : PC ((i, v) :: ps) ((i, l) :: pcs) := by
  unfold PC at *
  simp [h, hr]
theorem cells1 {v : Value} (h : v.oneCell' = true) : v.cells.toList = [v] := by cases v <;> first | rfl | (simp [Value.oneCell'] at h)
def fillC (place : Nat → Option (Nat × Nat)) (cs : List Value) : List (Nat × List Value) → Option (List Value)
  | [] => some cs
  | (i, l) :: r => match place i with
    | none => none
    | some (off, size) => bif Nat.beq l.length size && Nat.ble (off + l.length) cs.length then fillC place (setAt cs off l) r else none
theorem fillL_C {place : Nat → Option (Nat × Nat)} : ∀ {ps : List (Nat × Value)} {pcs : List (Nat × List Value)} {cs c : List Value}, PC ps pcs → fillC place cs pcs = some c → fillL place cs ps = some c
  | [], pcs, cs, c, h, hf => by
    have : pcs = [] := h.symm
    subst this; exact hf
  | (i, v) :: ps, pcs, cs, c, h, hf => by
    have : pcs = (i, v.cells.toList) :: ps.map (fun p => (p.1, p.2.cells.toList)) := h.symm
    subst this
    simp only [fillC] at hf
    simp only [fillL]
    cases hp : place i with
    | none => simp [hp] at hf
    | some q =>
      obtain ⟨off, size⟩ := q
      simp only [hp] at hf ⊢
      cases hb : (Nat.beq v.cells.toList.length size && Nat.ble (off + v.cells.toList.length) cs.length) with
      | false => rw [hb] at hf; cases hf
      | true => rw [hb] at hf; exact fillL_C (ps := ps) rfl hf
section
variable {ops : Array Oper} {Q : Exit → Act → World → Prop} {w0 : World} {M : List Own} {R : Hp} {O : List Own} {rest : List Oper}
theorem r_buildC {t : TypeId} {fs : Array Field} {parts : List (Nat × Operand)} {ps : List (Nat × Value)} {pcs : List (Nat × List Value)} {pl : Array (Nat × Nat)} {zv : Value} {zc c : List Value} (hu : P.underlying t = some (.struct fs)) (hZ : ∀ w, (zeroValue t).run P w = .ok zv w)
    (hpl : ∀ w, (placesOf P t).run P w = .ok pl w) (hK : Kn n a L) (hp : evps L parts = some ps) (hpc : PC ps pcs) (hzc : zv.cells = zc.toArray) (hfl : fillC (pl[·]?) zc pcs = some c) :
    Runs P w a ⟨d, .build t parts.toArray, ty', pos, af, g⟩ (.agg c.toArray) := r_build hu hZ hpl hK hp hzc (fillL_C hpc hfl)
theorem r_buildAC {t e z m : TypeId} {parts : List (Nat × Operand)} {ps : List (Nat × Value)} {pcs : List (Nat × List Value)} {zv : Value} {zc c : List Value} (hu : P.underlying t = some (.array m e)) (hZ : ∀ w, (zeroValue t).run P w = .ok zv w) (hz : ∀ w, (sizeOf e).run P w = .ok z w)
    (hK : Kn n a L) (hp : evps L parts = some ps) (hpc : PC ps pcs) (hzc : zv.cells = zc.toArray) (hfl : fillC (fun i => some (i * z, z)) zc pcs = some c) : Runs P w a ⟨d, .build t parts.toArray, ty', pos, af, g⟩ (.agg c.toArray) := r_buildA hu hZ hz hK hp hzc (fillL_C hpc hfl)
theorem sl_buildSliceC {d : Nat} {ty : TypeId} {t e : TypeId} {m z : Nat} {parts : List (Nat × Operand)} {ps : List (Nat × Value)} {pcs : List (Nat × List Value)} {zv : Value} {zc c : List Value} (hu : P.underlying t = some (.slice e)) (hz : ∀ w, (sizeOf e).run P w = .ok z w) (hZ : ∀ w, (zeroValue e).run P w = .ok zv w)
    (hp : evps L parts = some ps) (hpc : PC ps pcs) (hsm : Nat.ble (m * z) (2 ^ 24) = true) (hzc : zv.cells = zc.toArray) (hzl : 0 < zc.length) {zs : List Value} (hzs : zerosL zc (m * z) = zs) (hfill : fillC (fun i => some (i * z, z)) zs pcs = some c)
    (hS : St M w0 w R O) (hK : Kn n a L) (hd : d < n.n) (hw : wantedL ops L ⟨some d, .buildSlice t m parts.toArray, ty, pos, af, g⟩ = some true)
    (h : ∀ a w b, St M w0 w R (.cells b c e :: O) → Kn n a ((d, .slice (some ⟨b, 0, none⟩) m m) :: L) → wpList P ops Q rest a w) : wpList P ops Q (⟨some d, .buildSlice t m parts.toArray, ty, pos, af, g⟩ :: rest) a w :=
  sl_buildSlice hu hz hZ hp hsm hzc hzl (fillL_C hpc (hzs ▸ hfill)) hS hK hd hw h
theorem setAt_eq : ∀ (vs cs : List Value) (off : Nat), off + vs.length ≤ cs.length → setAt cs off vs = cs.take off ++ (vs ++ cs.drop (off + vs.length))
  | [], cs, off, _ => by simp [setAt]
  | v :: r, cs, off, h => by
    simp only [List.length_cons] at h
    rw [setAt, setAt_eq r _ _ (by rw [List.length_set]; omega)]
    have h1 : off < cs.length := by omega
    have e1 : (cs.set off v).take (off + 1) = cs.take off ++ [v] := by
      rw [List.take_succ_eq_append_getElem (by rw [List.length_set]; exact h1), List.getElem_set_self, List.take_set_of_le (Nat.le_refl _)]
    have e2 : (cs.set off v).drop (off + 1 + r.length) = cs.drop (off + (v :: r).length) := by
      rw [List.drop_set_of_lt (by omega)]
      congr 1; simp only [List.length_cons]; omega
    rw [e1, e2]
    simp
def idxL : Nat → List (List Value) → List (Nat × List Value)
  | _, [] => []
  | k, l :: r => (k, l) :: idxL (k + 1) r
theorem fill_seq {z : Nat} : ∀ (ls : List (List Value)) (k : Nat) (pre zs : List Value), pre.length = k * z → zs.length = ls.length * z → (∀ l ∈ ls, l.length = z) → fillC (fun i => some (i * z, z)) (pre ++ zs) (idxL k ls) = some (pre ++ ls.flatten)
  | [], k, pre, zs, h1, h2, h3 => by
    have : zs = [] := List.eq_nil_of_length_eq_zero (by simpa using h2)
    subst this; simp [idxL, fillC]
  | l :: r, k, pre, zs, h1, h2, h3 => by
    have hl := h3 l (by simp)
    have hz : zs.length = z + r.length * z := by rw [h2, List.length_cons, Nat.add_mul]; omega
    have hb : (Nat.beq l.length z && Nat.ble (k * z + l.length) (pre ++ zs).length) = true := by
      rw [hl, Nat.beq_refl, Bool.true_and]
      exact Nat.ble_eq_true_of_le (by rw [List.length_append]; omega)
    simp only [idxL, fillC, hb, cond_true]
    rw [setAt_eq l _ _ (by rw [List.length_append]; omega), ← h1, List.take_left, hl, List.drop_append, List.drop_of_length_le (by omega), List.nil_append, show pre.length + z - pre.length = z by omega]
    have := fill_seq r (k + 1) (pre ++ l) (zs.drop z) (by rw [List.length_append, h1, hl, Nat.add_mul]; omega) (by rw [List.length_drop]; omega) (fun x hx => h3 x (by simp [hx]))
    rw [List.append_assoc] at this
    rw [this]
    simp
theorem zerosL_len (zc : List Value) (k : Nat) : (zerosL zc k).length = k := by simp [zerosL]
theorem sl_buildSliceF {d : Nat} {ty : TypeId} {t e : TypeId} {m z : Nat} {parts : List (Nat × Operand)} {ps : List (Nat × Value)} {zv : Value} {zc c : List Value} (ls : List (List Value)) (hu : P.underlying t = some (.slice e)) (hz : ∀ w, (sizeOf e).run P w = .ok z w) (hZ : ∀ w, (zeroValue e).run P w = .ok zv w)
    (hp : evps L parts = some ps) (hpc : PC ps (idxL 0 ls)) (hsm : Nat.ble (m * z) (2 ^ 24) = true) (hzc : zv.cells = zc.toArray) (hzl : 0 < zc.length) (hm : ls.length = m) (hls : ∀ l ∈ ls, l.length = z) (hc : ls.flatten = c)
    (hS : St M w0 w R O) (hK : Kn n a L) (hd : d < n.n) (hw : wantedL ops L ⟨some d, .buildSlice t m parts.toArray, ty, pos, af, g⟩ = some true)
    (h : ∀ a w b, St M w0 w R (.cells b c e :: O) → Kn n a ((d, .slice (some ⟨b, 0, none⟩) m m) :: L) → wpList P ops Q rest a w) : wpList P ops Q (⟨some d, .buildSlice t m parts.toArray, ty, pos, af, g⟩ :: rest) a w :=
  sl_buildSlice hu hz hZ hp hsm hzc hzl (fillL_C hpc (by
    have := fill_seq ls 0 [] (zerosL zc (m * z)) (by simp) (by rw [zerosL_len, hm]) hls
    rw [List.nil_append, List.nil_append, hc] at this
    exact this)) hS hK hd hw h
end
end
end Go.Eng
end
section
namespace Go.Eng
open Go.RowKit
set_option linter.unusedVariables false
set_option linter.unusedSimpArgs false
section
variable {α : Type} {ty : Ty α}
variable {P : Program} {ops : Array Oper} {Q : Exit → Act → World → Prop} {a : Act} {w0 w : World} {M : List Own} {R : Hp} {O : List Own} {rest : List Oper} {n : Fr} {L : Sl}
variable {d : Option Tmp} {ty' : TypeId} {pos : String} {af : Array Edge} {g : Option (Nat × Bool)}
def ins {α : Type} (B : Nat) (xs : List α) (i : Int) (ys : List α) : Option (List α) := if 0 ≤ i then (if i ≤ (xs.length : Int) then (if (xs.length + ys.length) * B ≤ 140737488355328 then some (xs.take i.toNat ++ (ys ++ xs.drop i.toNat)) else none) else none) else none
theorem Reps.split {R : Hp} {cs : List Value} {xs : List α} (h : Reps ty R cs xs) (k : Nat) : Reps ty R (cs.take (k * ty.n)) (xs.take k) ∧ Reps ty R (cs.drop (k * ty.n)) (xs.drop k) := by
  obtain ⟨css, h1, h2, h3, h4⟩ := h.all
  subst h1
  have key : ∀ (css : List (List Value)) (k : Nat), (∀ c ∈ css, c.length = ty.n) → css.flatten.take (k * ty.n) = (css.take k).flatten ∧ css.flatten.drop (k * ty.n) = (css.drop k).flatten := by
    intro css
    induction css with
    | nil => intro k _; simp
    | cons c r ih =>
      intro k hc
      have hcl := hc c (by simp)
      cases k with
      | zero => simp
      | succ k =>
        obtain ⟨i1, i2⟩ := ih k (fun d hd => hc d (by simp [hd]))
        have e : (k + 1) * ty.n = c.length + k * ty.n := by rw [hcl, Nat.add_mul]; omega
        rw [List.flatten_cons, e, List.take_length_add_append, List.drop_length_add_append, i1, i2]
        simp
  obtain ⟨e1, e2⟩ := key css k (fun c hc => (h3 c hc).1)
  rw [e1, e2]
  refine ⟨⟨css.take k, rfl, by simp [h2], fun i c x hc hx => ?_⟩, ⟨css.drop k, rfl, by simp [h2], fun i c x hc hx => ?_⟩⟩
  · rw [List.getElem?_take] at hc hx
    split at hc
    · rename_i hi; rw [if_pos hi] at hx; exact h4 i c x hc hx
    · cases hc
  · rw [List.getElem?_drop] at hc hx
    exact h4 _ c x hc hx
end
end Go.Eng
end
section
namespace Go.Eng
open Go.RowKit Go.Sort Go.Shelf Go.Lib Go.Proofs
set_option linter.unusedVariables false
set_option linter.unusedSimpArgs false
section
variable {α : Type}
def ltc (c : α → α → Option Int) (x y : α) : Bool := match c x y with
  | some i => decide (i < 0)
  | none => false
structure SortOk (c : α → α → Option Int) (xs : List α) : Prop where
  isSome : ∀ x ∈ xs, ∀ y ∈ xs, (c x y).isSome = true
  irrefl : ∀ x ∈ xs, ltc c x x = false
  trans : ∀ x ∈ xs, ∀ y ∈ xs, ∀ z ∈ xs, ltc c x y = true → ltc c y z = true → ltc c x z = true
  ntrans : ∀ x ∈ xs, ∀ y ∈ xs, ∀ z ∈ xs, ltc c x y = false → ltc c y z = false → ltc c x z = false
  anti : ∀ x ∈ xs, ∀ y ∈ xs, ltc c x y = false → ltc c y x = false → x = y
open Classical in
noncomputable def sortBy (c : α → α → Option Int) (xs : List α) : Option (List α) := if SortOk c xs ∧ xs.length < 4611686018427387904 then some (xs.mergeSort fun x y => !ltc c y x) else none
theorem sortBy_some {c : α → α → Option Int} {xs r : List α} (h : sortBy c xs = some r) : SortOk c xs ∧ xs.length < 4611686018427387904 ∧ r = xs.mergeSort fun x y => !ltc c y x := by
  unfold sortBy at h
  split at h
  · rename_i h0; exact ⟨h0.1, h0.2, (Option.some.inj h).symm⟩
  · cases h
theorem sortBy_of {c : α → α → Option Int} {xs : List α} (h : SortOk c xs) (hl : xs.length < 4611686018427387904) : sortBy c xs = some (xs.mergeSort fun x y => !ltc c y x) := by
  unfold sortBy; rw [if_pos ⟨h, hl⟩]
end
theorem World.eq_grow {W w' : World} (h : Bel [] W w') : ∃ q os', w' = grow (W.drewN q) os' := by
  refine ⟨w'.drawn - W.drawn, w'.heap.extract W.heap.size w'.heap.size, ?_⟩
  obtain ⟨h1, h2, h3, h4, h5, h6⟩ := h
  have h5 : W.drawn ≤ w'.drawn := h5
  have hh : w'.heap = W.heap ++ w'.heap.extract W.heap.size w'.heap.size := by
    apply Array.ext_getElem?
    intro k
    rw [Array.getElem?_append]
    split
    · rename_i hk; exact h6 k hk blks_nil
    · rename_i hk
      rw [Array.getElem?_extract]
      split
      · congr 1; omega
      · rw [Array.getElem?_eq_none (by omega)]
  have hd : w'.drawn = W.drawn + (w'.drawn - W.drawn) := by omega
  cases w' with
  | mk heap tape drawn os output =>
    simp only [grow, World.drewN] at *
    subst h1; subst h2; subst h3
    congr 1
section
variable {α : Type} {ty : Ty α} {P : Program} {ρ : Ren}
theorem pairs_of {R : Hp} (h1 : ty.n = 1) (L : List α) : ∀ (cs : List Value) (xs : List α), Reps ty R cs xs → (∀ x ∈ xs, x ∈ L) → ∃ dl : List { p : Value × α // ty.rep R [p.1] p.2 ∧ p.2 ∈ L }, dl.map (·.1.1) = cs ∧ dl.map (·.1.2) = xs := by
  intro cs xs h hL
  obtain ⟨css, e, hl, hall, hrep⟩ := h.all
  subst e
  clear h
  induction css generalizing xs with
  | nil =>
    have : xs = [] := List.eq_nil_of_length_eq_zero (by simpa using hl.symm)
    subst this
    exact ⟨[], rfl, rfl⟩
  | cons c css ih =>
    cases xs with
    | nil => simp at hl
    | cons x xs =>
      obtain ⟨u, rfl⟩ : ∃ u, c = [u] := by
        have := (hall c (by simp)).1
        rw [h1] at this
        match c, this with
        | [u], _ => exact ⟨u, rfl⟩
      obtain ⟨dl, e1, e2⟩ := ih xs (fun x hx => hL x (by simp [hx])) (by simpa using hl) (fun c hc => hall c (by simp [hc])) (fun i c x hc hx => hrep (i + 1) c x (by simpa using hc) (by simpa using hx))
      exact ⟨⟨(u, x), hrep 0 [u] x rfl rfl, hL x (by simp)⟩ :: dl, by simp [e1], by simp [e2]⟩
theorem reps_pairs {R : Hp} (L : List α) (dl : List { p : Value × α // ty.rep R [p.1] p.2 ∧ p.2 ∈ L }) : Reps ty R (dl.map (·.1.1)) (dl.map (·.1.2)) := by
  induction dl with
  | nil => exact Reps.nil _ _
  | cons d r ih => exact Reps.cons d.2.1 ih
theorem sort_calls (L : SlLaysF.n6 P ρ) {c : α → α → Option Int} {g : Nat} {cb : Array Value} {w0 : World} {M : List Own} {R : Hp} {v : Value} {e : Nat} {cs : List Value} {xs r : List α} (h1 : ty.n = 1) (eg : ∀ args w, (callFunc g args).run P w = .ok (.enter g args) w)
    (hS0 : St M w0 w0 R [.row e 1 v xs.length cs]) (h0 : Reps ty R cs xs)
    (hc : ∀ w, (lentOf [.row e 1 v xs.length cs] w0).sub w → ∀ u1 u2 x y i, ty.rep (lentOf [.row e 1 v xs.length cs] w0) [u1] x → ty.rep (lentOf [.row e 1 v xs.length cs] w0) [u2] y → c x y = some i → CallsV P g (#[u1, u2] ++ cb) w (.int .i64 i))
    (H : sortBy c xs = some r) :
    Calls P (ρ.f 6) #[v, .func (.func g) #[] cb] w0 (Rets fun u w' => ∃ (R' : Hp) (cs' : List Value), u = .tuple #[] ∧ St M w0 w' R' [.row e 1 v r.length cs'] ∧ RLe M w0 R R' ∧ Reps ty R' cs' r ∧ cs'.Perm cs) := by
  obtain ⟨hok, hlen, hr⟩ := sortBy_some H
  have hown : w0.ownsRow 0 e 1 v xs.length cs := hS0.own (.row e 1 v xs.length cs) (List.mem_cons_self ..)
  rcases hown.2 with ⟨hv, hn⟩ | ⟨b, cap, cur, hv, hbg, hheap, hnc, hcm, hcz, htake⟩
  · have hx : xs = [] := List.eq_nil_of_length_eq_zero hn
    subst hx
    subst hr
    have hcs : cs = [] := List.eq_nil_of_length_eq_zero (by rw [hown.1]; simp)
    subst hcs; subst hv
    have h := AnyF.slices_SortFunc_none (P := P) (ρ := ρ) { L with } none 0 (.func (.func g) #[] cb) w0
    refine h.mono ?_
    rintro e' w' ⟨rfl, rfl⟩
    exact ⟨_, rfl, R, [], rfl, by simpa using hS0, RLe.refl _ _, by simpa using h0, List.Perm.refl _⟩
  · by_cases hx0 : xs = []
    · subst hx0
      subst hr
      have hcs : cs = [] := List.eq_nil_of_length_eq_zero (by rw [hown.1]; simp)
      subst hcs; subst hv
      have h := AnyF.slices_SortFunc_none (P := P) (ρ := ρ) { L with } (some ⟨b, 0, none⟩) cap (.func (.func g) #[] cb) w0
      refine h.mono ?_
      rintro e' w' ⟨rfl, rfl⟩
      exact ⟨_, rfl, R, [], rfl, by simpa using hS0, RLe.refl _ _, by simpa using h0, List.Perm.refl _⟩
    · obtain ⟨X, hX⟩ : ∃ X : List α, ∀ x, x ∈ X ↔ x ∈ xs := ⟨xs, fun _ => Iff.rfl⟩
      have hok : SortOk c X := ⟨fun x hx y hy => hok.isSome x ((hX x).1 hx) y ((hX y).1 hy), fun x hx => hok.irrefl x ((hX x).1 hx), fun x hx y hy z hz => hok.trans x ((hX x).1 hx) y ((hX y).1 hy) z ((hX z).1 hz), fun x hx y hy z hz => hok.ntrans x ((hX x).1 hx) y ((hX y).1 hy) z ((hX z).1 hz), fun x hx y hy => hok.anti x ((hX x).1 hx) y ((hX y).1 hy)⟩
      obtain ⟨dl, hd1, hd2⟩ := pairs_of h1 X cs xs h0 (fun x h => (hX x).2 h)
      have hne : dl ≠ [] := by rintro rfl; exact hx0 (by simpa using hd2.symm)
      let A := { p : Value × α // ty.rep R [p.1] p.2 ∧ p.2 ∈ X }
      letI : Inhabited A := ⟨dl.head hne⟩
      let enc : A → Value := fun p => p.1.1
      let cf : A → A → Int := fun p q => (c p.1.2 q.1.2).getD 0
      have hlt : ∀ p q : A, ltOf cf p q = ltc c p.1.2 q.1.2 := fun p q => by
        have := hok.isSome _ p.2.2 _ q.2.2
        unfold ltOf ltc
        show decide ((c p.1.2 q.1.2).getD 0 < 0) = _
        cases hcc : c p.1.2 q.1.2 with
        | none => rw [hcc] at this; cases this
        | some i => rfl
      have hO : SWO (ltOf cf) := ⟨fun p => by rw [hlt]; exact hok.irrefl _ p.2.2, fun p q s h1 h2 => by rw [hlt] at *; exact hok.trans _ p.2.2 _ q.2.2 _ s.2.2 h1 h2,
        fun p q s h1 h2 => by rw [hlt] at *; exact hok.ntrans _ p.2.2 _ q.2.2 _ s.2.2 h1 h2⟩
      have h1c : OneCell enc := fun p => ty.one p.2.1 p.1.1 (by simp)
      have hdl : dl.length = xs.length := by rw [← hd2, List.length_map]
      have hcsl : cs.length = xs.length := by rw [← hd1, List.length_map, hdl]
      have hblk : b < w0.heap.size := (Array.getElem?_eq_some_iff.1 hheap).1
      have hcurlen : xs.length ≤ cur.size := by rw [hcz]; omega
      have hH : Holds enc w0 b 0 dl.toArray := fun j hj => by
        have hj' : j < dl.length := by simpa using hj
        have hcell : cs[j]? = some (enc dl[j]) := by rw [← hd1, List.getElem?_map, List.getElem?_eq_getElem hj']; rfl
        refine ⟨?_, ?_⟩
        · rw [getElem!_pos dl.toArray j hj]
          subst hv
          have := hown.cells (g := b) rfl j _ hcell
          rwa [add_lit] at this
        · simp [World.frozen?, hheap]
      have hN : ∀ {k o}, lentOf [.row e 1 v xs.length cs] w0 k = some o → k ≠ b ∧ w0.heap[k]? = some o := fun {k o} hk => by
        have h2 := lentOf_sub _ _ k o hk
        refine ⟨?_, h2⟩
        rintro rfl
        rw [lentOf_not k ⟨_, List.mem_cons_self .., by rw [hv]; rfl⟩] at hk
        cases hk
      have hRle : R.le (lentOf [.row e 1 v xs.length cs] w0) := hS0.rLe (N := [.row e 1 v xs.length cs]) (O := [])
      have hheapW : ∀ (m : Nat) (os : Array Obj) (dk : Array A) (k : Nat), k < w0.heap.size → k ≠ b → (sortWorld enc w0 b 0 m dk os).heap[k]? = w0.heap[k]? := fun m os dk k hk hkb => by
        unfold sortWorld
        rw [heap_grow_old _ _ (by simpa using hk)]
        simp only [putRow, mapBlock, Array.getElem?_modify]
        rw [if_neg (Ne.symm hkb)]
        rfl
      have hcmp : CmpLays1 P g cb enc cf b 0 dl.toArray.size w0 := fun m os dk hs p q => by
        have hsub : (lentOf [.row e 1 v xs.length cs] w0).sub (sortWorld enc w0 b 0 m dk os) := fun k o hk => by
          obtain ⟨h2, h3⟩ := hN hk
          rw [hheapW m os dk k (Array.getElem?_eq_some_iff.1 h3).1 h2]
          exact h3
        have hi := hok.isSome _ p.2.2 _ q.2.2
        obtain ⟨i, hi⟩ := Option.isSome_iff_exists.1 hi
        have := hc _ hsub p.1.1 q.1.1 p.1.2 q.1.2 i (ty.mono hRle p.2.1) (ty.mono hRle q.2.1) hi
        refine this.mono fun e' w' ⟨he, hb⟩ => ⟨?_, World.eq_grow hb⟩
        rw [he]
        show _ = Ending.returned (.int .i64 ((c p.1.2 q.1.2).getD 0))
        rw [hi]; rfl
      have key := Any.slices_SortFunc L enc h1c cf hO g cb b 0 cap dl.toArray w0 eg hcmp hH hblk (by simpa [hdl] using hlen)
      have hsz : dl.toArray.size = xs.length := by simpa using hdl
      rw [hsz] at key
      subst hv
      refine key.mono ?_
      rintro e' w' ⟨rfl, d', n, os, hp, hs, rfl⟩
     
      have hperm : (d'.toList.map (·.1.2)).Perm xs := by
        have h2 := hp.2.2
        have hs2 := hp.1
        rw [← hsz] at h2
        have e1 : d'.extract 0 dl.toArray.size = d' := by rw [← hs2]; exact Array.extract_size
        rw [e1, Array.extract_size] at h2
        have h3 := h2.map (fun p : A => p.1.2)
        rw [← hd2]
        exact h3
      have hpermC : (d'.toList.map (·.1.1)).Perm cs := by
        have h2 := hp.2.2
        have hs2 := hp.1
        rw [← hsz] at h2
        have e1 : d'.extract 0 dl.toArray.size = d' := by rw [← hs2]; exact Array.extract_size
        rw [e1, Array.extract_size] at h2
        have h3 := h2.map (fun p : A => p.1.1)
        rw [← hd1]
        exact h3
      have hd' : d'.toList.map (·.1.2) = r := by
        subst hr
        refine List.Perm.eq_of_pairwise (le := fun x y => (!ltc c y x) = true) ?_ ?_ ?_ (hperm.trans (List.mergeSort_perm _ _).symm)
        · intro x y hx hy h2 h3
          simp only [Bool.not_eq_true'] at h2 h3
          exact hok.anti x ((hX x).2 (hperm.mem_iff.1 hx)) y ((hX y).2 ((List.mergeSort_perm _ _).mem_iff.1 hy)) h3 h2
        · rw [List.pairwise_map, List.pairwise_iff_getElem]
          intro i j hi hj hij
          have hi' : i < d'.size := by simpa using hi
          have hj' : j < d'.size := by simpa using hj
          have := hs i j (Nat.zero_le _) hij (by rw [← hsz, ← hp.1]; exact hj')
          rw [getElem!_pos d' j hj', getElem!_pos d' i hi', hlt] at this
          simpa using this
        · have hkey : (xs.mergeSort fun x y => !ltc c y x) = (dl.mergeSort fun x y => !ltOf cf y x).map (·.1.2) := by
            rw [← hd2]
            exact (List.map_mergeSort (r := fun p q : A => !ltOf cf q p) (s := fun x y => !ltc c y x) (f := fun p : A => p.1.2) (l := dl) (fun p _ q _ => by rw [hlt])).symm
          rw [hkey, List.pairwise_map]
          refine (List.pairwise_mergeSort (le := fun x y : A => !ltOf cf y x) ?_ ?_ dl).imp ?_
          · intro x y z h2 h3
            simp only [Bool.not_eq_true'] at h2 h3 ⊢
            exact hO.ntrans z y x h3 h2
          · intro x y
            cases h : ltOf cf y x with
            | false => simp
            | true =>
              have : ltOf cf x y = false := by
                cases h4 : ltOf cf x y with
                | false => rfl
                | true => have := hO.trans y x y h h4; rw [hO.irrefl] at this; cases this
              simp [this]
          · intro p q h2
            rw [hlt] at h2; exact h2
      have hrl : r.length = xs.length := by rw [hr, List.length_mergeSort]
      have hdsz : d'.size = xs.length := by rw [hp.1]; exact hsz
      refine ⟨_, rfl, R, d'.toList.map (·.1.1), rfl, ?_, RLe.refl _ _, by rw [← hd']; exact reps_pairs X d'.toList, hpermC⟩
      rw [hrl]
      have hsize : w0.heap.size ≤ (sortWorld enc w0 b 0 n d' os).heap.size := by
        unfold sortWorld; rw [size_grow, Go.Sort.size_putRow]; show w0.heap.size ≤ w0.heap.size + _; omega
      refine hS0.turn rfl rfl rfl hsize (by show w0.drawn ≤ w0.drawn + n; omega) (fun k hk hkb => hheapW n os d' k hk (fun e => hkb (by subst e; rfl))) ?_ (fun b' hb' => Or.inl hb')
      refine ⟨by simp [hdsz], Or.inr ⟨b, cap, putCells enc 0 d' cur, rfl, Nat.zero_le _, ?_, hnc, hcm, by simp [putCells, hcz], ?_⟩⟩
      · unfold sortWorld
        rw [heap_grow_old _ _ (by simpa using hblk)]
        simp only [putRow, mapBlock, Array.getElem?_modify, if_true]
        show Option.map _ (w0.heap[b]?) = _
        rw [hheap]
        rfl
      · apply List.ext_getElem?
        intro k
        rw [List.getElem?_take, Nat.mul_one, List.getElem?_map]
        split
        · rename_i hk
          have hk1 : k < cur.size := by omega
          have hk2 : k < d'.size := by omega
          rw [Array.getElem?_toList, Array.getElem?_toList, putCells, Array.getElem?_mapIdx, Array.getElem?_eq_getElem hk1, Array.getElem?_eq_getElem hk2, Option.map_some, Option.map_some, if_pos ⟨Nat.zero_le _, by omega⟩, Nat.sub_zero, getElem!_pos d' k hk2]
        · rename_i hk
          have : d'.toList[k]? = none := by rw [List.getElem?_eq_none]; simpa [hdsz] using hk
          rw [this]; rfl
end
end Go.Eng
end
section
namespace Go.Eng
open Go.RowKit
set_option linter.unusedVariables false
set_option linter.unusedSimpArgs false
section
variable {P : Program} {ops : Array Oper} {Q : Exit → Act → World → Prop} {C : World → Prop} {a : Act} {w0 w : World} {M : List Own} {R : Hp} {O : List Own} {rest : List Oper} {n : Fr} {L : Sl}
variable {ty : TypeId} {pos : String} {af : Array Edge} {g : Option (Nat × Bool)}
theorem Kn.defer {a : Act} {L : Sl} (h : Kn n a L) (d : Deferred) : Kn ⟨n.n, d :: n.ds⟩ { a with defers := d :: a.defers } L := ⟨h.size, by simp [h.dfs], h.at_⟩
end
section
variable {P : Program} {ops : Array Oper} {Q : Exit → Act → World → Prop} {a : Act} {w0 w : World} {M : List Own} {R : Hp} {O : List Own} {rest : List Oper} {n : Fr} {L : Sl}
variable {ty : TypeId} {pos : String} {af : Array Edge} {g : Option (Nat × Bool)}
theorem append_blkS {t u e tt : Nat} {i : TypeInfo} {base : Nat} {v v' : Value} {w' : World} {m : Nat} {cs : List Value} {str : ByteArray} (ht : P.underlying t = some (.slice e)) (hu : P.underlying u = some .string) (hi : P.info? e = some i) (hz0 : i.zero = some (.int .u8 0)) (hsz : i.size = 1) (hby : i.bytes = 1)
    (hown : w.ownsRow base e 1 v m cs) (hb : m + str.size ≤ 140737488355328)
    (hr : (Builtin.append_ #[t, u] tt #[v, .string str]).run P w = .ok v' w') : (∀ b, v'.ownBlock = some b → v.ownBlock = some b ∨ w.heap.size ≤ b) ∧ w.drawn ≤ w'.drawn := by
  rcases hown.2 with ⟨rfl, rfl⟩ | ⟨g, cap, cur, rfl, hbg, hg, hnc, hcm, hcs, htake⟩
  · by_cases h0 : str.size = 0
    · have hf := Lib.run_firstCells_string (P := P) w 1 str
      rw [h0] at hf
      simp [Builtin.append_, run_underlying ht, run_underlying hu, sizeOf, typeInfo, hi, hsz, Builtin.lenOf, h0, hf] at hr
      obtain ⟨h1, h2⟩ := hr
      subst h1; subst h2
      exact ⟨fun b hb' => Or.inl hb', Nat.le_refl _⟩
    · have := run_append_nil_string (P := P) w t u tt e i _ ht hu hi hz0 str (by omega) (by omega) (by rw [hby]; omega)
      rw [this] at hr
      injection hr with h1 h2
      subst h1; subst h2
      exact ⟨fun b hb' => by
        simp [Value.ownBlock] at hb'
        exact Or.inr (by omega), Nat.le_succ _⟩
  · by_cases hroom : m + str.size ≤ cap
    · have hfit : m + str.size ≤ cur.size := by rw [hcs]; omega
      have := Lib.run_append_room_string (P := P) w t u tt e i ht hu hi hsz g m cap cur hg str hroom hfit
      rw [this] at hr
      injection hr with h1 h2
      subst h1; subst h2
      exact ⟨fun b hb' => Or.inl hb', Nat.le_refl _⟩
    · have holds : ∀ j u, cs[j]? = some u → w.cell? ((⟨g, 0, none⟩ : Addr).add j) = some u := hown.cells (g := g) rfl
      have hl : cs.length = m * i.size := by rw [hsz]; exact hown.1
      have := Lib.run_append_grow_string (P := P) w t u tt e i _ ht hu hi hz0 ⟨g, 0, none⟩ m cap cs hl holds str (by omega) (by omega) (by rw [hby]; exact growslice_fits (by omega) (by omega))
      rw [this] at hr
      injection hr with h1 h2
      subst h1; subst h2
      exact ⟨fun b hb' => by
        simp [Value.ownBlock] at hb'
        exact Or.inr (by omega), Nat.le_succ _⟩
theorem reps_str {R : Hp} (s : ByteArray) : Reps (tyInt .u8) R (Lib.strCells s) (sbytes s) := by
  unfold Lib.strCells sbytes
  generalize s.data.toList = l
  induction l with
  | nil => exact Reps.nil _ _
  | cons b l ih => exact Reps.cons (c := [.int .u8 b.toNat]) rfl ih
theorem sl_append_S {dd : Nat} {s x : Operand} {t u e : Nat} {v : Value} {m : Nat} {ty' : TypeId} {cs : List Value} {xs zs : List Int} {str : ByteArray} (hE : ElT P t e 1 1) (hu : P.underlying u = some .string) (hz0 : ∀ w, (zeroValue e).run P w = .ok (.int .u8 0) w) (hcs : Reps (tyInt .u8) R cs xs) (hm : m = xs.length) (hz : apd 1 xs (sbytes str) = some zs)
    (hS : St M w0 w R (.row e 1 v m cs :: O)) (hK : Kn n a L) (hd : dd < n.n) (hw : wantedL ops L ⟨some dd, .call { callee := .builtin .append, args := #[s, x], argTypes := #[t, u] }, ty', pos, af, g⟩ = some true) (hs : ev L s = some v) (hx : ev L x = some (.string str))
    (h : ∀ a w v' cs', Reps (tyInt .u8) R cs' zs → St M w0 w R (.row e 1 v' zs.length cs' :: O) → Kn n a ((dd, v') :: L) → wpList P ops Q rest a w) :
    wpList P ops Q (⟨some dd, .call { callee := .builtin .append, args := #[s, x], argTypes := #[t, u] }, ty', pos, af, g⟩ :: rest) a w := by
  subst hm
  obtain ⟨hb, hzs⟩ := apd_some hz
  have hlen : (sbytes str).length = str.size := by simp [sbytes]
  rw [hlen] at hb
  obtain ⟨i, z, hi, hz1, hsz, hby, hzs'⟩ := hE.ex
  have hzz : z = .int .u8 0 := by
    have := hz0 w
    simp [zeroValue, typeInfo, hi, hz1] at this
    exact this
  subst hzz
  have hown : w.ownsRow 0 e 1 v xs.length cs := hS.own (.row e 1 v xs.length cs) (List.mem_cons_self ..)
  obtain ⟨v', w', hr, h2, h3, h4⟩ := Lib.run_append_own_string (P := P) w 0 t u ty' e i hE.und hu hi hz1 hsz hby v _ cs hown str (by simp only [maxLen]; omega) (by omega) (Nat.zero_le _)
  have hab := append_blkS hE.und hu hi hz1 hsz hby hown (by omega) hr
  refine slw hK hd hw rfl (by simp [execOp, resolve, invoke, builtin, hK.ev hs, hK.ev hx, hr]) fun a' hK' => h a' w' v' (cs ++ Lib.strCells str) (by rw [hzs]; exact hcs.append (reps_str str)) ?_ hK'
  rw [hzs, List.length_append, hlen]
  exact hS.turn h3.os h3.tape h3.output h3.size hab.2 (fun j hj hne => h3.block j hj (fun e => hne e.symm)) h2 hab.1
end
end Go.Eng
end
section
namespace Go.Eng
open Go.RowKit
set_option linter.unusedVariables false
set_option linter.unusedSimpArgs false
structure Apart (B R : Hp) (cs : List Value) : Prop where
  new : ∀ b ∈ cs.filterMap Value.ownBlock, B b = none ∧ ∃ c t, R b = some (.cells c t (0, 0))
  nodup : (cs.filterMap Value.ownBlock).Nodup
def NewB (R R' : Hp) (v : Value) : Prop := ∀ b, v.ownBlock = some b → R b = none ∧ ∃ c t, R' b = some (.cells c t (0, 0))
theorem Apart.nil (B R : Hp) : Apart B R [] := ⟨fun b h => by simp at h, by simp⟩
theorem Apart.mono {B R R' : Hp} {cs : List Value} (h : Apart B R cs) (hR : R.le R') : Apart B R' cs :=
  ⟨fun b hb => ⟨(h.new b hb).1, let ⟨c, t, e⟩ := (h.new b hb).2; ⟨c, t, hR _ _ e⟩⟩, h.nodup⟩
theorem Apart.perm {B R : Hp} {cs cs' : List Value} (h : Apart B R cs) (hp : cs'.Perm cs) : Apart B R cs' :=
  have hq := hp.filterMap Value.ownBlock
  ⟨fun b hb => h.new b (hq.mem_iff.1 hb), hq.nodup_iff.2 h.nodup⟩
theorem Apart.skip {B R : Hp} {cs : List Value} {v : Value} (h : Apart B R cs) (hv : v.ownBlock = none) : Apart B R (cs ++ [v]) := by
  have e : (cs ++ [v]).filterMap Value.ownBlock = cs.filterMap Value.ownBlock := by rw [List.filterMap_append]; simp [hv]
  exact ⟨by rw [e]; exact h.new, by rw [e]; exact h.nodup⟩
theorem Apart.app {B R R' : Hp} {cs : List Value} {v : Value} (h : Apart B R cs) (hB : B.le R) (hR : R.le R') (hv : NewB R R' v) : Apart B R' (cs ++ [v]) := by
  cases hb : v.ownBlock with
  | none => exact (h.mono hR).skip hb
  | some b =>
    obtain ⟨h1, h2⟩ := hv b hb
    have e : (cs ++ [v]).filterMap Value.ownBlock = cs.filterMap Value.ownBlock ++ [b] := by rw [List.filterMap_append]; simp [hb]
    refine ⟨fun b' hb' => ?_, ?_⟩
    · rw [e, List.mem_append, List.mem_singleton] at hb'
      rcases hb' with hb' | rfl
      · exact (h.mono hR).new b' hb'
      · refine ⟨?_, h2⟩
        cases hBb : B b' with
        | none => rfl
        | some o => have := hB _ _ hBb; rw [h1] at this; cases this
    · rw [e, List.nodup_append]
      refine ⟨h.nodup, by simp, fun y hx z hz => ?_⟩
      rw [List.mem_singleton] at hz
      subst hz
      rintro rfl
      obtain ⟨c, t, e3⟩ := (h.new y hx).2
      rw [h1] at e3; cases e3
section
variable {P : Program} {Q : Exit → Act → World → Prop} {M : List Own} {w0 w : World} {R : Hp} {O : List Own} {α : Type} {ty : Ty α} {a : Act} {L : Sl} {n : Fr} {ops : Array Oper} {rest : List Oper} {ty' : TypeId} {pos : String} {af : Array Edge} {g : Option (Nat × Bool)}
theorem St.fz_rowN {e size m : Nat} {v : Value} {cs : List Value} {xs : List α} (h : St M w0 w R (.row e size v m cs :: O)) (hcs : Reps ty R cs xs) (hm : m = xs.length) (hty : ty.n = size) : ∃ R', St M w0 w R' O ∧ RLe M w0 R R' ∧ SlR ty R' v xs ∧ NewB R R' v := by
  subst hm; subst hty
  have hown : w.ownsRow 0 e ty.n v xs.length cs := h.own (.row e ty.n v xs.length cs) (List.mem_cons_self ..)
  have hbase := (h.base (.row e ty.n v xs.length cs) (List.mem_cons_self ..))
  rcases hown.2 with ⟨rfl, h0⟩ | ⟨g, cap, cur, rfl, hbg, hg, hnc, hcm, hcz, htake⟩
  · have : xs = [] := List.eq_nil_of_length_eq_zero h0
    subst this
    exact ⟨R, h.tail, RLe.refl _ _, SlR.nil ty R, fun b hb => by simp [Value.ownBlock] at hb⟩
  · obtain ⟨R', h1, h2, h3⟩ := h.frozen rfl hg
    refine ⟨R', h1, h2, SlR.of_cells rfl hnc (hcs.mono h2.le) fun j u hu => ?_, fun b hb => ?_⟩
    · rw [← htake, List.getElem?_take] at hu
      split at hu
      · simp only [Hp.cell, h3, Nat.zero_add]; simpa using hu
      · cases hu
    · simp only [Value.ownBlock, Option.some.injEq] at hb
      subst hb
      exact ⟨(hbase g rfl).2, _, _, h3⟩
theorem sl_append_LA {dd : Nat} {s x : Operand} {t e size bytes : Nat} {v : Value} {m k b : Nat} {t' : TypeId} {cs ds : List Value} {xs ys zs : List α} (hE : ElT P t e size bytes) (hB : 1 ≤ bytes) (hty : ty.n = size) (hcs : Reps ty R cs xs) (hm : m = xs.length) (hds : Reps ty R ds ys) (hk : k = ys.length) (hz : apd bytes xs ys = some zs)
    (hS : St M w0 w R (.row e size v m cs :: .cells b ds t' :: O)) (hK : Kn n a L) (hd : dd < n.n) (hw : wantedL ops L ⟨some dd, .call { callee := .builtin .append, args := #[s, x], argTypes := #[t, t] }, ty', pos, af, g⟩ = some true) (hs : ev L s = some v) (hx : ev L x = some (.slice (some ⟨b, 0, none⟩) k k))
    (h : ∀ a w v' cs', cs' = cs ++ ds → Reps ty R cs' zs → St M w0 w R (.row e size v' zs.length cs' :: O) → Kn n a ((dd, v') :: L) → wpList P ops Q rest a w) :
    wpList P ops Q (⟨some dd, .call { callee := .builtin .append, args := #[s, x], argTypes := #[t, t] }, ty', pos, af, g⟩ :: rest) a w := by
  subst hm; subst hty; subst hk
  obtain ⟨hb, hzs⟩ := apd_some hz
  obtain ⟨v', w', hr, hS'⟩ := run_append (tt := ty') (c := ys.length) (news := ds) (ad := some ⟨b, 0, none⟩) hE hB hS hds.length hds.one hb (fun hk => ⟨b, 0, rfl, fun j u hu => by
    rw [Nat.zero_add]; exact hS.cell (.tail _ (.head _)) hu⟩)
  refine slw hK hd hw rfl (append_op hK hs hx hr) fun a' hK' => h a' w' v' (cs ++ ds) rfl (by rw [hzs]; exact hcs.append hds) ?_ hK'
  rw [hzs, List.length_append]
  exact hS'.drop1
def spl (l : List Value) (p : Nat) (vs : List Value) : List Value := l.take p ++ vs ++ l.drop (p + vs.length)
theorem spl_get {l : List Value} {p : Nat} {vs : List Value} (h : p + vs.length ≤ l.length) (k : Nat) : (spl l p vs)[k]? = if p ≤ k ∧ k < p + vs.length then vs[k - p]? else l[k]? := by
  unfold spl
  have hl : (l.take p).length = p := by simp; omega
  by_cases h1 : k < p
  · rw [if_neg (by omega), List.append_assoc, List.getElem?_append_left (by omega), List.getElem?_take, if_pos h1]
  · by_cases h2 : k < p + vs.length
    · rw [if_pos ⟨by omega, h2⟩, List.append_assoc, List.getElem?_append_right (by omega), hl, List.getElem?_append_left (by omega)]
    · rw [if_neg (by omega), List.getElem?_append_right (by simp [hl]; omega), List.length_append, hl, List.getElem?_drop]
      congr 1; omega
theorem flatten_spl {css : List (List Value)} {m : Nat} (hc : ∀ c ∈ css, c.length = m) : ∀ {i ps : Nat} {es vs : List Value}, css[i]? = some es → ps + vs.length ≤ es.length → spl css.flatten (i * m + ps) vs = (css.set i (spl es ps vs)).flatten := by
  induction css with
  | nil => intro i ps es vs h; simp at h
  | cons c r ih =>
    intro i ps es vs h hp
    have hcm := hc c (by simp)
    cases i with
    | zero =>
      simp at h; subst h
      simp only [List.set_cons_zero, List.flatten_cons, Nat.zero_mul, Nat.zero_add]
      unfold spl
      rw [List.take_append_of_le_length (by omega), List.drop_append_of_le_length (by omega)]
      simp
    | succ i =>
      have h' : r[i]? = some es := by simpa using h
      have := ih (fun d hd => hc d (by simp [hd])) h' hp
      simp only [List.set_cons_succ, List.flatten_cons]
      rw [← this]
      unfold spl
      have e : (i + 1) * m + ps = c.length + (i * m + ps) := by rw [Nat.add_mul]; omega
      rw [e, List.take_length_add_append, Nat.add_assoc c.length, List.drop_length_add_append]
      simp
theorem Reps.spl {cs : List Value} {xs : List α} {i ps : Nat} {x y : α} {es vs : List Value} (h : Reps ty R cs xs) (hx : xs[i]? = some x) (hl : es.length = ty.n) (hes : ∀ j u, es[j]? = some u → cs[i * ty.n + j]? = some u) (hp : ps + vs.length ≤ es.length) (hy : ty.rep R (Eng.spl es ps vs) y) : Reps ty R (Eng.spl cs (i * ty.n + ps) vs) (xs.set i y) := by
  obtain ⟨css, h1, h2, h3, h4⟩ := h.all
  have hi : i < css.length := by rw [h2]; exact (List.getElem?_eq_some_iff.1 hx).1
  have he : css[i]? = some es := by
    rw [List.getElem?_eq_getElem hi]
    congr 1
    refine List.ext_getElem? fun j => ?_
    have hlen := (h3 _ (List.getElem_mem hi)).1
    by_cases hj : j < ty.n
    · have e1 := flatten_get (fun c hc => (h3 c hc).1) (List.getElem?_eq_getElem hi) (List.getElem?_eq_getElem (show j < css[i].length by omega))
      have e2 := hes j _ (List.getElem?_eq_getElem (show j < es.length by omega))
      rw [h1, e1] at e2
      rw [List.getElem?_eq_getElem (show j < css[i].length by omega), List.getElem?_eq_getElem (show j < es.length by omega)]
      exact e2
    · rw [List.getElem?_eq_none (by omega), List.getElem?_eq_none (by omega)]
  refine ⟨css.set i (Eng.spl es ps vs), by rw [h1]; exact flatten_spl (fun c hc => (h3 c hc).1) he hp, by simp [h2], fun j c z hc hz => ?_⟩
  rw [List.getElem?_set] at hc hz
  by_cases hij : i = j
  · subst hij
    rw [if_pos rfl, if_pos hi] at hc
    rw [if_pos rfl, if_pos (by omega)] at hz
    cases hc; cases hz; exact hy
  · rw [if_neg hij] at hc hz
    exact h4 j c z hc hz
theorem Reps.replicate {c0 : Value} {z : α} (h : ty.rep R [c0] z) : ∀ n, Reps ty R (List.replicate n c0) (List.replicate n z)
  | 0 => Reps.nil _ _
  | n + 1 => by
    have := Reps.cons h (Reps.replicate h n)
    simpa [List.replicate_succ] using this
theorem Apart.frame {B R1 R' R2 : Hp} {cs : List Value} (h : Apart B R1 cs) (hle : R1.le R2) (hd : ∀ b o, R1 b = some o → B b = none → R' b = none) : Apart R' R2 cs :=
  ⟨fun b hb => by
    obtain ⟨h1, c, t, h2⟩ := h.new b hb
    exact ⟨hd b _ h2 h1, c, t, hle _ _ h2⟩, h.nodup⟩
def SlB {α : Type} (ty : Ty α) (RA R : Hp) (v : Value) (xs : List α) : Prop :=
  ∃ ad cap cs, v = .slice ad xs.length cap ∧ xs.length ≤ cap ∧ Reps ty R cs xs ∧ (xs ≠ [] → ∃ b o, ad = some ⟨b, o, none⟩ ∧ ∀ j u, cs[j]? = some u → RA.cell b (o + j) = some u)
theorem SlB.nil {α : Type} (ty : Ty α) (RA R : Hp) : SlB ty RA R (.slice none 0 0) ([] : List α) := ⟨none, 0, [], rfl, Nat.le_refl _, Reps.nil _ _, fun h => absurd rfl h⟩
theorem SlB.monoA {RA RA' : Hp} {v : Value} {xs : List α} (h : SlB ty RA R v xs) (hR : RA.le RA') : SlB ty RA' R v xs := by
  obtain ⟨ad, cap, cs, h1, h2, h3, h4⟩ := h
  exact ⟨ad, cap, cs, h1, h2, h3, fun hne => let ⟨b, o, e, hc⟩ := h4 hne; ⟨b, o, e, fun j u hu => Hp.cell_le hR (hc j u hu)⟩⟩
theorem SlB.monoR {RA R' : Hp} {v : Value} {xs : List α} (h : SlB ty RA R v xs) (hR : R.le R') : SlB ty RA R' v xs := by
  obtain ⟨ad, cap, cs, h1, h2, h3, h4⟩ := h
  exact ⟨ad, cap, cs, h1, h2, h3.mono hR, h4⟩
theorem SlB.one {RA : Hp} {v : Value} {xs : List α} (h : SlB ty RA R v xs) : v.oneCell' = true := by
  obtain ⟨ad, cap, cs, h1, _⟩ := h; subst h1; rfl
theorem SlR.toB {RA : Hp} {v : Value} {xs : List α} (h : SlR ty R v xs) (hR : R.le RA) : SlB ty RA R v xs := by
  obtain ⟨ad, cap, cs, h1, h2, h3, h4⟩ := h.cells
  exact ⟨ad, cap, cs, h1, h2, h3, fun hne => let ⟨b, o, e, hc⟩ := h4 hne; ⟨b, o, e, fun j u hu => Hp.cell_le hR (hc j u hu)⟩⟩
theorem SlB.nilcase {RA : Hp} {v : Value} {xs : List α} (h : SlB ty RA R v xs) : ((∃ c, v = .slice none 0 c) ∧ xs = []) ∨ ∃ ad m c, v = .slice (some ad) m c := by
  obtain ⟨ad, cap, cs, h1, h2, h3, h4⟩ := h
  cases ad with
  | none =>
    refine Or.inl ?_
    by_cases hx : xs = []
    · subst hx; exact ⟨⟨cap, h1⟩, rfl⟩
    · obtain ⟨b, o, e, _⟩ := h4 hx; cases e
  | some a => exact Or.inr ⟨a, _, _, h1⟩
theorem St.lend_rowB {e size m : Nat} {v : Value} {cs : List Value} {xs : List α} {N : List Own} {R1 : Hp} (h : St M w0 w R (N ++ O)) (hmem : Own.row e size v m cs ∈ O) (hcs : Reps ty R1 cs xs) (hm : m = xs.length) (hty : ty.n = size) : SlB ty (lentOf N w) R1 v xs := by
  subst hm; subst hty
  have hown : w.ownsRow 0 e ty.n v xs.length cs := h.own _ (List.mem_append_right _ hmem)
  rcases hown.2 with ⟨rfl, h0⟩ | ⟨g, cap, cur, rfl, hbg, hg, hnc, hcm, hcz, htake⟩
  · have : xs = [] := List.eq_nil_of_length_eq_zero h0
    subst this
    exact SlB.nil ty _ _
  · refine ⟨_, cap, cs, rfl, hnc, hcs, fun _ => ⟨g, 0, rfl, fun j u hu => ?_⟩⟩
    have h3 := h.ownLent hmem rfl hg
    rw [← htake, List.getElem?_take] at hu
    split at hu
    · simp only [Hp.cell, h3, Nat.zero_add]; simpa using hu
    · cases hu
theorem St.lend_rowB0 {e size m : Nat} {v : Value} {cs : List Value} {xs : List α} {R1 : Hp} (h : St M w0 w R O) (hmem : Own.row e size v m cs ∈ O) (hcs : Reps ty R1 cs xs) (hm : m = xs.length) (hty : ty.n = size) : SlB ty (lentOf [] w) R1 v xs := St.lend_rowB (N := []) h hmem hcs hm hty
theorem take_spl {l : List Value} {k p : Nat} {vs : List Value} (h : p + vs.length ≤ k) (hk : k ≤ l.length) : (spl l p vs).take k = spl (l.take k) p vs := by
  refine List.ext_getElem? fun j => ?_
  rw [List.getElem?_take, spl_get (l := l) (by omega), spl_get (l := l.take k) (by rw [List.length_take]; omega), List.getElem?_take]
  by_cases hj : j < k
  · rw [if_pos hj, if_pos hj]
  · rw [if_neg hj, if_neg hj, if_neg (by omega)]
theorem sl_store_rowA {t : TypeId} {x y : Operand} {e size m b c ps k : Nat} {v : Value} {cs es vs : List Value} {xs : List α} {i : Int} {z z0 : α} (hz : ∀ w, (sizeOf t).run P w = .ok k w) (hv : v = .slice (some ⟨b, 0, none⟩) m c) (hi : ix xs i = some z0) (h1 : ty.n = size) (hl : es.length = size) (hes : ∀ j u, es[j]? = some u → cs[i.toNat * ty.n + j]? = some u) (hk : vs.length = k) (hps : ps + vs.length ≤ es.length) (hvs : 1 ≤ vs.length) (hrep : ty.rep R (spl es ps vs) z) (hcs : Reps ty R cs xs) (hm : m = xs.length)
    (hS : St M w0 w R (.row e size v m cs :: O)) (hK : Kn n a L) (hw : wantedL ops L ⟨none, .store t x y, ty', pos, af, g⟩ = some true) (hx : ev L x = some (.pointer (some ⟨b, 0 + (i.toNat * size + ps), none⟩))) (hy : ev L y = some (.agg vs.toArray)) (ho : ∀ u ∈ vs, u.oneCell' = true)
    (h : ∀ a w cs', Reps ty R cs' (upd xs i z) → St M w0 w R (.row e size v (upd xs i z).length cs' :: O) → Kn n a L → wpList P ops Q rest a w) : wpList P ops Q (⟨none, .store t x y, ty', pos, af, g⟩ :: rest) a w := by
  subst hm; subst h1; subst hk
  obtain ⟨h0, h2, h3⟩ := ix_some hi
  have hkk := hes (ps + vs.length - 1) _ (List.getElem?_eq_getElem (by omega))
  have hkl : i.toNat * ty.n + ps + vs.length ≤ cs.length := by have := (List.getElem?_eq_some_iff.1 hkk).1; omega
  have hown : w.ownsRow 0 e ty.n v xs.length cs := hS.own (.row e ty.n v _ cs) (List.mem_cons_self ..)
  rcases hown.2 with ⟨hv', hn0⟩ | ⟨g0, cap, cur, hv', hbg, hg, hnc, hcm, hcz, htake⟩
  · rw [hv] at hv'; simp at hv'
  · rw [hv] at hv'
    simp only [Value.slice.injEq, Option.some.injEq, Addr.mk.injEq, and_true, true_and] at hv'
    obtain ⟨rfl, rfl⟩ := hv'
    have hcl : cs.length ≤ cur.toList.length := by rw [← htake, List.length_take]; omega
    have hb : w.heap[b]? = some (.cells cur.toList.toArray e (0, 0)) := by simpa using hg
    have hs := run_storeCells_at P b (i.toNat * ty.n + ps) e vs 0 cur.toList.toArray w hb (by simp at hcl ⊢; omega) ho
    simp only [Nat.add_zero] at hs
    have hset : Reps ty R (spl cs (i.toNat * ty.n + ps) vs) (upd xs i z) := hcs.spl h3 hl hes hps hrep
    refine sls hK hw rfl (w' := w.setRow b (spl cur.toList (i.toNat * ty.n + ps) vs).toArray) ?_ fun a' hK' => h a' _ _ hset ?_ hK'
    · rw [Nat.zero_add] at hx
      have hs' : (storeCells ⟨b, i.toNat * ty.n + ps, none⟩ vs).run P w = .ok () (w.setRow b (spl cur.toList (i.toNat * ty.n + ps) vs).toArray) := by simpa [spl] using hs
      simp [execOp, hK.ev hx, hK.ev hy, Instr.storeAt, Instr.sureAddr, storeVar, Value.cells, hz, hs']
    · rw [show (upd xs i z).length = xs.length from by simp [upd]]
      have hsl : (spl cur.toList (i.toNat * ty.n + ps) vs).length = cur.toList.length := by
        unfold spl; simp only [List.length_append, List.length_take, List.length_drop]; omega
      refine hS.turn rfl rfl rfl (by simp) (Nat.le_refl _) (fun k _ hk => setRow_other w b k _ (fun e => hk (by rw [Own.blk, hv]; simp [Value.ownBlock, e]))) ⟨?_, Or.inr ⟨b, c, (spl cur.toList (i.toNat * ty.n + ps) vs).toArray, hv, hbg, setRow_heap w b _ _ e _ hg, hnc, hcm, ?_, ?_⟩⟩ (fun b' hb' => Or.inl hb')
      · have : (spl cs (i.toNat * ty.n + ps) vs).length = cs.length := by
          unfold spl; simp only [List.length_append, List.length_take, List.length_drop]; omega
        rw [this]; exact hown.1
      · rw [List.size_toArray, hsl]; simpa using hcz
      · show ((spl cur.toList (i.toNat * ty.n + ps) vs)).take _ = _
        rw [take_spl (by rw [← hown.1]; exact hkl) (by rw [← hown.1]; exact hcl), htake]
end
end Go.Eng
end
section
namespace Go.Eng
set_option linter.unusedVariables false
set_option linter.unusedSimpArgs false
theorem w64 {x : Int} (h0 : -9223372036854775808 ≤ x) (h1 : x ≤ 9223372036854775807) : IntKind.i64.wrap x = x := by
  simp only [IntKind.wrap, IntKind.bits, IntKind.signed, Bool.true_and]
  split
  · rename_i h; simp at h; omega
  · rename_i h; simp at h; omega
theorem w64_range (x : Int) : -9223372036854775808 ≤ IntKind.i64.wrap x ∧ IntKind.i64.wrap x ≤ 9223372036854775807 := by
  simp only [IntKind.wrap, IntKind.bits, IntKind.signed, Bool.true_and]
  split
  · rename_i h; simp at h; omega
  · rename_i h; simp at h; omega
theorem w64_nat (i : Nat) (h : i < 9223372036854775807) : IntKind.i64.wrap ((i : Int) + 1) = ((i + 1 : Nat) : Int) := by rw [w64 (by omega) (by omega)]; omega
theorem i64_range {x : Int} (h : (Lit.int .i64 x).wf = true) : -9223372036854775808 ≤ x ∧ x ≤ 9223372036854775807 := by
  simp only [Lit.wf, Bool.and_eq_true, decide_eq_true_eq] at h
  exact h
theorem cut_of {α : Type} {a : List α} {l h : Int} (h0 : 0 ≤ l) (h1 : l ≤ h) (h2 : h ≤ (a.length : Int)) : cut a l h = some ((a.drop l.toNat).take (h.toNat - l.toNat)) := by
  unfold cut
  rw [if_pos h0, if_pos h1, if_pos h2]
theorem apd_of {α : Type} {B : Nat} {xs ys : List α} (h : (xs.length + ys.length) * B ≤ 140737488355328) : apd B xs ys = some (xs ++ ys) := by
  unfold apd; rw [if_pos h]
theorem ix_of {α : Type} {xs : List α} {i : Nat} {x : α} (h : xs[i]? = some x) : ix xs (i : Int) = some x := by rw [ix_nat, h]
end Go.Eng
end
section
namespace Go.Eng
open Go Go.Lib
set_option linter.unusedVariables false
set_option linter.unusedSimpArgs false
section
variable {α β : Type}
theorem dlt {i n : Nat} (h : i < n) : decide ((i : Int) < (n : Int)) = true := by simpa using h
theorem dnl {i n : Nat} (h : n ≤ i) : ¬ decide ((i : Int) < (n : Int)) = true := by simpa using h
theorem dge {i n : Nat} (h : n ≤ i) : decide ((i : Int) ≥ (n : Int)) = true := by simpa using h
theorem dng {i n : Nat} (h : i < n) : ¬ decide ((i : Int) ≥ (n : Int)) = true := by simpa using h
theorem fuel_nat (n : Nat) : ((n : Int) - 0).toNat + 1 = n + 1 := by omega
theorem getE {l : List α} {i : Nat} (h : i < l.length) : ∃ x, l[i]? = some x ∧ l.drop i = x :: l.drop (i + 1) :=
  ⟨l[i], List.getElem?_eq_getElem h, List.drop_eq_getElem_cons h⟩
def ord3 (x y : Int) : Int := if x < y then -1 else if x > y then 1 else 0
structure IsCmp (c : α → α → Int) : Prop where
  flip : ∀ x y, c y x = -c x y
  trans : ∀ x y z, c x y ≤ 0 → c y z ≤ 0 → c x z ≤ 0
theorem IsCmp.refl {c : α → α → Int} (h : IsCmp c) (x : α) : c x x = 0 := by have := h.flip x x; omega
theorem IsCmp.lt1 {c : α → α → Int} (h : IsCmp c) {x y z : α} (h1 : c x y < 0) (h2 : c y z ≤ 0) : c x z < 0 := by
  have a := h.trans x y z (by omega) h2
  have b := h.trans y z x h2
  have e1 := h.flip x z
  have e2 := h.flip x y
  rcases Int.lt_or_le (c x z) 0 with h3 | h3
  · exact h3
  · have := b (by omega); omega
theorem IsCmp.lt2 {c : α → α → Int} (h : IsCmp c) {x y z : α} (h1 : c x y ≤ 0) (h2 : c y z < 0) : c x z < 0 := by
  have a := h.trans x y z h1 (by omega)
  have b := h.trans z x y
  have e1 := h.flip x z
  have e2 := h.flip y z
  rcases Int.lt_or_le (c x z) 0 with h3 | h3
  · exact h3
  · have := b (by omega) h1; omega
theorem ord3_cmp : IsCmp ord3 := by
  refine ⟨fun x y => ?_, fun x y z h1 h2 => ?_⟩
  · unfold ord3; split <;> split <;> (try split) <;> omega
  · unfold ord3 at *; split at h1 <;> split at h2 <;> split <;> (try split) <;> (try split at h1) <;> (try split at h2) <;> omega
theorem ord3_zero {x y : Int} (h : ord3 x y = 0) : x = y := by unfold ord3 at h; split at h <;> (try split at h) <;> omega
theorem ord3_self (x : Int) : ord3 x x = 0 := ord3_cmp.refl x
def thenC (c1 c2 : α → α → Int) (x y : α) : Int := if c1 x y = 0 then c2 x y else c1 x y
def onC (f : α → β) (c : β → β → Int) (x y : α) : Int := c (f x) (f y)
theorem onC_cmp {f : α → β} {c : β → β → Int} (h : IsCmp c) : IsCmp (onC f c) := ⟨fun _ _ => h.flip _ _, fun _ _ _ => h.trans _ _ _⟩
theorem thenC_cmp {c1 c2 : α → α → Int} (h1 : IsCmp c1) (h2 : IsCmp c2) : IsCmp (thenC c1 c2) := by
  refine ⟨fun x y => ?_, fun x y z k1 k2 => ?_⟩
  · unfold thenC
    have a := h1.flip x y
    have b := h2.flip x y
    by_cases h : c1 x y = 0
    · rw [if_pos h, if_pos (by omega)]; exact b
    · rw [if_neg h, if_neg (by omega)]; exact a
  · unfold thenC at *
    by_cases e1 : c1 x y = 0
    · rw [if_pos e1] at k1
      by_cases e2 : c1 y z = 0
      · rw [if_pos e2] at k2
        have a1 := h1.trans x y z (by omega) (by omega)
        have a2 := h1.trans z y x (by rw [h1.flip]; omega) (by rw [h1.flip]; omega)
        have a3 := h1.flip x z
        rw [if_pos (by omega)]
        exact h2.trans x y z k1 k2
      · rw [if_neg e2] at k2
        have := h1.lt2 (x := x) (y := y) (z := z) (by omega) (by omega)
        rw [if_neg (by omega)]; omega
    · rw [if_neg e1] at k1
      have k2' : c1 y z ≤ 0 := by
        by_cases e2 : c1 y z = 0
        · omega
        · rw [if_neg e2] at k2; exact k2
      have := h1.lt1 (x := x) (y := y) (z := z) (by omega) k2'
      rw [if_neg (by omega)]; omega
def lexL (c : α → α → Int) : List α → List α → Int
  | [], [] => 0
  | [], _ :: _ => -1
  | _ :: _, [] => 1
  | x :: xs, y :: ys => if c x y = 0 then lexL c xs ys else c x y
theorem lexL_flip {c : α → α → Int} (h : IsCmp c) : ∀ xs ys, lexL c ys xs = -lexL c xs ys
  | [], [] => rfl
  | [], _ :: _ => rfl
  | _ :: _, [] => rfl
  | x :: xs, y :: ys => by
    have a := h.flip x y
    simp only [lexL]
    by_cases e : c x y = 0
    · rw [if_pos e, if_pos (by omega)]; exact lexL_flip h xs ys
    · rw [if_neg e, if_neg (by omega)]; exact a
theorem lexL_trans {c : α → α → Int} (h : IsCmp c) : ∀ xs ys zs, lexL c xs ys ≤ 0 → lexL c ys zs ≤ 0 → lexL c xs zs ≤ 0
  | [], _, [], _, _ => Int.le_refl _
  | [], _, _ :: _, _, _ => by simp [lexL]
  | _ :: _, [], _, h1, _ => by simp [lexL] at h1
  | _ :: _, _ :: _, [], _, h2 => by simp [lexL] at h2
  | x :: xs, y :: ys, z :: zs, h1, h2 => by
    simp only [lexL] at *
    by_cases e1 : c x y = 0
    · rw [if_pos e1] at h1
      by_cases e2 : c y z = 0
      · rw [if_pos e2] at h2
        have a1 := h.trans x y z (by omega) (by omega)
        have a2 := h.trans z y x (by rw [h.flip]; omega) (by rw [h.flip]; omega)
        have a3 := h.flip x z
        rw [if_pos (by omega)]
        exact lexL_trans h xs ys zs h1 h2
      · rw [if_neg e2] at h2
        have := h.lt2 (x := x) (y := y) (z := z) (by omega) (by omega)
        rw [if_neg (by omega)]; omega
    · rw [if_neg e1] at h1
      have k2' : c y z ≤ 0 := by
        by_cases e2 : c y z = 0
        · omega
        · rw [if_neg e2] at h2; exact h2
      have := h.lt1 (x := x) (y := y) (z := z) (by omega) k2'
      rw [if_neg (by omega)]; omega
theorem lexL_cmp {c : α → α → Int} (h : IsCmp c) : IsCmp (lexL c) := ⟨lexL_flip h, lexL_trans h⟩
theorem lexL_zero {c : α → α → Int} (h : ∀ x y, c x y = 0 → x = y) : ∀ xs ys, lexL c xs ys = 0 → xs = ys
  | [], [], _ => rfl
  | [], _ :: _, h1 => by simp [lexL] at h1
  | _ :: _, [], h1 => by simp [lexL] at h1
  | x :: xs, y :: ys, h1 => by
    simp only [lexL] at h1
    by_cases e : c x y = 0
    · rw [if_pos e] at h1; rw [h x y e, lexL_zero h xs ys h1]
    · rw [if_neg e] at h1; exact absurd h1 e
theorem sbytes_len (s : ByteArray) : (sbytes s).length = s.size := by simp [sbytes]
theorem sbytes_inj {s t : ByteArray} (h : sbytes s = sbytes t) : s = t := by
  obtain ⟨⟨x⟩⟩ := s
  obtain ⟨⟨y⟩⟩ := t
  have : x = y := by
    have h' : x.map (fun b : UInt8 => (b.toNat : Int)) = y.map (fun b : UInt8 => (b.toNat : Int)) := h
    refine (List.map_inj_right ?_).1 h'
    intro a b hab
    exact UInt8.toNat_inj.1 (by exact_mod_cast hab)
  subst this; rfl
theorem ixs_of {s : ByteArray} {i : Nat} {x : Int} (h : (sbytes s)[i]? = some x) : ixs s (i : Int) = some x := by
  have hl := (List.getElem?_eq_some_iff.1 h).1
  rw [sbytes_len] at hl
  unfold ixs
  rw [if_pos (by omega), if_pos (by omega)]
  unfold sbytes at h
  rw [List.getElem?_map] at h
  cases hx : s.data.toList[i]? with
  | none => rw [hx] at h; cases h
  | some b =>
    rw [hx] at h
    have h := Option.some.inj h
    simp [List.getD, hx, h]
theorem sbytes_range {s : ByteArray} {x : Int} (h : x ∈ sbytes s) : 0 ≤ x ∧ x < 256 := by
  unfold sbytes at h
  obtain ⟨b, _, rfl⟩ := List.mem_map.1 h
  have := b.toNat_lt
  omega
theorem compareBytes_eq : ∀ (xs ys : List UInt8), Lib.compareBytes xs ys = lexL ord3 (xs.map fun b => (b.toNat : Int)) (ys.map fun b => (b.toNat : Int))
  | [], [] => rfl
  | [], _ :: _ => rfl
  | _ :: _, [] => rfl
  | x :: xs, y :: ys => by
    simp only [Lib.compareBytes, List.map_cons, lexL, compareBytes_eq xs ys]
    have e1 : x < y ↔ (x.toNat : Int) < y.toNat := by rw [UInt8.lt_iff_toNat_lt]; omega
    have e2 : y < x ↔ (y.toNat : Int) < x.toNat := by rw [UInt8.lt_iff_toNat_lt]; omega
    unfold ord3
    by_cases h1 : x < y
    · have := e1.1 h1
      simp [h1, this]
    · by_cases h2 : y < x
      · have a := e2.1 h2
        have b := mt e1.2 h1
        simp only [if_neg h1, if_pos h2, if_neg b, gt_iff_lt, if_pos a]; simp
      · have a := mt e2.2 h2
        have b := mt e1.2 h1
        simp only [if_neg h1, if_neg h2, if_neg b, gt_iff_lt, if_neg a, if_true]
theorem compareBytes_sb (s t : ByteArray) : Lib.compareBytes s.data.toList t.data.toList = lexL ord3 (sbytes s) (sbytes t) := compareBytes_eq _ _
def leC (c : α → α → Int) (x y : α) : Bool := decide (c x y ≤ 0)
def sortC (c : α → α → Int) (xs : List α) : List α := xs.mergeSort (leC c)
def insC (c : α → α → Int) (x : α) : List α → List α
  | [] => [x]
  | y :: r => if c x y ≤ 0 then x :: y :: r else y :: insC c x r
def isortC (c : α → α → Int) : List α → List α
  | [] => []
  | x :: r => insC c x (isortC c r)
def Asc (c : α → α → Int) (xs : List α) : Prop := xs.Pairwise fun x y => c x y ≤ 0
theorem asc_uniq {c : α → α → Int} (h : IsCmp c) (h0 : ∀ x y, c x y = 0 → x = y) {xs ys : List α} (h1 : Asc c xs) (h2 : Asc c ys) (hp : xs.Perm ys) : xs = ys :=
  List.Perm.eq_of_pairwise (fun x y _ _ h3 h4 => h0 x y (by have := h.flip x y; omega)) h1 h2 hp
theorem sortC_asc {c : α → α → Int} (h : IsCmp c) (xs : List α) : Asc c (sortC c xs) := by
  have := List.pairwise_mergeSort (le := leC c) (fun x y z h1 h2 => by
    simp only [leC, decide_eq_true_eq] at *
    exact h.trans x y z h1 h2) (fun x y => by
    have := h.flip x y
    simp only [leC, Bool.or_eq_true, decide_eq_true_eq]
    omega) xs
  exact this.imp fun h => by simpa [leC] using h
theorem sortC_perm (c : α → α → Int) (xs : List α) : (sortC c xs).Perm xs := List.mergeSort_perm _ _
theorem insC_perm (c : α → α → Int) (x : α) : ∀ ys, (insC c x ys).Perm (x :: ys)
  | [] => List.Perm.refl _
  | y :: r => by
    unfold insC
    split
    · exact List.Perm.refl _
    · exact ((insC_perm c x r).cons y).trans (List.Perm.swap x y r)
theorem isortC_perm (c : α → α → Int) : ∀ xs, (isortC c xs).Perm xs
  | [] => List.Perm.refl _
  | x :: r => (insC_perm c x _).trans ((isortC_perm c r).cons x)
theorem insC_asc {c : α → α → Int} (h : IsCmp c) (x : α) : ∀ {ys}, Asc c ys → Asc c (insC c x ys)
  | [], _ => List.pairwise_singleton _ _
  | y :: r, hy => by
    obtain ⟨h1, h2⟩ := List.pairwise_cons.1 hy
    unfold insC
    split
    · rename_i hxy
      refine List.Pairwise.cons (fun z hz => ?_) hy
      cases hz with
      | head => exact hxy
      | tail _ hz => exact h.trans x y z hxy (h1 z hz)
    · rename_i hxy
      refine List.Pairwise.cons (fun z hz => ?_) (insC_asc h x h2)
      have hz' := (insC_perm c x r).mem_iff.1 hz
      cases hz' with
      | head => have := h.flip x y; omega
      | tail _ hz => exact h1 z hz
theorem isortC_asc {c : α → α → Int} (h : IsCmp c) : ∀ xs, Asc c (isortC c xs)
  | [] => List.Pairwise.nil
  | x :: r => insC_asc h x (isortC_asc h r)
theorem sortC_isort {c : α → α → Int} (h : IsCmp c) (h0 : ∀ x y, c x y = 0 → x = y) (xs : List α) : sortC c xs = isortC c xs :=
  asc_uniq h h0 (sortC_asc h xs) (isortC_asc h xs) ((sortC_perm c xs).trans (isortC_perm c xs).symm)
theorem sortC_of_perm {c : α → α → Int} (h : IsCmp c) (h0 : ∀ x y, c x y = 0 → x = y) {xs ys : List α} (hp : xs.Perm ys) : sortC c xs = sortC c ys :=
  asc_uniq h h0 (sortC_asc h xs) (sortC_asc h ys) ((sortC_perm c xs).trans (hp.trans (sortC_perm c ys).symm))
theorem sortC_len (c : α → α → Int) (xs : List α) : (sortC c xs).length = xs.length := (sortC_perm c xs).length_eq
theorem mem_sortC {c : α → α → Int} {xs : List α} {x : α} : x ∈ sortC c xs ↔ x ∈ xs := (sortC_perm c xs).mem_iff
theorem sortBy_cmp {p : α → α → Option Int} {c : α → α → Int} {xs : List α} (h : IsCmp c) (h0 : ∀ x y, c x y = 0 → x = y) (hp : ∀ x ∈ xs, ∀ y ∈ xs, p x y = some (c x y)) (hl : xs.length < 4611686018427387904) : sortBy p xs = some (sortC c xs) := by
  have hlt : ∀ x ∈ xs, ∀ y ∈ xs, ltc p x y = decide (c x y < 0) := fun x hx y hy => by unfold ltc; rw [hp x hx y hy]
  rw [sortBy_of ⟨fun x hx y hy => by rw [hp x hx y hy]; rfl, fun x hx => by rw [hlt x hx x hx, h.refl]; rfl, fun x hx y hy z hz h1 h2 => ?_, fun x hx y hy z hz h1 h2 => ?_, fun x hx y hy h1 h2 => ?_⟩ hl]
  · congr 1
    have := List.map_mergeSort (r := fun x y => !ltc p y x) (s := leC c) (f := id) (l := xs) (fun x hx y hy => by
      have := h.flip x y
      rw [hlt y hy x hx]
      simp only [id, leC, ← decide_not]
      exact decide_eq_decide.2 (by omega))
    simpa [sortC] using this
  · rw [hlt _ hx _ hy] at h1
    rw [hlt _ hy _ hz] at h2
    rw [hlt _ hx _ hz]
    simp only [decide_eq_true_eq] at *
    exact h.lt1 h1 (by omega)
  · rw [hlt _ hx _ hy] at h1
    rw [hlt _ hy _ hz] at h2
    rw [hlt _ hx _ hz]
    simp only [decide_eq_false_iff_not] at *
    have a := h.flip x y
    have b := h.flip y z
    have d := h.flip x z
    have := h.trans z y x (by omega) (by omega)
    omega
  · rw [hlt _ hx _ hy] at h1
    rw [hlt _ hy _ hx] at h2
    simp only [decide_eq_false_iff_not] at *
    have a := h.flip x y
    exact h0 x y (by omega)
end
end Go.Eng
end
section
namespace Go.Eng
open Go.RowKit Go.ChangeShapes Go.WideShapes
set_option linter.unusedVariables false
set_option linter.unusedSimpArgs false
def Opn {α : Type} (P : Program) (t : TypeId) (ty : Ty α) (ok : α → Prop) : Prop :=
  ∀ {H : Type} (enc : TypeId × Value → H) (w : World) (held : Bool) (fuel : Nat) (cs : List Value) (d : DataW H) (p : List MemPlace),
    DataW.trod enc P w 0 (fun _ => true) held fuel t cs = some (d, p) → (∀ n ∈ d.weights P t, n ≤ reachBytes) → ∃ x, ty.rep (hpOf w) cs x ∧ ok x
section
variable {P : Program} {t : TypeId}
theorem opn_int {k : IntKind} (hu : P.underlying t = some (.int k)) : Opn P t (tyInt k) (fun x => (Lit.int k x).wf = true) := by
  intro H enc w held fuel cs d p h _
  obtain ⟨n, h1, h2, h3⟩ := DataW.trod_int hu h
  exact ⟨n, h1, h3⟩
theorem opn_str (hu : P.underlying t = some .string) : Opn P t tyStr (fun s => s.size ≤ 140737488351232) := by
  intro H enc w held fuel cs d p h hw
  obtain ⟨s, h1, h2, _⟩ := DataW.trod_string hu h
  simp only [Prod.mk.injEq] at h2
  obtain ⟨rfl, _⟩ := h2
  refine ⟨s, h1, ?_⟩
  have := hw s.data.toList.length (by simp [DataW.weights])
  rw [Array.length_toList] at this
  exact this
theorem weightsAll_mem {H : Type} {e : TypeId} : ∀ {ds : List (DataW H)} {d : DataW H}, d ∈ ds → ∀ n ∈ d.weights P e, n ∈ DataW.weightsAll P e ds
  | d0 :: ds, d, hd, n, hn => by
    simp only [DataW.weightsAll, List.mem_append]
    cases hd with
    | head => exact Or.inl hn
    | tail _ hd => exact Or.inr (weightsAll_mem hd n hn)
theorem opn_slice {α : Type} {e : TypeId} {ty : Ty α} {ok : α → Prop} {B : Nat} (hu : P.underlying t = some (.slice e)) (hc : P.cellsOf e = ty.n) (hpos : 0 < ty.n) (hB : P.bytesOf e = B) (he : Opn P e ty ok) :
    Opn P t (tySl ty) (fun xs => xs.length * B ≤ 140737488351232 ∧ ∀ x ∈ xs, ok x) := by
  intro H enc w held fuel cs d p h hw
  rcases Go.Deep.open_slice hu h with ⟨rfl, hx⟩ | ⟨a, len, cap, m, n, D, Pl, rfl, _, hl, _, hm, hx, hel⟩
  · exact ⟨[], ⟨_, rfl, SlR.nil _ _⟩, by simp, by simp⟩
  · simp only [if_true] at hm
    subst hm
    simp only [Prod.mk.injEq] at hx
    obtain ⟨rfl, _⟩ := hx
    have hmemw : ∀ i, i < len → ∀ n ∈ (D i).weights P e, n ≤ reachBytes := fun i hi n hn => hw n (by
      simp only [DataW.weights, hu, List.mem_cons, List.mem_append]
      exact Or.inr (Or.inl (weightsAll_mem (List.mem_map.2 ⟨i, List.mem_range.2 hi, rfl⟩) n hn)))
    have hsz := hw ((len + (m - len)) * P.bytesOf e) (by simp [DataW.weights, hu])
    rw [hB] at hsz
    have hex : ∀ i, i < len → ∃ x, (∃ cs', w.cells? 0 (a.add (i * ty.n)) ty.n = some cs' ∧ ty.rep (hpOf w) cs' x) ∧ ok x := fun i hi => by
      obtain ⟨cs', h1, h2⟩ := hel i (by omega)
      rw [hc] at h1
      obtain ⟨x, h3, h4⟩ := he enc w held n cs' (D i) (Pl i) h2 (hmemw i hi)
      exact ⟨x, ⟨cs', h1, h3⟩, h4⟩
    have hlist : ∀ k, k ≤ len → ∃ xs : List α, xs.length = k ∧ ∀ i x, xs[i]? = some x → (∃ cs', w.cells? 0 (a.add (i * ty.n)) ty.n = some cs' ∧ ty.rep (hpOf w) cs' x) ∧ ok x := by
      intro k
      induction k with
      | zero => intro _; exact ⟨[], rfl, fun i x h => by simp at h⟩
      | succ k ih =>
        intro hk
        obtain ⟨xs, h1, h2⟩ := ih (by omega)
        obtain ⟨x, h3⟩ := hex k (by omega)
        refine ⟨xs ++ [x], by simp [h1], fun i y hy => ?_⟩
        rw [List.getElem?_append] at hy
        by_cases hi : i < xs.length
        · rw [if_pos hi] at hy; exact h2 i y hy
        · rw [if_neg hi] at hy
          have : i = k := by
            have := (List.getElem?_eq_some_iff.1 hy).1
            simp at this; omega
          subst this
          rw [h1, Nat.sub_self] at hy
          simp at hy; subst hy
          exact h3
    obtain ⟨xs, hxl, hxs⟩ := hlist len (Nat.le_refl _)
    refine ⟨xs, ⟨_, rfl, some a, m, by rw [hxl], by omega, fun hne => ?_⟩, ?_, fun x hx => ?_⟩
    · have h0 : xs[0]? = some (xs.head hne) := by cases xs with | nil => exact absurd rfl hne | cons x r => rfl
      obtain ⟨⟨cs', h1, h2⟩, _⟩ := hxs 0 _ h0
      obtain ⟨_, hlen, hget⟩ := World.cells?_some h1
      have hsp : a.spot = none := by
        have hl' := ty.len h2
        match cs', hl' with
        | [], hl' => simp at hl'; omega
        | c :: _, _ =>
          have := hget 0 hpos
          simp only [List.getElem?_cons_zero] at this
          simp only [Nat.zero_mul] at this
          have e0 : (a.add 0).add 0 = a := by simp [Addr.add]
          rw [e0] at this
          unfold World.cell? at this
          split at this
          · split at this
            · cases this
            · rename_i hs; simpa using hs
          · cases this
      obtain ⟨b, o, s⟩ := a
      simp only at hsp
      subst hsp
      refine ⟨b, o, rfl, fun i x hx => ?_⟩
      obtain ⟨⟨cs'', h3, h4⟩, _⟩ := hxs i x hx
      refine ⟨cs'', h4, fun j u hu => ?_⟩
      obtain ⟨_, _, hget'⟩ := World.cells?_some h3
      have hjl := (List.getElem?_eq_some_iff.1 hu).1
      rw [ty.len h4] at hjl
      have hcell := hget' j hjl
      rw [hu] at hcell
      rw [add_lit, add_lit] at hcell
      unfold World.cell? at hcell
      unfold Hp.cell hpOf
      split at hcell
      · rename_i hh; rw [hh]; simpa using hcell
      · cases hcell
    · have : len + (m - len) = m := by omega
      rw [this] at hsz
      rw [hxl]
      have : reachBytes = 140737488351232 := rfl
      rw [this] at hsz
      exact Nat.le_trans (Nat.mul_le_mul_right _ hl) hsz
    · obtain ⟨i, hi, e⟩ := List.getElem_of_mem hx
      exact (hxs i x (by rw [List.getElem?_eq_getElem hi, e])).2
theorem struct_open {H : Type} {enc : TypeId × Value → H} {w : World} {held : Bool} {fuel : Nat} {cs : List Value} {d : DataW H} {p : List MemPlace} {fs : Array Field} (hu : P.underlying t = some (.struct fs)) (h : DataW.trod enc P w 0 (fun _ => true) held fuel t cs = some (d, p)) (hw : ∀ n ∈ d.weights P t, n ≤ reachBytes) :
    cs.length = P.cellsOf t ∧ ∃ m, ∀ (i : Nat) (f : Field), fs[i]? = some f → ∃ d' p', DataW.trod enc P w 0 (fun _ => true) held m f.type ((cs.drop f.offset).take (P.cellsOf f.type)) = some (d', p') ∧ ∀ n ∈ d'.weights P f.type, n ≤ reachBytes := by
  cases fuel with
  | zero => simp [DataW.trod] at h
  | succ fuel =>
    rw [DataW.trod_step] at h
    unfold DataW.trodStep at h
    simp only [hu] at h
    split at h
    · rename_i hl
      refine ⟨hl, fuel, fun i f hf => ?_⟩
      rw [Option.map_eq_some_iff] at h
      obtain ⟨xs, hxs, he⟩ := h
      simp only [Prod.mk.injEq] at he
      obtain ⟨rfl, _⟩ := he
      have hm := hxs
      have key : ∀ (l : List Field) (ys : List (DataW H × List MemPlace)), l.mapM (fun f => DataW.trod enc P w 0 (fun _ => true) held fuel f.type ((cs.drop f.offset).take (P.cellsOf f.type))) = some ys → ∀ (i : Nat) (f : Field), l[i]? = some f → ∃ y, ys[i]? = some y ∧ DataW.trod enc P w 0 (fun _ => true) held fuel f.type ((cs.drop f.offset).take (P.cellsOf f.type)) = some y := by
        intro l
        induction l with
        | nil => intro ys _ i f hf; simp at hf
        | cons g l ih =>
          intro ys hys i f hf
          rw [List.mapM_cons] at hys
          simp only [Option.bind_eq_bind, Option.bind_eq_some_iff, Option.pure_def, Option.some.injEq] at hys
          obtain ⟨y, hy, zs, hzs, rfl⟩ := hys
          cases i with
          | zero => simp at hf; subst hf; exact ⟨y, rfl, hy⟩
          | succ i => simp only [List.getElem?_cons_succ] at hf ⊢; exact ih zs hzs i f hf
      obtain ⟨y, hy1, hy2⟩ := key fs.toList xs hm i f (by simpa using hf)
      refine ⟨y.1, y.2, hy2, fun n hn => hw n ?_⟩
      simp only [DataW.weights, hu]
      exact DataW.weights_mem_each (j := i) (t := f.type) (d := y.1) (by simp [hf]) (by simp [hy1]) n hn
    · cases h
def ok_Arr8 (h : Arr8) : Prop := ∀ x ∈ h.list, (Lit.int .i64 x).wf = true
theorem ints_of {k : IntKind} : ∀ (cs : List Value), (∀ i, i < cs.length → ∃ x, cs[i]? = some (Value.int k x) ∧ (Lit.int k x).wf = true) → ∃ xs : List Int, cs = xs.map (Value.int k ·) ∧ ∀ x ∈ xs, (Lit.int k x).wf = true
  | [], _ => ⟨[], rfl, fun _ h => by cases h⟩
  | c :: r, h => by
    obtain ⟨x, h1, h2⟩ := h 0 (by simp)
    obtain ⟨xs, h3, h4⟩ := ints_of r (fun i hi => by simpa using h (i + 1) (by simpa using hi))
    have h1' : c = Value.int k x := by simpa using h1
    exact ⟨x :: xs, by rw [h1', h3]; rfl, fun y hy => by
      cases hy with
      | head => exact h2
      | tail _ hy => exact h4 y hy⟩
theorem arr_open {H : Type} {enc : TypeId × Value → H} {w : World} {held : Bool} {fuel : Nat} {cs : List Value} {d : DataW H} {p : List MemPlace} {n : Nat} {e : TypeId} {k : IntKind} (hu : P.underlying t = some (.array n e)) (he : P.underlying e = some (.int k)) (hce : P.cellsOf e = 1) (hct : P.cellsOf t = n)
    (h : DataW.trod enc P w 0 (fun _ => true) held fuel t cs = some (d, p)) : ∃ xs : List Int, xs.length = n ∧ cs = xs.map (Value.int k ·) ∧ ∀ x ∈ xs, (Lit.int k x).wf = true := by
  cases fuel with
  | zero => simp [DataW.trod] at h
  | succ fuel =>
    rw [DataW.trod_step] at h
    unfold DataW.trodStep at h
    simp only [hu] at h
    split at h
    · rename_i hl
      rw [Option.map_eq_some_iff] at h
      obtain ⟨ys, hys, _⟩ := h
      have key : ∀ (l : List Nat) (ys : List (DataW H × List MemPlace)), l.mapM (fun i => DataW.trod enc P w 0 (fun _ => true) held fuel e ((cs.drop (i * P.cellsOf e)).take (P.cellsOf e))) = some ys → ∀ i ∈ l, ∃ y, DataW.trod enc P w 0 (fun _ => true) held fuel e ((cs.drop (i * P.cellsOf e)).take (P.cellsOf e)) = some y := by
        intro l
        induction l with
        | nil => intro ys _ i hi; cases hi
        | cons g l ih =>
          intro ys hys i hi
          rw [List.mapM_cons] at hys
          simp only [Option.bind_eq_bind, Option.bind_eq_some_iff, Option.pure_def, Option.some.injEq] at hys
          obtain ⟨y, hy, zs, hzs, rfl⟩ := hys
          cases hi with
          | head => exact ⟨y, hy⟩
          | tail _ hi => exact ih zs hzs i hi
      rw [hct] at hl
      obtain ⟨xs, h1, h2⟩ := ints_of (k := k) cs (fun i hi => by
        obtain ⟨y, hy⟩ := key _ ys hys i (List.mem_range.2 (by omega))
        obtain ⟨x, h3, _, h4⟩ := DataW.trod_int he (show DataW.trod enc P w 0 (fun _ => true) held fuel e _ = some (y.1, y.2) from hy)
        rw [hce, Nat.mul_one] at h3
        refine ⟨x, ?_, h4⟩
        have := congrArg (fun l : List Value => l[0]?) h3
        simpa using this)
      exact ⟨xs, by rw [h1, List.length_map] at hl; exact hl, h1, h2⟩
    · cases h
theorem opn_Arr8 {e : TypeId} (hu : P.underlying t = some (.array 8 e)) (hce : P.cellsOf e = 1) (hct : P.cellsOf t = 8) (he : P.underlying e = some (.int .i64)) : Opn P t ty_Arr8 ok_Arr8 := by
  intro H enc w held fuel cs d p h hw
  obtain ⟨xs, h1, h2, h3⟩ := arr_open hu he hce hct h
  match xs, h1 with
  | [a0, a1, a2, a3, a4, a5, a6, a7], _ => exact ⟨⟨a0, a1, a2, a3, a4, a5, a6, a7⟩, h2, h3⟩
theorem Opn.field {α : Type} {H : Type} {enc : TypeId × Value → H} {w : World} {held : Bool} {cs : List Value} {fs : Array Field} {m : Nat} {ty : Ty α} {ok : α → Prop} {ft off k : Nat}
    (hall : ∀ (i : Nat) (f : Field), fs[i]? = some f → ∃ d' p', DataW.trod enc P w 0 (fun _ => true) held m f.type ((cs.drop f.offset).take (P.cellsOf f.type)) = some (d', p') ∧ ∀ n ∈ d'.weights P f.type, n ≤ reachBytes)
    (i : Nat) (f : Field) (hf : fs[i]? = some f) (ht : f.type = ft) (ho : f.offset = off) (hc : P.cellsOf ft = k) (he : Opn P ft ty ok) : ∃ x, ty.rep (hpOf w) ((cs.drop off).take k) x ∧ ok x := by
  obtain ⟨d', p', h1, h2⟩ := hall i f hf
  subst ht; subst ho; subst hc
  exact he enc w held m _ d' p' h1 h2
theorem arr_of {cs : Array Value} {l : List Value} (h : cs.toList = l) : cs = l.toArray := by subst h; simp
theorem okWide_agg {w : World} {r : Reach} {base : Nat} {v : Value} {d : TypeDesc} (ht : P.underlying t = some d) (hd : (match d with | .struct _ | .array _ _ => true | _ => false) = true) (h : Value.okWide P w r base t v) : ∃ cs, v = .agg cs := by
  simp only [Value.okWide, ht] at h
  cases d <;> simp at hd
  · obtain ⟨cs, h1, _⟩ := h; exact ⟨cs, h1⟩
  · obtain ⟨cs, h1, _⟩ := h; exact ⟨cs, h1⟩
theorem Opn.arg {α : Type} {ty : Ty α} {ok : α → Prop} {H : Type} {enc : TypeId × Value → H} {w : World} {v : Value} {d : DataW H} {p : List MemPlace} (he : Opn P t ty ok) (h : DataW.Trod enc P w 0 (fun _ => true) true t v d p) {ts : List TypeId} {ds : List (DataW H)} (hsz : (DataW.weightsEach P ts ds).all (· ≤ reachBytes) = true) {j : Nat} (ht : ts[j]? = some t) (hd : ds[j]? = some d) :
    ∃ x, ty.rep (hpOf w) v.cells.toList x ∧ ok x := by
  obtain ⟨fuel, hf⟩ := h
  exact he enc w true fuel _ d p hf (fun n hn => by simpa using List.all_eq_true.1 hsz n (DataW.weights_mem_each ht hd n hn))
end
theorem Bel.of_grow (w : World) (k : Nat) (os : Array Obj) : Bel [] w (Sort.grow (w.drewN k) os) :=
  ⟨rfl, rfl, rfl, by show w.heap.size ≤ (w.heap ++ os).size; simp, .of (by show w.drawn ≤ w.drawn + k; omega), fun j hj _ => by show (w.heap ++ os)[j]? = w.heap[j]?; rw [Array.getElem?_append_left hj]⟩
end Go.Eng
end
section
namespace Go.Eng
set_option linter.unusedVariables false
theorem change_all {H : Type} {enc : TypeId × Value → H} {a : Assume} {C : Checked} {os : Os} {f : FuncId} {fn : Func} {s : ChangeSpec} {conds : List PathCond} {apart fresh handsOn again : Bool} {X : World → Array Value → Prop}
    (hX : ∀ (w w' : World) (args : Array Value), w.heap = w'.heap → X w args → X w' args)
    (own : ownKnob C.prog.godebug = none) (started : os.Started) (noInit : C.prog.inits.idxOf? f = none) (hfn : C.prog.funcs[f]? = some fn)
    (witness : ∃ (w : World) (tape : Tape) (i : Input), w.os = os ∧ (w.forCall tape i).Shaped C.prog ∧ i.vars = [] ∧ Input.okWide C.prog (w.forCall tape i) .any w.heap.size f i ∧
      ((s.pre enc C.prog fn conds apart (w.forCall tape i).memory i.args ∧ X (w.forCall tape i).memory i.args) ∧ sizedMet enc C.prog fn (OpenSpec.ofChange s) apart (w.forCall tape i).memory i.args) ∧ a.holds C.prog (lone (Frame.enter C.prog f i.args .normal) [] (w.forCall tape i)))
    (contract : ∀ (W : World) (base : Nat) (args : Array Value) (ds gs : List (DataW H)) (before : List MemPlace),
      (∀ (j : Nat) t v, fn.params[j]? = some t → args[j]? = some v → Value.okWide C.prog W .any base t v) →
      DataW.Whole enc C.prog fn.params.toList s.vars apart W args.toList ds gs before →
      conds.all (PathCond.test C.prog ⟨fn.params.toList, ds, s.plain.varTypes C.prog, gs⟩) = true →
      (DataW.weightsEach C.prog (fn.params.toList ++ s.plain.varTypes C.prog) (ds ++ gs)).all (· ≤ reachBytes) = true → X W args → W.ShapedOpen C.prog →
      a.holds C.prog (lone (Frame.enter C.prog f args .normal) [] W) →
      Calls C.prog f args W fun e W' => ∃ v, e = .returned v ∧ s.post enc C.prog fn apart fresh handsOn again W args v W') :
    ReturnsInHanded a C os f .any (fun w args => (s.pre enc C.prog fn conds apart w args ∧ X w args) ∧ sizedMet enc C.prog fn (OpenSpec.ofChange s) apart w args) (s.post enc C.prog fn apart fresh handsOn again) := by
  refine returnsInHanded_of_calls own started noInit witness ?_
  intro w tape i _ hsh _ hok hpre hholds
  obtain ⟨_, _, _, fn', hfn', _, _, _, _, hval⟩ := hok
  have e : fn' = fn := Option.some.inj (hfn'.symm.trans hfn)
  subst e
  obtain ⟨⟨⟨ds, gs, before, hw, hc⟩, hx⟩, hz⟩ := hpre
  have hw' := DataW.Whole.of_heap (w' := w.forCall tape i) (by rfl) hw
  refine (contract (w.forCall tape i) w.heap.size i.args ds gs before hval hw' hc (hz.weights hw) (hX _ _ _ (by rfl) hx) hsh hholds).mono fun e W' ⟨v, he, hp⟩ => ?_
  subst he
  exact ChangeSpec.post_blind hp
theorem tabIs_third {P : Program} {W : World} {name : String} {k : IntKind} {zs : List Int} {x y : String × DataW Unit} {rest : List (String × DataW Unit)} {g : Nat} {t e : TypeId} {n : Nat}
    (hg : P.globalNamed name = some g) (hty : (P.globals[g]?).map (·.type) = some t) (ht : P.underlying t = some (.array n e)) (he : P.underlying e = some (.int k)) (hce : P.cellsOf e = 1) (hct : P.cellsOf t = n)
    (h : laidMet P (x :: y :: (name, Lib.tabData k zs) :: rest) W) : Lib.TabIs P W name k zs := by
  obtain ⟨ps, ⟨_, _, _, _, _, _, _, _, _, _, ⟨_, _, _, _, _, _, _, _, _, _, ⟨g', t', cs, fuel, p, q, hg', ht', hvar, hd, _, _⟩, _⟩, _⟩, _⟩ := h
  obtain rfl := Option.some.inj (hg.symm.trans hg')
  obtain rfl := Option.some.inj (hty.symm.trans ht')
  unfold Lib.TabIs
  rw [hvar, ← Lib.cells_of_tab ht he hce hct hd]
theorem tabIs_of_hp {P : Program} {W w : World} {name : String} {k : IntKind} {zs : List Int} (hw : (hpOf W).sub w) (h : Lib.TabIs P W name k zs) : Lib.TabIs P w name k zs := by
  unfold Lib.TabIs World.var? at *
  cases hg : P.globalNamed name with
  | none => rw [hg] at h; cases h
  | some g =>
    rw [hg] at h
    simp only [Option.bind_some] at h ⊢
    cases hW : W.heap[g]? with
    | none => rw [hW] at h; cases h
    | some o =>
      rw [hW] at h
      rw [show w.heap[g]? = some o from hw g o hW]
      exact h
end Go.Eng
end
section
namespace Go.Eng
open Go.RowKit Go.MapKept
set_option linter.unusedVariables false
set_option linter.unusedSimpArgs false
section
variable {κ ν : Type} [DecidableEq κ]
def mget : List (κ × ν) → κ → Option ν
  | [], _ => none
  | p :: r, x => if p.1 = x then some p.2 else mget r x
def mset : List (κ × ν) → κ → ν → List (κ × ν)
  | [], x, y => [(x, y)]
  | p :: r, x, y => if p.1 = x then (x, y) :: r else p :: mset r x y
theorem mget_mset (m : List (κ × ν)) (x z : κ) (y : ν) : mget (mset m x y) z = if x = z then some y else mget m z := by
  induction m with
  | nil => simp [mset, mget]
  | cons p r ih =>
    simp only [mset]
    by_cases h : p.1 = x
    · simp only [if_pos h, mget]
      by_cases hz : x = z
      · simp [hz]
      · simp only [if_neg hz]
        rw [if_neg (by rw [h]; exact hz)]
    · simp only [if_neg h, mget, ih]
      by_cases hp : p.1 = z
      · by_cases hz : x = z
        · exact absurd (hp.trans hz.symm) h
        · simp [hp, hz]
      · simp [hp]
end
def kvs {κ ν : Type} (fk : κ → Value) (fv : ν → Value) (m : List (κ × ν)) : List (Value × Value) := m.map fun p => (fk p.1, fv p.2)
structure KeyT {κ : Type} [DecidableEq κ] (d : TypeDesc) (fk : κ → Value) : Prop where
  isKey : ∀ x, IsKey d (fk x)
  same : ∀ x y, Instr.sameNow d (fk x) (fk y) = some (decide (x = y))
theorem key_str : KeyT .string Value.string := ⟨fun _ => trivial, fun x y => by
  simp only [Instr.sameNow]
  congr 1
  rw [Bool.eq_iff_iff, bytes_beq]
  simp⟩
section
variable {κ ν : Type} [DecidableEq κ] {kd : TypeDesc} {fk : κ → Value} {fv : ν → Value}
theorem find_kvs (hk : KeyT kd fk) (x : κ) : ∀ (l : List MapEntry) (m : List (κ × ν)) (i : Nat), l.map (fun e => (e.key, e.val)) = kvs fk fv m →
    (Instr.findNow kd (fk x) l i = some none ∧ mget m x = none ∧ ∀ y, mset m x y = m ++ [(x, y)]) ∨
    ∃ j y e, Instr.findNow kd (fk x) l i = some (some (i + j, fv y)) ∧ mget m x = some y ∧ l[j]? = some e ∧ e.key = fk x ∧ j < l.length ∧ ∀ z, mset m x z = m.set j (x, z)
  | [], m, i, h => by
    cases m with
    | nil => exact .inl ⟨rfl, rfl, fun y => rfl⟩
    | cons p r => simp [kvs] at h
  | e :: es, m, i, h => by
    cases m with
    | nil => simp [kvs] at h
    | cons p r =>
      simp only [kvs, List.map_cons, List.cons.injEq, Prod.mk.injEq] at h
      obtain ⟨⟨h1, h2⟩, h3⟩ := h
      by_cases hp : p.1 = x
      · right
        refine ⟨0, p.2, e, ?_, by simp [mget, hp], rfl, by rw [h1, hp], by simp, fun z => by simp [mset, hp]⟩
        simp only [Instr.findNow, h1, hk.same, hp, decide_true, h2, Nat.add_zero]
      · have hne : ¬ x = p.1 := fun q => hp q.symm
        have hf : Instr.findNow kd (fk x) (e :: es) i = Instr.findNow kd (fk x) es (i + 1) := by
          simp only [Instr.findNow, h1, hk.same, decide_eq_false hne]
        rcases find_kvs hk x es r (i + 1) h3 with ⟨g1, g2, g3⟩ | ⟨j, y, e', g1, g2, g3, g4, g5, g6⟩
        · left
          exact ⟨by rw [hf, g1], by simp [mget, hp, g2], fun y => by simp [mset, hp, g3]⟩
        · right
          refine ⟨j + 1, y, e', by rw [hf, g1]; congr 3; omega, by simp [mget, hp, g2], by simpa using g3, g4, by simpa using g5, fun z => by simp [mset, hp, g6]⟩
end
def MpR (R : Hp) (b : Nat) (kv : List (Value × Value)) : Prop := ∃ es cl, R b = some (.map es cl) ∧ entriesOf es = kv
theorem MpR.mono {R R' : Hp} {b : Nat} {kv : List (Value × Value)} (h : MpR R b kv) (hR : R.le R') : MpR R' b kv := by
  obtain ⟨es, cl, h1, h2⟩ := h
  exact ⟨es, cl, hR _ _ h1, h2⟩
section
variable {κ ν : Type} [DecidableEq κ] {kd : TypeDesc} {fk : κ → Value} {fv : ν → Value}
variable {P : Program} {ops : Array Oper} {Q : Exit → Act → World → Prop} {a : Act} {w0 w : World} {M : List Own} {R : Hp} {O : List Own} {rest : List Oper} {n : Fr} {L : Sl}
variable {d : Option Tmp} {ty' : TypeId} {pos : String} {af : Array Edge} {g : Option (Nat × Bool)}
theorem lookup_run {t kt et : TypeId} {b : Nat} {es : Array MapEntry} {cl : Nat} {m : List (κ × ν)} {x : κ} {z : ν} (ok : Bool) (hm : P.underlying t = some (.map kt et)) (hd : P.underlying kt = some kd) (hk : KeyT kd fk) (hz : ∀ w, (zeroValue et).run P w = .ok (fv z) w)
    (hb : w.heap[b]? = some (.map es cl)) (he : entriesOf es = kvs fk fv m) :
    (Instr.lookup t (.map (some b)) (fk x) ok).run P w = .ok (if ok then .tuple #[fv ((mget m x).getD z), .bool (mget m x).isSome] else fv ((mget m x).getD z)) w := by
  rcases find_kvs (fv := fv) hk x es.toList m 0 he with ⟨h1, h2, _⟩ | ⟨j, y, e, h1, h2, _⟩
  · cases ok <;> simp [Instr.lookup, run_underlying hm, MapKept.run_getObj_map hb, MapKept.run_checkKey hd (hk.isKey x), MapKept.run_findKey hd h1, Result.andThen, h2, hz]
  · cases ok <;> simp [Instr.lookup, run_underlying hm, MapKept.run_getObj_map hb, MapKept.run_checkKey hd (hk.isKey x), MapKept.run_findKey hd h1, Result.andThen, h2]
theorem r_lookup {mp key : Operand} {t kt et : TypeId} {b : Nat} {es : Array MapEntry} {cl : Nat} {m : List (κ × ν)} {x : κ} {z : ν} {ok : Bool} {v : Value} (hm : P.underlying t = some (.map kt et)) (hd : P.underlying kt = some kd) (hk : KeyT kd fk) (hz : ∀ w, (zeroValue et).run P w = .ok (fv z) w)
    (hb : w.heap[b]? = some (.map es cl)) (he : entriesOf es = kvs fk fv m) (hv : v = if ok then .tuple #[fv ((mget m x).getD z), .bool (mget m x).isSome] else fv ((mget m x).getD z)) (hK : Kn n a L) (hx : ev L mp = some (.map (some b))) (hy : ev L key = some (fk x)) :
    Runs P w a ⟨d, .lookup t mp key ok, ty', pos, af, g⟩ v := by
  subst hv
  simp [Runs, execOp, hK.ev hx, hK.ev hy, lookup_run ok hm hd hk hz hb he]
theorem r_lookup_O {mp key : Operand} {t kt et : TypeId} {b : Nat} {m : List (κ × ν)} {x : κ} {z : ν} {ok : Bool} {v : Value} (hm : P.underlying t = some (.map kt et)) (hd : P.underlying kt = some kd) (hk : KeyT kd fk) (hz : ∀ w, (zeroValue et).run P w = .ok (fv z) w)
    (hS : St M w0 w R O) (hmem : Own.mp b (kvs fk fv m) ∈ O) (hv : v = if ok then .tuple #[fv ((mget m x).getD z), .bool (mget m x).isSome] else fv ((mget m x).getD z)) (hK : Kn n a L) (hx : ev L mp = some (.map (some b))) (hy : ev L key = some (fk x)) :
    Runs P w a ⟨d, .lookup t mp key ok, ty', pos, af, g⟩ v := by
  obtain ⟨es, cl, hb, he⟩ := hS.own _ hmem
  exact r_lookup hm hd hk hz hb he hv hK hx hy
theorem sl_makeMap {dd : Nat} {t : TypeId} (hS : St M w0 w R O) (hK : Kn n a L) (hd : dd < n.n) (hw : wantedL ops L ⟨some dd, .makeMap t none, ty', pos, af, g⟩ = some true)
    (h : ∀ a w b, St M w0 w R (.mp b [] :: O) → Kn n a ((dd, .map (some b)) :: L) → wpList P ops Q rest a w) : wpList P ops Q (⟨some dd, .makeMap t none, ty', pos, af, g⟩ :: rest) a w := by
  refine slw hK hd hw rfl (w' := w.alloc (.map #[] 0)) (v := .map (some w.heap.size)) ?_ fun a' hK' => h a' _ w.heap.size (hS.new (.mp w.heap.size []) (.map #[] 0) ⟨#[], 0, heap_alloc_new w _, rfl⟩ rfl) hK'
  simp [execOp, Instr.makeMap, Result.andThen]
omit [DecidableEq κ] in
theorem map_set {es : Array MapEntry} {m : List (κ × ν)} {j : Nat} {x : κ} {y : ν} {k' : Value} (he : entriesOf es = kvs fk fv m) (hk : k' = fk x) : entriesOf (es.modify j fun e => { e with key := k', val := fv y }) = kvs fk fv (m.set j (x, y)) := by
  subst hk
  apply List.ext_getElem?
  intro i
  have hi := congrArg (fun l => l[i]?) he
  simp only [entriesOf, kvs, List.getElem?_map, Array.getElem?_toList] at hi ⊢
  rw [Array.getElem?_modify, List.getElem?_set]
  by_cases hij : j = i
  · subst hij
    simp only [if_true]
    by_cases hl : j < m.length
    · rw [if_pos hl]
      rw [List.getElem?_eq_getElem hl] at hi
      cases hE : es[j]? with
      | none => rw [hE] at hi; simp at hi
      | some e => simp
    · rw [if_neg hl]
      rw [List.getElem?_eq_none (by omega)] at hi
      cases hE : es[j]? with
      | none => simp
      | some e => rw [hE] at hi; simp at hi
  · simp only [if_neg hij]
    exact hi
theorem sl_mapUpdate {mp key val : Operand} {t kt et : TypeId} {b : Nat} {m : List (κ × ν)} {x : κ} {y : ν} (hm : P.underlying t = some (.map kt et)) (hd : P.underlying kt = some kd) (hk : KeyT kd fk)
    (hS : St M w0 w R (.mp b (kvs fk fv m) :: O)) (hK : Kn n a L) (hw : wantedL ops L ⟨none, .mapUpdate t mp key val, ty', pos, af, g⟩ = some true) (hx : ev L mp = some (.map (some b))) (hy : ev L key = some (fk x)) (hv : ev L val = some (fv y))
    (h : ∀ a w, St M w0 w R (.mp b (kvs fk fv (mset m x y)) :: O) → Kn n a L → wpList P ops Q rest a w) : wpList P ops Q (⟨none, .mapUpdate t mp key val, ty', pos, af, g⟩ :: rest) a w := by
  obtain ⟨es, cl, hb, he⟩ := hS.own _ (List.mem_cons_self ..)
  have hstep : ∀ o', (∃ es' cl', o' = .map es' cl' ∧ entriesOf es' = kvs fk fv (mset m x y)) → (execOp a.eval ⟨none, .mapUpdate t mp key val, ty', pos, af, g⟩).run P w = .ok .skip { w with heap := w.heap.setIfInBounds b o' } →
      wpList P ops Q (⟨none, .mapUpdate t mp key val, ty', pos, af, g⟩ :: rest) a w := by
    rintro o' ⟨es', cl', rfl, he'⟩ hr
    refine sls hK hw rfl hr fun a' hK' => h a' _ (hS.turn (w' := { w with heap := w.heap.setIfInBounds b (.map es' cl') }) (y := .mp b (kvs fk fv (mset m x y))) rfl rfl rfl (by simp) (Nat.le_refl _) (fun k _ hne => ?_) ⟨es', cl', (heap_set hb).1, he'⟩ (fun b' hb' => Or.inl hb')) hK'
    exact (heap_set hb).2 k (fun e => hne (by rw [e]; rfl))
  rcases find_kvs (fv := fv) hk x es.toList m 0 he with ⟨h1, _, h2⟩ | ⟨j, z, e, h1, _, h2, h3, h4, h5⟩
  · refine hstep (.map (es.push { key := fk x, val := fv y, born := cl }) (cl + 1)) ⟨_, _, rfl, ?_⟩ ?_
    · rw [h2]
      simp only [entriesOf, kvs] at he ⊢
      simp [he]
    · simp [execOp, hK.ev hx, hK.ev hy, hK.ev hv, Instr.mapUpdate, run_underlying hm, MapKept.run_getObj_map hb, MapKept.run_checkKey hd (hk.isKey x), MapKept.run_findKey hd h1, MapKept.run_setObj_map _ hb, Result.andThen]
  · have hj : es[j]? = some e := by simpa using h2
    refine hstep (.map (es.modify j fun e => { e with key := fk x, val := fv y }) cl) ⟨_, _, rfl, ?_⟩ ?_
    · rw [h5]
      exact map_set he rfl
    · simp [execOp, hK.ev hx, hK.ev hy, hK.ev hv, Instr.mapUpdate, run_underlying hm, MapKept.run_getObj_map hb, MapKept.run_checkKey hd (hk.isKey x), MapKept.run_findKey hd h1, hj, h3, MapKept.run_keyThatStays (hk.isKey x), MapKept.run_setObj_map _ hb, Result.andThen]
end
section
variable {α : Type} {ty : Ty α}
variable {P : Program} {ops : Array Oper} {Q : Exit → Act → World → Prop} {a : Act} {w0 w : World} {M : List Own} {R : Hp} {O : List Own} {rest : List Oper} {n : Fr} {L : Sl}
variable {d : Option Tmp} {ty' : TypeId} {pos : String} {af : Array Edge} {g : Option (Nat × Bool)}
end
section
variable {α : Type} {ty : Ty α}
variable {P : Program} {ops : Array Oper} {Q : Exit → Act → World → Prop} {a : Act} {w0 w : World} {M : List Own} {R : Hp} {O : List Own} {rest : List Oper} {n : Fr} {L : Sl}
variable {d : Option Tmp} {ty' : TypeId} {pos : String} {af : Array Edge} {g : Option (Nat × Bool)}
end
end Go.Eng
end
section
namespace Go.Eng
open Go.RowKit Go.MapKept
set_option linter.unusedVariables false
set_option linter.unusedSimpArgs false
section
variable {α : Type} {ty : Ty α}
variable {P : Program} {ops : Array Oper} {Q : Exit → Act → World → Prop} {a : Act} {w0 w : World} {M : List Own} {R : Hp} {O : List Own} {rest : List Oper} {n : Fr} {L : Sl}
variable {d : Option Tmp} {ty' : TypeId} {pos : String} {af : Array Edge} {g : Option (Nat × Bool)}
end
structure MRow (κ : Type) where
  k : κ
  v : Value
  n : Nat
  cs : List Value
section
variable {κ α : Type} [DecidableEq κ] {ty : Ty α} {fk : κ → Value}
def mkp (E : List (MRow κ)) : List (κ × Value) := E.map fun e => (e.k, e.v)
inductive MRel (ty : Ty α) (R : Hp) : List (MRow κ) → List (κ × List α) → Prop
  | nil : MRel ty R [] []
  | cons {e : MRow κ} {E : List (MRow κ)} {p : κ × List α} {m : List (κ × List α)} (h1 : e.k = p.1) (h2 : e.n = p.2.length) (h3 : Reps ty R e.cs p.2) (h : MRel ty R E m) : MRel ty R (e :: E) (p :: m)
omit [DecidableEq κ] in
theorem MRel.mono {R R' : Hp} {E : List (MRow κ)} {m : List (κ × List α)} (h : MRel ty R E m) (hR : R.le R') : MRel ty R' E m := by
  induction h with
  | nil => exact .nil
  | cons h1 h2 h3 _ ih => exact .cons h1 h2 (h3.mono hR) ih
def rset : List (MRow κ) → MRow κ → List (MRow κ)
  | [], x => [x]
  | e :: E, x => if e.k = x.k then x :: E else e :: rset E x
def mhd (E : List (MRow κ)) (k : κ) : Value := (mget (mkp E) k).getD (.slice none 0 0)
theorem MRel.set {R : Hp} {E : List (MRow κ)} {m : List (κ × List α)} (h : MRel ty R E m) {x : MRow κ} {ys : List α} (hn : x.n = ys.length) (hr : Reps ty R x.cs ys) : MRel ty R (rset E x) (mset m x.k ys) := by
  induction h with
  | nil => exact .cons rfl hn hr .nil
  | cons h1 h2 h3 h ih =>
    simp only [rset, mset]
    rename_i e E p m
    by_cases hk : e.k = x.k
    · rw [if_pos hk, if_pos (h1 ▸ hk)]
      exact .cons rfl hn hr h
    · rw [if_neg hk, if_neg (h1 ▸ hk)]
      exact .cons h1 h2 h3 ih
end
section
variable {κ α : Type} [DecidableEq κ] {ty : Ty α} {fk : κ → Value} {kd : TypeDesc}
variable {P : Program} {ops : Array Oper} {Q : Exit → Act → World → Prop} {a : Act} {w0 w : World} {M : List Own} {R : Hp} {O : List Own} {rest : List Oper} {n : Fr} {L : Sl}
variable {d : Option Tmp} {ty' : TypeId} {pos : String} {af : Array Edge} {g : Option (Nat × Bool)}
def MRd (ty : Ty α) (R : Hp) (E : List (MRow κ)) (m : List (κ × List α)) : Prop := ∀ k, SlR ty R (mhd E k) ((mget m k).getD [])
theorem MRd.mono {R R' : Hp} {E : List (MRow κ)} {m : List (κ × List α)} (h : MRd ty R E m) (hR : R.le R') : MRd ty R' E m := fun k => (h k).mono hR
end
end Go.Eng
end
section
namespace Go.Eng
open Go.RowKit
set_option linter.unusedVariables false
set_option linter.unusedSimpArgs false
theorem set_erase {α : Type} : ∀ {l : List α} {k : Nat}, k < l.length → ∀ x : α, (l.set k x).Perm (x :: l.eraseIdx k)
  | [], _, h, _ => by simp at h
  | y :: l, 0, _, x => List.Perm.refl _
  | y :: l, k + 1, h, x => by
    simp only [List.set_cons_succ, List.eraseIdx_cons_succ]
    exact ((set_erase (by simpa using h) x).cons y).trans (List.Perm.swap ..)
theorem SlB.toR {α : Type} {ty : Ty α} {RA R RL : Hp} {v : Value} {xs : List α} (h : SlB ty RA R v xs) (hA : RA.le RL) (hR : R.le RL) : SlR ty RL v xs := by
  obtain ⟨ad, cap, cs, h1, h2, h3, h4⟩ := h
  subst h1
  by_cases hne : xs = []
  · subst hne; exact ⟨ad, cap, rfl, h2, fun h => absurd rfl h⟩
  · obtain ⟨b, o, rfl, hc⟩ := h4 hne
    exact SlR.of_cells rfl h2 (h3.mono hR) fun j u hu => Hp.cell_le hA (hc j u hu)
structure RowE where
  v : Value
  n : Nat
  cs : List Value
def hds (E : List RowE) : List Value := E.map (·.v)
def orows (et sz : Nat) (E : List RowE) : List Own := E.map fun e => .row et sz e.v e.n e.cs
theorem SlB.ix {α : Type} {ty : Ty α} {RA R : Hp} {v : Value} {xs : List α} (h : SlB ty RA R v xs) {i : Int} {x : α} (hx : Eng.ix xs i = some x) :
    ∃ b o c cs, v = .slice (some ⟨b, o, none⟩) xs.length c ∧ ty.rep R cs x ∧ (∀ j u, cs[j]? = some u → RA.cell b (o + i.toNat * ty.n + j) = some u) ∧ 0 ≤ i ∧ i < (xs.length : Int) := by
  obtain ⟨h0, h1, h2⟩ := ix_some hx
  obtain ⟨ad, cap, cs, e, _, hr, h3⟩ := h
  have hne : xs ≠ [] := by intro e; subst e; simp at h2
  obtain ⟨b, o, h4, h5⟩ := h3 hne
  obtain ⟨c, h6, h7⟩ := hr.get h2
  refine ⟨b, o, cap, c, by rw [e, h4], h6, fun j u hu => ?_, h0, h1⟩
  have := h5 (i.toNat * ty.n + j) u (h7 j u hu)
  rwa [← Nat.add_assoc] at this
section
variable {α : Type} {ty : Ty α}
inductive ORel (ty : Ty α) (R : Hp) : List RowE → List (List α) → Prop
  | nil : ORel ty R [] []
  | cons {e : RowE} {E : List RowE} {xs : List α} {m : List (List α)} (h2 : e.n = xs.length) (h3 : Reps ty R e.cs xs) (h : ORel ty R E m) : ORel ty R (e :: E) (xs :: m)
theorem ORel.mono {R R' : Hp} {E : List RowE} {m : List (List α)} (h : ORel ty R E m) (hR : R.le R') : ORel ty R' E m := by
  induction h with
  | nil => exact .nil
  | cons h2 h3 _ ih => exact .cons h2 (h3.mono hR) ih
theorem ORel.len {R : Hp} {E : List RowE} {m : List (List α)} (h : ORel ty R E m) : E.length = m.length := by
  induction h with
  | nil => rfl
  | cons _ _ _ ih => simp [ih]
theorem ORel.get {R : Hp} {E : List RowE} {m : List (List α)} (h : ORel ty R E m) : ∀ {k : Nat} {xs : List α}, m[k]? = some xs → ∃ e, E[k]? = some e ∧ e.n = xs.length ∧ Reps ty R e.cs xs := by
  induction h with
  | nil => intro k xs h; simp at h
  | cons h2 h3 _ ih =>
    intro k xs hk
    cases k with
    | zero =>
      simp only [List.getElem?_cons_zero, Option.some.injEq] at hk
      subst hk
      exact ⟨_, rfl, h2, h3⟩
    | succ k => simpa using ih (by simpa using hk)
theorem ORel.set {R : Hp} {E : List RowE} {m : List (List α)} (h : ORel ty R E m) {x : RowE} {ys : List α} (hn : x.n = ys.length) (hr : Reps ty R x.cs ys) : ∀ k : Nat, ORel ty R (E.set k x) (m.set k ys) := by
  induction h with
  | nil => intro k; exact .nil
  | cons h2 h3 h ih =>
    intro k
    cases k with
    | zero => exact .cons hn hr h
    | succ k => exact .cons h2 h3 (ih k)
theorem ORel.app {R : Hp} {E : List RowE} {m : List (List α)} (h : ORel ty R E m) {x : RowE} {ys : List α} (hn : x.n = ys.length) (hr : Reps ty R x.cs ys) : ORel ty R (E ++ [x]) (m ++ [ys]) := by
  induction h with
  | nil => exact .cons hn hr .nil
  | cons h2 h3 h ih => exact .cons h2 h3 ih
variable {P : Program} {ops : Array Oper} {Q : Exit → Act → World → Prop} {a : Act} {w0 w : World} {M : List Own} {R : Hp} {O : List Own} {rest : List Oper} {n : Fr} {L : Sl}
variable {d : Option Tmp} {ty' : TypeId} {pos : String} {af : Array Edge} {g : Option (Nat × Bool)}
theorem St.onil (h : St M w0 w R O) (e et sz : Nat) : St M w0 w R (.row e 1 (.slice none 0 0) ([] : List (List α)).length (hds []) :: (O ++ orows et sz [])) := by
  simpa [orows, hds] using h.row_nil e 1
theorem sl_append_O {dd : Nat} {s x : Operand} {t e bytes et sz : Nat} {v : Value} {b : Nat} {t' : TypeId} {E : List RowE} {m y : List (List α)} (hE : ElT P t e 1 bytes) (hB : 1 ≤ bytes) (hr : ORel ty R E m) (hz : apd bytes m [[]] = some y)
    (hS : St M w0 w R (.row e 1 v m.length (hds E) :: .cells b [.slice none 0 0] t' :: (O ++ orows et sz E))) (hK : Kn n a L) (hd : dd < n.n) (hw : wantedL ops L ⟨some dd, .call { callee := .builtin .append, args := #[s, x], argTypes := #[t, t] }, ty', pos, af, g⟩ = some true) (hs : ev L s = some v) (hx : ev L x = some (.slice (some ⟨b, 0, none⟩) 1 1))
    (h : ∀ a w v' E', ORel ty R E' y → St M w0 w R (.row e 1 v' y.length (hds E') :: (O ++ orows et sz E')) → Kn n a ((dd, v') :: L) → wpList P ops Q rest a w) :
    wpList P ops Q (⟨some dd, .call { callee := .builtin .append, args := #[s, x], argTypes := #[t, t] }, ty', pos, af, g⟩ :: rest) a w := by
  obtain ⟨hb, rfl⟩ := apd_some hz
  obtain ⟨v', w', hrun, hS'⟩ := run_append (tt := ty') (k := 1) (c := 1) (news := [.slice none 0 0]) (ad := some ⟨b, 0, none⟩) hE hB hS rfl (all_cons rfl all_nil) (by simpa using hb) (fun _ => ⟨b, 0, rfl, fun j u hu => by
    rw [Nat.zero_add]; exact hS.cell (.tail _ (.head _)) hu⟩)
  refine slw hK hd hw rfl (append_op hK hs hx hrun) fun a' hK' => h a' w' v' (E ++ [⟨.slice none 0 0, 0, []⟩]) (hr.app rfl (Reps.nil _ _)) ?_ hK'
  have h1 := hS'.drop1.row_nil et sz
  have e1 : (m ++ [[]]).length = m.length + 1 := by simp
  have e2 : hds (E ++ [⟨.slice none 0 0, 0, []⟩]) = hds E ++ [.slice none 0 0] := by simp [hds]
  rw [e1, e2]
  refine h1.perm ?_
  refine (List.Perm.swap _ _ _).trans (List.Perm.cons _ ?_)
  have e3 : O ++ orows et sz (E ++ [⟨.slice none 0 0, 0, []⟩]) = (O ++ orows et sz E) ++ [.row et sz (.slice none 0 0) 0 []] := by simp [orows]
  rw [e3]
  exact (List.perm_append_singleton _ _).symm
theorem St.orow_ix {e : Nat} {v : Value} {E : List RowE} {m : List (List α)} {i : Int} {xs : List α} (hS : St M w0 w R O) (hmem : Own.row e 1 v m.length (hds E) ∈ O) (hr : ORel ty R E m) (hx : ix m i = some xs) :
    ∃ b c x, v = .slice (some ⟨b, 0, none⟩) m.length c ∧ E[i.toNat]? = some x ∧ (hds E)[i.toNat]? = some x.v ∧ 0 ≤ i ∧ i < (m.length : Int) := by
  obtain ⟨h0, h1, h2⟩ := ix_some hx
  obtain ⟨x, k1, _, _⟩ := hr.get h2
  have hl := (List.getElem?_eq_some_iff.1 h2).1
  rcases row_cells hS hmem with ⟨_, k2, _⟩ | ⟨b, c, k2, _⟩
  · omega
  · exact ⟨b, c, x, k2, k1, by simp [hds, k1], h0, h1⟩
theorem St.otake {et sz : Nat} {E : List RowE} {m : List (List α)} {i : Int} {x : RowE} {xs : List α} (h : St M w0 w R (O ++ orows et sz E)) (hr : ORel ty R E m) (hE : E[i.toNat]? = some x) (hx : ix m i = some xs) :
    St M w0 w R (.row et sz x.v xs.length x.cs :: (O ++ orows et sz (E.eraseIdx i.toNat))) ∧ Reps ty R x.cs xs := by
  obtain ⟨_, _, h2⟩ := ix_some hx
  obtain ⟨x', k1, k2, k3⟩ := hr.get h2
  rw [hE] at k1
  cases k1
  refine ⟨?_, k3⟩
  rw [← k2]
  refine h.perm ?_
  have hp : E.Perm (x :: E.eraseIdx i.toNat) := perm_pick hE
  have hp2 := (hp.map fun e : RowE => Own.row et sz e.v e.n e.cs).append_left O
  refine hp2.trans ?_
  simp only [List.map_cons]
  exact List.perm_middle
theorem sl_store_O {t : TypeId} {x y : Operand} {e b c et sz n2 : Nat} {v v2 : Value} {E : List RowE} {m : List (List α)} {i : Int} {z0 ys : List α} {cs2 : List Value} (hz : ∀ w, (sizeOf t).run P w = .ok 1 w) (hv : v = .slice (some ⟨b, 0, none⟩) m.length c) (hi : ix m i = some z0) (hr : ORel ty R E m) (hq : Reps ty R cs2 ys) (hn : n2 = ys.length)
    (hS : St M w0 w R (.row e 1 v m.length (hds E) :: .row et sz v2 n2 cs2 :: (O ++ orows et sz (E.eraseIdx i.toNat)))) (hK : Kn n a L) (hw : wantedL ops L ⟨none, .store t x y, ty', pos, af, g⟩ = some true) (hx : ev L x = some (.pointer (some ⟨b, 0 + i.toNat * 1, none⟩))) (hy : ev L y = some v2)
    (h : ∀ a w E', ORel ty R E' (upd m i ys) → St M w0 w R (.row e 1 v (upd m i ys).length (hds E') :: (O ++ orows et sz E')) → Kn n a L → wpList P ops Q rest a w) : wpList P ops Q (⟨none, .store t x y, ty', pos, af, g⟩ :: rest) a w := by
  obtain ⟨h0, h2, h3⟩ := ix_some hi
  have hl := (List.getElem?_eq_some_iff.1 h3).1
  have hEl : i.toNat < E.length := by rw [hr.len]; exact hl
  have ho : v2.oneCell' = true := hS.row_one (.tail _ (.head _))
  have hk : i.toNat < (hds E).length := by simpa [hds] using hEl
  have hcell := hS.row_cell (.head _) hv (List.getElem?_eq_getElem hk)
  have hfz : w.frozen? ⟨b, 0 + i.toNat * 1, none⟩ = false := by
    have hown : w.ownsRow 0 e 1 v m.length (hds E) := hS.own (.row e 1 v _ (hds E)) (List.mem_cons_self ..)
    subst hv
    exact hown.frozenAt _
  have hcells : v2.cells = #[v2] := by cases v2 <;> first | rfl | (simp [Value.oneCell'] at ho)
  refine sls hK hw rfl (w' := w.setCell ⟨b, i.toNat, none⟩ v2) ?_ fun a' hK' => h a' _ (E.set i.toNat ⟨v2, n2, cs2⟩) (hr.set hn hq i.toNat) ?_ hK'
  · have e1 : (⟨b, 0 + i.toNat * 1, none⟩ : Addr) = ⟨b, i.toNat, none⟩ := by simp
    rw [e1] at hfz hx
    rw [Nat.zero_add] at hcell
    simp [execOp, hK.ev hx, hK.ev hy, Instr.storeAt, Instr.sureAddr, storeVar, hcells, hz, storeCells, add_lit, run_store P w _ v2 _ ho, hcell, hfz]
  · have h1 := hS.row_set (k := i.toNat) (u := v2) hv
    have e1 : (upd m i ys).length = m.length := by simp [upd]
    have e2 : hds (E.set i.toNat ⟨v2, n2, cs2⟩) = (hds E).set i.toNat v2 := by simp [hds, List.map_set]
    rw [e1, e2]
    refine h1.perm (List.Perm.cons _ ?_)
    have hp := ((set_erase hEl (⟨v2, n2, cs2⟩ : RowE)).map fun e : RowE => Own.row et sz e.v e.n e.cs).append_left O
    refine List.Perm.trans ?_ hp.symm
    simp only [List.map_cons]
    exact List.perm_middle.symm
theorem St.ofreeze {e et sz : Nat} {v : Value} {E : List RowE} {m : List (List α)} (hty : ty.n = sz) (hr : ORel ty R E m) (h : St M w0 w R (.row e 1 v m.length (hds E) :: (O ++ orows et sz E))) :
    ∃ R', St M w0 w R' (.row e 1 v m.length (hds E) :: O) ∧ RLe M w0 R R' ∧ Reps (tySl ty) R' (hds E) m := by
  have key : ∀ {E : List RowE} {m : List (List α)} {R0 : Hp}, ORel ty R0 E m → ∀ {R : Hp}, R0.le R → ∀ {O : List Own}, St M w0 w R (O ++ orows et sz E) → ∃ R', St M w0 w R' O ∧ RLe M w0 R R' ∧ Reps (tySl ty) R' (hds E) m := by
    intro E m R0 hr
    induction hr with
    | nil => intro R hle O h; exact ⟨R, by simpa [orows] using h, RLe.refl _ _, by simpa [hds] using Reps.nil (tySl ty) R⟩
    | cons h2 h3 h' ih =>
      rename_i x E xs m
      intro R hle O h
      have hp : St M w0 w R (.row et sz x.v x.n x.cs :: (O ++ orows et sz E)) := h.perm (by simp only [orows, List.map_cons]; exact List.perm_middle)
      obtain ⟨R1, g1, g2, g3⟩ := hp.fz_row (h3.mono hle) h2 hty
      obtain ⟨R2, k1, k2, k3⟩ := ih (hle.trans g2.le) g1
      refine ⟨R2, k1, g2.trans k2, ?_⟩
      have := Reps.cons (ty := tySl ty) (c := [x.v]) (x := xs) (show (tySl ty).rep R2 [x.v] xs from ⟨_, rfl, g3.mono k2.le⟩) k3
      simpa [hds] using this
  have h' : St M w0 w R ((Own.row e 1 v m.length (hds E) :: O) ++ orows et sz E) := h
  exact key hr (Hp.le.refl _) h'
theorem r_indexAddr_at {j : Nat} {t e : TypeId} {x y : Operand} {b m c z : Nat} {k : IntKind} {i : Int} (hu : P.underlying t = some (.slice e)) (hz : ∀ w, (sizeOf e).run P w = .ok z w) (hi : i = (j : Int)) (hj : j < m) (hK : Kn n a L) (hx : ev L x = some (.slice (some ⟨b, 0, none⟩) m c)) (hy : ev L y = some (.int k i)) :
    Runs P w a ⟨d, .indexAddr t x y, ty', pos, af, g⟩ (.pointer (some ⟨b, j * z, none⟩)) := by
  subst hi
  have h := r_indexAddr_sl (w := w) (d := d) (ty := ty') (pos := pos) (af := af) (g := g) hu hz hK hx hy (by omega) (by omega)
  simpa using h
theorem r_len_B {α : Type} {ty : Ty α} {RA : Hp} {x : Operand} {t e : TypeId} {v : Value} {xs : List α} (hu : P.underlying t = some (.slice e)) (hs : SlB ty RA R v xs) (hK : Kn n a L) (hx : ev L x = some v) : Runs P w a ⟨d, .call { callee := .builtin .len, args := #[x], argTypes := #[t] }, ty', pos, af, g⟩ (.int .i64 (xs.length : Int)) := by
  obtain ⟨ad, cap, cs, h1, _⟩ := hs
  exact r_len_sl hu hK (by rw [hx, h1])
end
end Go.Eng
end
section
namespace Go.Eng
open Go.RowKit
set_option linter.unusedVariables false
abbrev I6 (x : Int) : Value := .int .i64 x
section
variable {P : Program} {ops : Array Oper} {Q : Exit → Act → World → Prop} {C : World → Prop} {a : Act} {w : World} {rest : List Oper} {n : Fr} {L : Sl} {o : Oper}
theorem zl {d : Nat} {op : Op} {ty : TypeId} {pos : String} {af : Array Edge} {g : Option (Nat × Bool)} {v : Value} (hK : Kn n a L) (hr : Runs P w a ⟨some d, op, ty, pos, af, g⟩ v) (h : ∀ a, Kn n a ((d, v) :: L) → wpList P ops Q rest a w)
    (hd : d < n.n := by decide) (hw : wantedL ops L ⟨some d, op, ty, pos, af, g⟩ = some true := by exact rfl) : wpList P ops Q (⟨some d, op, ty, pos, af, g⟩ :: rest) a w := sl hK hd hw rfl hr h
theorem zw {d : Nat} {op : Op} {ty : TypeId} {pos : String} {af : Array Edge} {g : Option (Nat × Bool)} {v : Value} (hK : Kn n a L) (hw : wantedL ops L ⟨some d, op, ty, pos, af, g⟩ = some true) (hr : Runs P w a ⟨some d, op, ty, pos, af, g⟩ v) (h : ∀ a, Kn n a ((d, v) :: L) → wpList P ops Q rest a w)
    (hd : d < n.n := by decide) : wpList P ops Q (⟨some d, op, ty, pos, af, g⟩ :: rest) a w := sl hK hd hw rfl hr h
theorem zm {d : Nat} {v : Value} {x : Operand} {ty : TypeId} {pos : String} {af : Array Edge} {g : Option (Nat × Bool)} (hK : Kn n a L) (hx : ev L x = some v) (h : ∀ a, Kn n a ((d, v) :: L) → wpList P ops Q rest a w)
    (hd : d < n.n := by decide) (hw : wantedL ops L ⟨some d, .move x, ty, pos, af, g⟩ = some true := by exact rfl) : wpList P ops Q (⟨some d, .move x, ty, pos, af, g⟩ :: rest) a w := sl hK hd hw rfl (r_move hK hx) h
theorem za {d : Nat} {v : Value} {x : Operand} {ty : TypeId} {pos : String} {af : Array Edge} {g : Option (Nat × Bool)} (hK : Kn n a L) (hx : ev L x = some v) (h : ∀ a, Kn n a ((d, v) :: L) → wpList P ops Q rest a w)
    (hd : d < n.n := by decide) (hw : wantedL ops L ⟨some d, .assign x, ty, pos, af, g⟩ = some true := by exact rfl) : wpList P ops Q (⟨some d, .assign x, ty, pos, af, g⟩ :: rest) a w := sl hK hd hw rfl (r_assign hK hx) h
theorem zs {d : Nat} {op : Op} {ty : TypeId} {pos : String} {af : Array Edge} {g : Option (Nat × Bool)} (hK : Kn n a L) (h : ∀ a, Kn n a ((d, undef) :: L) → wpList P ops Q rest a w)
    (hd : d < n.n := by decide) (hw : wantedL ops L ⟨some d, op, ty, pos, af, g⟩ = some false := by exact rfl) : wpList P ops Q (⟨some d, op, ty, pos, af, g⟩ :: rest) a w := sl_skip hK hd hw rfl h
theorem zsw {d : Nat} {op : Op} {ty : TypeId} {pos : String} {af : Array Edge} {g : Option (Nat × Bool)} (hK : Kn n a L) (hw : wantedL ops L ⟨some d, op, ty, pos, af, g⟩ = some false) (h : ∀ a, Kn n a ((d, undef) :: L) → wpList P ops Q rest a w)
    (hd : d < n.n := by decide) : wpList P ops Q (⟨some d, op, ty, pos, af, g⟩ :: rest) a w := sl_skip hK hd hw rfl h
theorem zp {k : Nat} {r : List (Nat × Bool)} {d : Nat} {op : Op} {ty : TypeId} {pos : String} {af : Array Edge} {g : Option (Nat × Bool)} {v : Value} (ho : ops[k]? = some ⟨some d, op, ty, pos, af, g⟩) (hK : Kn n a L) (hr : ∀ w, C w → Runs P w a ⟨some d, op, ty, pos, af, g⟩ v) (h : ∀ a, Kn n a ((d, v) :: L) → wpPar P ops C Q r a w)
    (hd : d < n.n := by decide) (hw : wantedL ops L ⟨some d, op, ty, pos, af, g⟩ = some true := by exact rfl) : wpPar P ops C Q ((k, true) :: r) a w := sp ho hK hd hw rfl hr h
theorem zpw {k : Nat} {r : List (Nat × Bool)} {d : Nat} {op : Op} {ty : TypeId} {pos : String} {af : Array Edge} {g : Option (Nat × Bool)} {v : Value} (ho : ops[k]? = some ⟨some d, op, ty, pos, af, g⟩) (hK : Kn n a L) (hw : wantedL ops L ⟨some d, op, ty, pos, af, g⟩ = some true) (hr : ∀ w, C w → Runs P w a ⟨some d, op, ty, pos, af, g⟩ v) (h : ∀ a, Kn n a ((d, v) :: L) → wpPar P ops C Q r a w)
    (hd : d < n.n := by decide) : wpPar P ops C Q ((k, true) :: r) a w := sp ho hK hd hw rfl hr h
theorem zps {k : Nat} {r : List (Nat × Bool)} {d : Nat} {op : Op} {ty : TypeId} {pos : String} {af : Array Edge} {g : Option (Nat × Bool)} (ho : ops[k]? = some ⟨some d, op, ty, pos, af, g⟩) (hK : Kn n a L) (hw : wantedL ops L ⟨some d, op, ty, pos, af, g⟩ = some false) (h : ∀ a, Kn n a ((d, undef) :: L) → wpPar P ops C Q r a w)
    (hd : d < n.n := by decide) : wpPar P ops C Q ((k, true) :: r) a w := sp_skip ho hK hd hw rfl h
theorem zq {x y : Code} {Q : Exit → Act → World → Prop} (h : x.wp P (Exit.then (y.wp P Q) Q) a w) : (Code.seq x y).wp P Q a w := wp_seq h
theorem zr {id : Nat} {l : List Oper} {Q : Exit → Act → World → Prop} (h : wpList P l.toArray Q l a w) : (Code.region id l.toArray false).wp P Q a w := wp_region_lit h
theorem zn {Q : Exit → Act → World → Prop} (h : Q .normal a w) : wpList P ops Q [] a w := wpList_nil h
theorem zt {Q : Exit → Act → World → Prop} {K : Act → World → Prop} (h : Q .ret a w) : Exit.then K Q .ret a w := h
theorem zb {Q : Exit → Act → World → Prop} {id : Nat} (h : Q .ret a w) : Exit.inBlock id Q .ret a w := h
theorem zo {Q : Exit → Act → World → Prop} (h : Q .ret a w) : Exit.noGoto Q .ret a w := h
theorem zc {α : Type} {F : α → Prop} {x : α} {l : List α} (h : ∀ y ∈ l, F y) (h0 : F x := by exact rfl) : ∀ y ∈ x :: l, F y := all_cons h0 h
theorem zz {α : Type} {F : α → Prop} : ∀ y ∈ ([] : List α), F y := all_nil
theorem bs {α β : Type} {o : Option α} {f : α → Option β} {r : β} (h : o.bind f = some r) : ∃ y, o = some y ∧ f y = some r := bind_some h
theorem z0 {α : Type} {y : α} {l : List α} : y ∈ y :: l := .head _
theorem z1 {α : Type} {x0 y : α} {l : List α} : y ∈ x0 :: y :: l := .tail _ (.head _)
theorem z2 {α : Type} {x0 x1 y : α} {l : List α} : y ∈ x0 :: x1 :: y :: l := .tail _ (.tail _ (.head _))
theorem z3 {α : Type} {x0 x1 x2 y : α} {l : List α} : y ∈ x0 :: x1 :: x2 :: y :: l := .tail _ (.tail _ (.tail _ (.head _)))
theorem z4 {α : Type} {x0 x1 x2 x3 y : α} {l : List α} : y ∈ x0 :: x1 :: x2 :: x3 :: y :: l := .tail _ (.tail _ (.tail _ (.tail _ (.head _))))
theorem z5 {α : Type} {x0 x1 x2 x3 x4 y : α} {l : List α} : y ∈ x0 :: x1 :: x2 :: x3 :: x4 :: y :: l := .tail _ (.tail _ (.tail _ (.tail _ (.tail _ (.head _)))))
theorem z6 {α : Type} {x0 x1 x2 x3 x4 x5 y : α} {l : List α} : y ∈ x0 :: x1 :: x2 :: x3 :: x4 :: x5 :: y :: l := .tail _ (.tail _ (.tail _ (.tail _ (.tail _ (.tail _ (.head _))))))
theorem z7 {α : Type} {x0 x1 x2 x3 x4 x5 x6 y : α} {l : List α} : y ∈ x0 :: x1 :: x2 :: x3 :: x4 :: x5 :: x6 :: y :: l := .tail _ (.tail _ (.tail _ (.tail _ (.tail _ (.tail _ (.tail _ (.head _)))))))
end
end Go.Eng
end
