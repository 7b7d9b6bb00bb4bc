/-
  The engine, part 1: what is known of a frame's slots (Kn), the memory (St: what is read only, what the call owns), and one law a kind of operation. Nothing of one program stands in it.
-/
import Derived.WalkKit
import Derived.Deep.Quiet
import Derived.Deep.LoopGhost
import Derived.KernelRfl
import Derived.Laws.AppendOwn
namespace Go.Eng
set_option linter.unusedVariables false
set_option linter.unusedSimpArgs false
open Go.RowKit

/-- Known slots: the first entry of a slot counts. -/
abbrev Sl := List (Nat × Value)
def look : Sl → Nat → Option Value
  | [], _ => none
  | (k, v) :: r, t => bif Nat.beq k t then some v else look r t

/-- A frame's size, and the calls that it defers. -/
structure Fr where
  n : Nat
  ds : List Deferred
instance {k : Nat} : OfNat Fr k := ⟨⟨k, []⟩⟩
structure Kn (n : Fr) (a : Act) (L : Sl) : Prop where
  size : a.tmps.size = n.n
  dfs : a.defers = n.ds
  at_ : ∀ t v, look L t = some v → a.tmps[t]? = some v

def ev (L : Sl) : Operand → Option Value
  | .tmp t => look L t
  | .const v => some v
  | .global g => some (.pointer (some ⟨g, 0, none⟩))
  | .func f => some (.func (.func f) #[] #[])

theorem Kn.ev {n : Fr} {a : Act} {L : Sl} (h : Kn n a L) {x : Operand} {v : Value} (hx : ev L x = some v) : a.eval x = v := by
  cases x with
  | tmp t =>
    have := h.at_ t v hx
    simp [Act.eval, this]
  | const u => simpa [Eng.ev, Act.eval] using hx
  | global g => simpa [Eng.ev, Act.eval] using hx
  | func f => simpa [Eng.ev, Act.eval] using hx

theorem look_cons (k : Nat) (v : Value) (r : Sl) (t : Nat) : look ((k, v) :: r) t = if k = t then some v else look r t := by
  simp only [look]
  by_cases h : k = t
  · simp [h]
  · have : Nat.beq k t = false := by
      cases hb : Nat.beq k t with
      | false => rfl
      | true => exact absurd (Nat.eq_of_beq_eq_true hb) h
    simp [h, this]

theorem Kn.put {n : Fr} {a : Act} {L : Sl} (h : Kn n a L) {d : Nat} (hd : d < n.n) (v : Value) : Kn n (a.put (some d) v) ((d, v) :: L) := by
  refine ⟨by simp [Act.put, h.size], by simp [Act.put, h.dfs], fun t u hu => ?_⟩
  rw [look_cons] at hu
  by_cases hdt : d = t
  · subst hdt
    simp only [if_true] at hu
    cases hu
    simp [Act.put, h.size, hd]
  · rw [if_neg hdt] at hu
    have := h.at_ t u hu
    simp [Act.put, Array.getElem?_setIfInBounds_ne hdt, this]

theorem Kn.put0 {n : Fr} {a : Act} {L : Sl} (h : Kn n a L) (v : Value) : Kn n (a.put none v) L := h

/-- Fewer, or other, entries: each of them is looked up. -/
theorem Kn.sub {n : Fr} {a : Act} {L L' : Sl} (h : Kn n a L) (hs : ∀ p ∈ L', look L p.1 = some p.2) : Kn n a L' := by
  refine ⟨h.size, h.dfs, fun t v hv => h.at_ t v ?_⟩
  induction L' with
  | nil => simp [look] at hv
  | cons p r ih =>
    obtain ⟨k, u⟩ := p
    rw [look_cons] at hv
    by_cases hk : k = t
    · subst hk
      simp only [if_true] at hv
      have hv' : u = v := Option.some.inj hv
      subst hv'
      exact hs (k, u) (List.mem_cons_self ..)
    · rw [if_neg hk] at hv
      exact ih (fun p hp => hs p (by simp [hp])) hv

theorem all_nil {α : Type} {p : α → Prop} : ∀ x ∈ ([] : List α), p x := fun _ h => nomatch h
theorem all_cons {α : Type} {p : α → Prop} {a : α} {l : List α} (h : p a) (hr : ∀ x ∈ l, p x) : ∀ x ∈ a :: l, p x := fun x hx => by
  cases hx with
  | head => exact h
  | tail _ hx => exact hr x hx

/-- The frame at a function's beginning. -/
def initL : Nat → List Value → Sl
  | _, [] => []
  | k, v :: r => (k, v) :: initL (k + 1) r
theorem look_initL : ∀ (vs : List Value) (k t : Nat) (v : Value), look (initL k vs) t = some v → k ≤ t ∧ vs[t - k]? = some v
  | [], _, _, _, h => by simp [initL, look] at h
  | u :: r, k, t, v, h => by
    rw [initL, look_cons] at h
    by_cases hk : k = t
    · subst hk
      simp only [if_true] at h
      cases h
      simp
    · rw [if_neg hk] at h
      obtain ⟨h1, h2⟩ := look_initL r (k + 1) t v h
      refine ⟨by omega, ?_⟩
      have : t - k = (t - (k + 1)) + 1 := by omega
      rw [this]
      simpa using h2
theorem Kn.init (vs : List Value) (n : Nat) (hn : vs.length ≤ n) :
    Kn ⟨n, []⟩ { tmps := vs.toArray ++ Array.replicate (n - vs.toArray.size) undef, defers := [] } (initL 0 vs) := by
  refine ⟨by simp; omega, rfl, fun t v h => ?_⟩
  obtain ⟨_, h2⟩ := look_initL vs 0 t v h
  simp only [Nat.sub_zero] at h2
  have hlt := (List.getElem?_eq_some_iff.1 h2).1
  have h3 : t < vs.toArray.size := by simpa using hlt
  rw [Array.getElem?_append_left h3]
  simpa using h2

/-! ### Memory -/
abbrev Hp := Nat → Option Obj
def Hp.le (R R' : Hp) : Prop := ∀ b o, R b = some o → R' b = some o
def Hp.sub (R : Hp) (w : World) : Prop := ∀ b o, R b = some o → w.heap[b]? = some o
def Hp.cell (R : Hp) (b i : Nat) : Option Value :=
  match R b with
  | some (.cells c _ _) => c[i]?
  | _ => none
def hpOf (w : World) : Hp := fun b => w.heap[b]?
theorem Hp.le.refl (R : Hp) : R.le R := fun _ _ h => h
theorem Hp.le.trans {R R' R'' : Hp} (h : R.le R') (h' : R'.le R'') : R.le R'' := fun b o hb => h' b o (h b o hb)
theorem Hp.sub.le {R R' : Hp} {w : World} (h : R'.sub w) (h' : R.le R') : R.sub w := fun b o hb => h b o (h' b o hb)
theorem hpOf_sub (w : World) : (hpOf w).sub w := fun _ _ h => h
theorem Hp.cell_le {R R' : Hp} (h : R.le R') {b i : Nat} {v : Value} (hc : R.cell b i = some v) : R'.cell b i = some v := by
  unfold Hp.cell at *
  cases hr : R b with
  | none => simp [hr] at hc
  | some o => rw [hr] at hc; rw [h b o hr]; exact hc
theorem Hp.sub.cell {R : Hp} {w : World} (h : R.sub w) {b i : Nat} {v : Value} (hc : R.cell b i = some v) : w.cell? ⟨b, i, none⟩ = some v := by
  unfold Hp.cell at hc
  cases hr : R b with
  | none => simp [hr] at hc
  | some o =>
    rw [hr] at hc
    have := h b o hr
    cases o <;> simp at hc
    simp [World.cell?, this, hc]
theorem Hp.sub.lt {R : Hp} {w : World} (h : R.sub w) {b : Nat} {o : Obj} (hb : R b = some o) : b < w.heap.size :=
  (Array.getElem?_eq_some_iff.1 (h b o hb)).1

/-- What a map's entries are. -/
def entriesOf (es : Array MapEntry) : List (Value × Value) := es.toList.map fun e => (e.key, e.val)
/-- A row whose block bears a mark that none of its cells bears. -/
def ownsM (w : World) (e sz : Nat) (v : Value) (n : Nat) (xs : List Value) : Prop :=
  xs.length = n * sz ∧ ∃ g cap cur fz, v = .slice (some ⟨g, 0, none⟩) n cap ∧ w.heap[g]? = some (.cells cur e fz) ∧ (∀ i, i < cur.size → ¬ (fz.1 ≤ i ∧ i < fz.2)) ∧ n ≤ cap ∧ cap ≤ maxLen ∧ cur.size = cap * sz ∧ cur.toList.take (n * sz) = xs
/-- What a call owns: a block known whole; a row that grows (append); a map; a row with a mark; any other block. -/
inductive Own where
  | cells (b : Nat) (c : List Value) (t : TypeId)
  | row (t sz : Nat) (v : Value) (n : Nat) (xs : List Value)
  | mp (b : Nat) (kvs : List (Value × Value))
  | rowM (t sz : Nat) (v : Value) (n : Nat) (xs : List Value)
  | obj (b : Nat) (o : Obj)
def Own.blk : Own → Option Nat
  | .cells b _ _ => some b
  | .row _ _ v _ _ => v.ownBlock
  | .mp b _ => some b
  | .rowM _ _ v _ _ => v.ownBlock
  | .obj b _ => some b
def Own.ok (w : World) : Own → Prop
  | .cells b c t => w.heap[b]? = some (.cells c.toArray t (0, 0))
  | .row t sz v n xs => w.ownsRow 0 t sz v n xs
  | .mp b kvs => ∃ es cl, w.heap[b]? = some (.map es cl) ∧ entriesOf es = kvs
  | .rowM t sz v n xs => ownsM w t sz v n xs
  | .obj b o => w.heap[b]? = some o
theorem Own.ok_lt {w : World} {x : Own} (h : x.ok w) {b : Nat} (hb : x.blk = some b) : b < w.heap.size := by
  cases x with
  | cells b' c t => simp [Own.blk] at hb; subst hb; exact (Array.getElem?_eq_some_iff.1 h).1
  | row t sz v n xs => exact (World.ownsRow.lt h b hb).2
  | mp b' kvs =>
    obtain ⟨es, cl, hh, _⟩ := h
    simp [Own.blk] at hb
    subst hb
    exact (Array.getElem?_eq_some_iff.1 hh).1
  | rowM t sz v n xs =>
    obtain ⟨_, g, cap, cur, fz, rfl, hh, _⟩ := h
    simp [Own.blk, Value.ownBlock] at hb
    subst hb
    exact (Array.getElem?_eq_some_iff.1 hh).1
  | obj b' o => simp [Own.blk] at hb; subst hb; exact (Array.getElem?_eq_some_iff.1 h).1
theorem Own.ok_kept {w w' : World} {x : Own} (h : x.ok w) (hk : ∀ b, x.blk = some b → w'.heap[b]? = w.heap[b]?) : x.ok w' := by
  cases x with
  | cells b c t => exact (hk b rfl).trans h
  | obj b o => exact (hk b rfl).trans h
  | mp b kvs =>
    obtain ⟨es, cl, hh, he⟩ := h
    exact ⟨es, cl, (hk b rfl).trans hh, he⟩
  | rowM t sz v n xs =>
    obtain ⟨h1, g, cap, cur, fz, rfl, hh, r⟩ := h
    exact ⟨h1, g, cap, cur, fz, rfl, (hk g rfl).trans hh, r⟩
  | row t sz v n xs =>
    refine ⟨h.1, ?_⟩
    rcases h.2 with h2 | ⟨g, cap, cur, hv, hg, hh, r⟩
    · exact Or.inl h2
    · exact Or.inr ⟨g, cap, cur, hv, hg, by rw [hk g (by rw [Own.blk, hv]; rfl)]; exact hh, r⟩
/-- Is b a block of these? -/
def blks (M : List Own) (b : Nat) : Prop := ∃ x ∈ M, x.blk = some b
theorem blks_nil {b : Nat} : ¬ blks [] b := fun ⟨_, h, _⟩ => nomatch h
theorem blks_app {M N : List Own} {b : Nat} (h : blks M b) : blks (M ++ N) b := let ⟨x, hx, hb⟩ := h; ⟨x, List.mem_append_left _ hx, hb⟩

/-- What is said of draws (a seat whose library calls do not tell of draws says nothing here: True). -/
def DrOk (w0 w : World) : Prop := w0.drawn ≤ w.drawn
theorem DrOk.of {w0 w : World} (h : w0.drawn ≤ w.drawn) : DrOk w0 w := by first | exact h | trivial
theorem DrOk.trans {w0 w1 w2 : World} (h : DrOk w0 w1) (h' : DrOk w1 w2) : DrOk w0 w2 := by first | exact Nat.le_trans h h' | trivial
/-- From w0 to w nothing has been turned but these blocks. -/
structure Bel (M : List Own) (w0 w : World) : Prop where
  os : w.os = w0.os
  tape : w.tape = w0.tape
  output : w.output = w0.output
  size : w0.heap.size ≤ w.heap.size
  dr : DrOk w0 w
  block : ∀ k, k < w0.heap.size → ¬ blks M k → w.heap[k]? = w0.heap[k]?
theorem Bel.refl (M : List Own) (w : World) : Bel M w w := ⟨rfl, rfl, rfl, Nat.le_refl _, .of (Nat.le_refl _), fun _ _ _ => rfl⟩
theorem Bel.to {w0 w : World} (h : Bel [] w0 w) : Below w0.heap.size w0 w := ⟨h.os, h.tape, h.output, h.size, fun k hk => h.block k hk blks_nil⟩
theorem Bel.of_below {w0 w : World} (h : Below w0.heap.size w0 w) (hd : DrOk w0 w) : Bel [] w0 w := ⟨h.os, h.tape, h.output, h.size, hd, fun k hk _ => h.block k hk⟩
theorem Bel.mk0 {M : List Own} {w0 w : World} (hos : w.os = w0.os) (htape : w.tape = w0.tape) (hout : w.output = w0.output) (hsz : w0.heap.size ≤ w.heap.size) (hd : w0.drawn ≤ w.drawn) (hb : ∀ k, k < w0.heap.size → w.heap[k]? = w0.heap[k]?) : Bel M w0 w := ⟨hos, htape, hout, hsz, .of hd, fun k hk _ => hb k hk⟩
/-- A step that turns blocks of X alone: each is new, or handed over. -/
theorem Bel.step {M X : List Own} {w0 w w' : World} (h : Bel M w0 w) (h' : Bel X w w') (hX : ∀ k, k < w0.heap.size → blks X k → blks M k) : Bel M w0 w' :=
  ⟨h'.os.trans h.os, h'.tape.trans h.tape, h'.output.trans h.output, Nat.le_trans h.size h'.size, h.dr.trans h'.dr, fun k hk hm => (h'.block k (Nat.lt_of_lt_of_le hk h.size) (fun hx => hm (hX k hk hx))).trans (h.block k hk hm)⟩

/-- The memory: w0 the world at the call's beginning, w now; M what was handed over; R what is read only; O what the call owns. -/
structure St (M : List Own) (w0 w : World) (R : Hp) (O : List Own) : Prop where
  bel : Bel M w0 w
  sub : R.sub w
  own : ∀ x ∈ O, x.ok w
  base : ∀ x ∈ O, ∀ b, x.blk = some b → (w0.heap.size ≤ b ∨ blks M b) ∧ R b = none
  sep : O.Pairwise fun x y => ∀ b, x.blk = some b → y.blk ≠ some b
theorem St.below {w0 w : World} {R : Hp} {O : List Own} (h : St [] w0 w R O) : Below w0.heap.size w0 w := h.bel.to

theorem St.init {w : World} {R : Hp} (h : R.sub w) : St [] w w R [] :=
  ⟨Bel.refl _ _, h, fun _ h => (by cases h), fun _ h => (by cases h), List.Pairwise.nil⟩
section
variable {M : List Own}

/-- Whatever leaves the blocks that are there as they were. -/
theorem St.keep {w0 w w' : World} {R : Hp} {O : List Own} (h : St M w0 w R O) (hb : Bel [] w w') : St M w0 w' R O := by
  refine ⟨h.bel.step (X := []) hb (fun k _ hx => absurd hx blks_nil), fun b o hr => ?_, fun x hx => ?_, h.base, h.sep⟩
  · have := h.sub b o hr
    rw [hb.to.block b (Array.getElem?_eq_some_iff.1 this).1]; exact this
  · exact Own.ok_kept (h.own x hx) (fun b hbk => hb.to.block b (Own.ok_lt (h.own x hx) hbk))

theorem St.drew {w0 w : World} {R : Hp} {O : List Own} (h : St M w0 w R O) (n : Nat) (hn : w.drawn ≤ n) : St M w0 { w with drawn := n } R O :=
  h.keep (Bel.mk0 rfl rfl rfl (Nat.le_refl _) hn fun _ _ => rfl)

theorem St.new {w0 w : World} {R : Hp} {O : List Own} (h : St M w0 w R O) (x : Own) (o : Obj) (hx : x.ok (w.alloc o)) (hb : x.blk = some w.heap.size) : St M w0 (w.alloc o) R (x :: O) := by
  have k : St M w0 (w.alloc o) R O := h.keep (Bel.mk0 rfl rfl rfl (by simp) (Nat.le_refl _) fun k hk => Below.heap_alloc _ _ _ hk)
  refine ⟨k.bel, k.sub, all_cons hx k.own, all_cons (fun b hbb => ?_) k.base, List.Pairwise.cons (fun y hy b hbb hyb => ?_) k.sep⟩
  · rw [hb] at hbb
    cases hbb
    refine ⟨Or.inl h.bel.size, ?_⟩
    cases hr : R w.heap.size with
    | none => rfl
    | some o => have := h.sub.lt hr; omega
  · rw [hb] at hbb
    cases hbb
    have := Own.ok_lt (h.own y hy) hyb
    omega

theorem St.alloc {w0 w : World} {R : Hp} {O : List Own} (h : St M w0 w R O) (c : List Value) (t : TypeId) : St M w0 (w.alloc (.cells c.toArray t)) R (.cells w.heap.size c t :: O) :=
  h.new (.cells w.heap.size c t) _ (heap_alloc_new w _) rfl

/-- Something owned, taken to the front. -/
theorem perm_pick {α : Type} {O : List α} {x : α} {i : Nat} (h : O[i]? = some x) : O.Perm (x :: O.eraseIdx i) := by
  induction O generalizing i with
  | nil => simp at h
  | cons a r ih =>
    cases i with
    | zero => simp at h; subst h; simp
    | succ i =>
      simp only [List.getElem?_cons_succ] at h
      simp only [List.eraseIdx_cons_succ]
      exact (List.Perm.cons a (ih h)).trans (List.Perm.swap x a _)
theorem St.perm {w0 w : World} {R : Hp} {O O' : List Own} (h : St M w0 w R O) (hp : O.Perm O') : St M w0 w R O' :=
  ⟨h.bel, h.sub, fun x hx => h.own x (hp.mem_iff.2 hx), fun x hx => h.base x (hp.mem_iff.2 hx),
   (hp.pairwise_iff (R := fun x y => ∀ b, x.blk = some b → y.blk ≠ some b) (fun hxy b hy hx => hxy b hx hy)).1 h.sep⟩
theorem St.pick {w0 w : World} {R : Hp} {O : List Own} (h : St M w0 w R O) (i : Nat) {x : Own} (hi : O[i]? = some x) : St M w0 w R (x :: O.eraseIdx i) := h.perm (perm_pick hi)
theorem St.tail {w0 w : World} {R : Hp} {O : List Own} {x : Own} (h : St M w0 w R (x :: O)) : St M w0 w R O :=
  ⟨h.bel, h.sub, fun y hy => h.own y (List.mem_cons_of_mem _ hy), fun y hy => h.base y (List.mem_cons_of_mem _ hy), (List.pairwise_cons.1 h.sep).2⟩
theorem St.ltM {w0 w : World} {R : Hp} {O : List Own} (h : St M w0 w R O) {x : Own} (hx : x ∈ O) {k : Nat} (hb : x.blk = some k) (hk : k < w0.heap.size) : blks M k := by
  rcases (h.base x hx k hb).1 with h1 | h1
  · omega
  · exact h1

/-- What stands at the front is turned into something else (of the same block, or of a new one). -/
theorem St.turn {w0 w w' : World} {R : Hp} {O : List Own} {x y : Own} (h : St M w0 w R (x :: O)) (hos : w'.os = w.os) (htape : w'.tape = w.tape) (hout : w'.output = w.output) (hsz : w.heap.size ≤ w'.heap.size) (hdr : w.drawn ≤ w'.drawn)
    (hb : ∀ k, k < w.heap.size → x.blk ≠ some k → w'.heap[k]? = w.heap[k]?) (hy : y.ok w')
    (hk : ∀ b, y.blk = some b → x.blk = some b ∨ w.heap.size ≤ b) : St M w0 w' R (y :: O) := by
  have hsep := List.pairwise_cons.1 h.sep
  have other : ∀ z ∈ O, ∀ b, z.blk = some b → w'.heap[b]? = w.heap[b]? := fun z hz b hzb =>
    hb b (Own.ok_lt (h.own z (List.mem_cons_of_mem _ hz)) hzb) (fun e => hsep.1 z hz b e hzb)
  refine ⟨h.bel.step (X := [x]) ⟨hos, htape, hout, hsz, .of hdr, fun k hk' hne => hb k hk' (fun e => hne ⟨x, List.mem_cons_self .., e⟩)⟩ (fun k hk' ⟨z, hz, hzb⟩ => ?_), fun b o hr => ?_, all_cons hy fun z hz => Own.ok_kept (h.own z (List.mem_cons_of_mem _ hz)) (other z hz),
    all_cons (fun b hyb => ?_) fun z hz => h.base z (List.mem_cons_of_mem _ hz), List.Pairwise.cons (fun z hz b hyb hzb => ?_) hsep.2⟩
  · rw [List.mem_singleton] at hz
    subst hz
    exact h.ltM (List.mem_cons_self ..) hzb hk'
  · rw [hb b (h.sub.lt hr) (fun e => by have := (h.base x (by simp) b e).2; rw [this] at hr; cases hr)]
    exact h.sub b o hr
  · rcases hk b hyb with h1 | h1
    · exact h.base x (by simp) b h1
    · refine ⟨Or.inl (Nat.le_trans h.bel.size h1), ?_⟩
      cases hr : R b with
      | none => rfl
      | some o => have := h.sub.lt hr; omega
  · rcases hk b hyb with h1 | h1
    · exact hsep.1 z hz b h1 hzb
    · have := Own.ok_lt (h.own z (List.mem_cons_of_mem _ hz)) hzb; omega

/-- A cell of a block that is known whole is written. -/
theorem St.set {w0 w : World} {R : Hp} {O : List Own} {b : Nat} {c : List Value} {t : TypeId} (h : St M w0 w R (.cells b c t :: O)) (i : Nat) (v : Value) : St M w0 (w.setCell ⟨b, i, none⟩ v) R (.cells b (c.set i v) t :: O) := by
  have h0 : w.heap[b]? = some (.cells c.toArray t (0, 0)) := h.own (.cells b c t) (List.mem_cons_self ..)
  refine h.turn rfl rfl rfl (by simp [World.setCell]) (Nat.le_refl _) (fun k _ hk => Below.heap_setCell _ _ _ _ (fun e => hk (by simp [Own.blk, e]))) ?_ (fun b' hb' => Or.inl hb')
  show (w.setCell ⟨b, i, none⟩ v).heap[b]? = _
  rw [heap_setCell_same w b i _ t v h0]
  simp

/-- What the call owned is read only from here on. -/
theorem St.freeze {w0 w : World} {R : Hp} {O : List Own} {x : Own} (h : St M w0 w R (x :: O)) {b : Nat} {o : Obj} (hx : x.blk = some b) (hb : w.heap[b]? = some o) :
    St M w0 w (fun k => if k = b then some o else R k) O ∧ R.le (fun k => if k = b then some o else R k) := by
  have hR : R b = none := (h.base x (by simp) b hx).2
  have t := h.tail
  have hsep := List.pairwise_cons.1 h.sep
  refine ⟨⟨t.bel, fun k u hk => ?_, t.own, fun y hy k hyk => ⟨(t.base y hy k hyk).1, ?_⟩, t.sep⟩, fun k u hk => ?_⟩
  · by_cases e : k = b
    · subst e; simp at hk; subst hk; exact hb
    · simp [e] at hk; exact t.sub k u hk
  · by_cases e : k = b
    · subst e; exact absurd hyk (hsep.1 y hy k hx)
    · simp [e]; exact (t.base y hy k hyk).2
  · by_cases e : k = b
    · subst e; rw [hR] at hk; cases hk
    · simp [e]; exact hk

/-- What R has come to since the call began. -/
structure RLe (M : List Own) (w0 : World) (R R' : Hp) : Prop where
  le : R.le R'
  new : ∀ b o, R' b = some o → R b = some o ∨ w0.heap.size ≤ b ∨ blks M b
theorem RLe.refl (w0 : World) (R : Hp) : RLe M w0 R R := ⟨Hp.le.refl _, fun _ _ h => Or.inl h⟩
theorem RLe.trans {w0 : World} {R R' R'' : Hp} (h : RLe M w0 R R') (h' : RLe M w0 R' R'') : RLe M w0 R R'' :=
  ⟨h.le.trans h'.le, fun b o hb => (h'.new b o hb).elim (fun h1 => h.new b o h1) Or.inr⟩

/-- A call's beginning: what stands at the front is handed over. -/
theorem St.lend {w0 w : World} {R : Hp} {N O : List Own} (h : St M w0 w R (N ++ O)) : St N w w R N :=
  ⟨Bel.refl _ _, h.sub, fun x hx => h.own x (List.mem_append_left _ hx), fun x hx b hb => ⟨Or.inr ⟨x, hx, hb⟩, (h.base x (List.mem_append_left _ hx) b hb).2⟩, (List.pairwise_append.1 h.sep).1⟩
/-- .. and its end. -/
theorem St.back {w0 w w' : World} {R R' : Hp} {N N' O : List Own} (h : St M w0 w R (N ++ O)) (h' : St N w w' R' N') (hr : RLe N w R R') : St M w0 w' R' (N' ++ O) ∧ RLe M w0 R R' := by
  have hsep := List.pairwise_append.1 h.sep
  have hO : ∀ x ∈ O, ∀ b, x.blk = some b → ¬ blks N b := fun x hx b hb ⟨y, hy, hyb⟩ => hsep.2.2 y hy x hx b hyb hb
  have hlt : ∀ x ∈ O, ∀ b, x.blk = some b → b < w.heap.size := fun x hx b hb => Own.ok_lt (h.own x (List.mem_append_right _ hx)) hb
  have hNM : ∀ k, k < w0.heap.size → blks N k → blks M k := fun k hk ⟨y, hy, hyb⟩ => h.ltM (List.mem_append_left _ hy) hyb hk
  have hup : ∀ b, w.heap.size ≤ b ∨ blks N b → w0.heap.size ≤ b ∨ blks M b := fun b hb => by
    rcases hb with h1 | ⟨y, hy, hyb⟩
    · exact Or.inl (Nat.le_trans h.bel.size h1)
    · exact (h.base y (List.mem_append_left _ hy) b hyb).1
  refine ⟨⟨h.bel.step h'.bel hNM, h'.sub, fun x hx => ?_, fun x hx b hb => ?_, ?_⟩, hr.le, fun b o hb => (hr.new b o hb).imp id (hup b)⟩
  · rcases List.mem_append.1 hx with hx | hx
    · exact h'.own x hx
    · exact Own.ok_kept (h.own x (List.mem_append_right _ hx)) fun b hb => h'.bel.block b (hlt x hx b hb) (hO x hx b hb)
  · rcases List.mem_append.1 hx with hx | hx
    · exact ⟨hup b (h'.base x hx b hb).1, (h'.base x hx b hb).2⟩
    · refine ⟨(h.base x (List.mem_append_right _ hx) b hb).1, ?_⟩
      cases hR : R' b with
      | none => rfl
      | some o =>
        exfalso
        rcases hr.new b o hR with h1 | h1 | h1
        · rw [(h.base x (List.mem_append_right _ hx) b hb).2] at h1; cases h1
        · have := hlt x hx b hb; omega
        · exact hO x hx b hb h1
  · refine List.pairwise_append.2 ⟨h'.sep, hsep.2.1, fun x hx y hy b hxb hyb => ?_⟩
    rcases (h'.base x hx b hxb).1 with h1 | h1
    · have := hlt y hy b hyb; omega
    · exact hO y hy b hyb h1

/-- What is lent: all memory that is there, but for blocks that are handed over. -/
noncomputable def lentOf (M : List Own) (w : World) : Hp := open Classical in fun b => if blks M b then none else w.heap[b]?
theorem lentOf_sub (M : List Own) (w : World) : (lentOf M w).sub w := fun b o h => by
  unfold lentOf at h
  split at h
  · cases h
  · exact h
theorem lentOf_not {M : List Own} {w : World} : ∀ b, blks M b → lentOf M w b = none := fun b h => by unfold lentOf; rw [if_pos h]
theorem lentOf_some {M : List Own} {w : World} {b : Nat} {o : Obj} (h : ¬ blks M b) (ho : w.heap[b]? = some o) : lentOf M w b = some o := by unfold lentOf; rw [if_neg h]; exact ho
/-- What is lent to a call stays. -/
theorem St.ra {w0 w : World} {R RA : Hp} {O : List Own} (h : St M w0 w R O) (hA : RA.sub w0) (hM : ∀ b, blks M b → RA b = none) : RA.sub w := fun b o hb => by
  have h0 := hA b o hb
  rw [h.bel.block b (Array.getElem?_eq_some_iff.1 h0).1 (fun hm => by rw [hM b hm] at hb; cases hb)]
  exact h0
/-- What is read only may be lent. -/
theorem St.rLe {w0 w : World} {R : Hp} {N O : List Own} (h : St M w0 w R (N ++ O)) : R.le (lentOf N w) := fun b o hb => lentOf_some (fun ⟨x, hx, hxb⟩ => by
  have := (h.base x (List.mem_append_left _ hx) b hxb).2
  rw [this] at hb; cases hb) (h.sub b o hb)
/-- So may what was lent. -/
theorem St.raLe {w0 w : World} {R RA : Hp} {N O : List Own} (h : St M w0 w R (N ++ O)) (hA : RA.sub w0) (hM : ∀ b, blks M b → RA b = none) : RA.le (lentOf N w) := fun b o hb => lentOf_some (fun ⟨x, hx, hxb⟩ => by
  rcases (h.base x (List.mem_append_left _ hx) b hxb).1 with h1 | h1
  · have := hA.lt hb; omega
  · rw [hM b h1] at hb; cases hb) (h.ra hA hM b o hb)
/-- So may what is owned, and not handed over. -/
theorem St.ownLent {w0 w : World} {R : Hp} {N O : List Own} (h : St M w0 w R (N ++ O)) {x : Own} (hx : x ∈ O) {b : Nat} {o : Obj} (hb : x.blk = some b) (ho : w.heap[b]? = some o) : lentOf N w b = some o :=
  lentOf_some (fun ⟨y, hy, hyb⟩ => (List.pairwise_append.1 h.sep).2.2 y hy x hx b hyb hb) ho
end

/-! ### Steps: an operation in a list (wpList), in a quiet region (wpQuiet) -/
section
variable {P : Program} {ops : Array Oper} {Q : Exit → Act → World → Prop} {C : World → Prop} {QQ : Act → Prop} {a : Act} {w : World} {rest : List Oper} {o : Oper} {n : Fr} {L : Sl}

/-- Is the operation wanted? none: not known. -/
def wantedL (ops : Array Oper) (L : Sl) (o : Oper) : Option Bool :=
  match o.guard with
  | none => some true
  | some (j, want) =>
    match (ops[j]?).bind (·.dst) with
    | some d => match look L d with
      | some (.bool b) => some (b == want)
      | some (.tuple _) => some false
      | _ => none
    | none => none
theorem wantedL_ok (hK : Kn n a L) {b : Bool} (h : wantedL ops L o = some b) : Region.wanted o (yielded ops a.tmps) = b := by
  unfold wantedL at h
  unfold Region.wanted
  cases hg : o.guard with
  | none => simp only [hg] at h; cases h; rfl
  | some p =>
    obtain ⟨j, want⟩ := p
    simp only [hg] at h
    unfold yielded
    cases hd : (ops[j]?).bind (·.dst) with
    | none => simp [hd] at h
    | some d =>
      simp only [hd] at h
      cases hl : look L d with
      | none => simp [hl] at h
      | some v =>
        simp only [hl] at h
        have := hK.at_ d v hl
        cases v <;> simp at h <;> subst h <;> simp [hd, this]

def Runs (P : Program) (w : World) (a : Act) (o : Oper) (v : Value) : Prop := (execOp a.eval o).run P w = .ok (.value v) w

/-- An operation that leaves the memory alone, and yields v. -/
theorem sl {d : Nat} {v : Value} (hK : Kn n a L) (hd : d < n.n) (hw : wantedL ops L o = some true) (ho : o.dst = some d) (hr : Runs P w a o v)
    (h : ∀ a, Kn n a ((d, v) :: L) → wpList P ops Q rest a w) : wpList P ops Q (o :: rest) a w := by
  unfold wpList
  rw [if_pos (wantedL_ok hK hw)]
  refine .inl ?_
  unfold Oper.wp
  rw [hr, Oper.upon_value, ho]
  exact h _ (hK.put hd v)
theorem sq {d : Nat} {v : Value} (hK : Kn n a L) (hd : d < n.n) (hw : wantedL ops L o = some true) (ho : o.dst = some d) (hr : ∀ w, C w → Runs P w a o v)
    (h : ∀ a, Kn n a ((d, v) :: L) → wpQuiet P ops C QQ rest a) : wpQuiet P ops C QQ (o :: rest) a := by
  unfold wpQuiet
  rw [if_pos (wantedL_ok hK hw)]
  refine ⟨v, fun w hC => ?_, by rw [ho]; exact h _ (hK.put hd v)⟩
  unfold Oper.quietAt
  rw [hr w hC]
  exact ⟨rfl, rfl⟩
/-- An operation that its guard shuts out. -/
theorem sl_skip {d : Nat} (hK : Kn n a L) (hd : d < n.n) (hw : wantedL ops L o = some false) (ho : o.dst = some d)
    (h : ∀ a, Kn n a ((d, undef) :: L) → wpList P ops Q rest a w) : wpList P ops Q (o :: rest) a w := by
  unfold wpList
  rw [if_neg (by rw [wantedL_ok hK hw]; simp), ho]
  exact h _ (hK.put hd _)
theorem sl_skip0 (hK : Kn n a L) (hw : wantedL ops L o = some false) (ho : o.dst = none)
    (h : ∀ a, Kn n a L → wpList P ops Q rest a w) : wpList P ops Q (o :: rest) a w := by
  unfold wpList
  rw [if_neg (by rw [wantedL_ok hK hw]; simp), ho]
  exact h _ hK
theorem sq_skip {d : Nat} (hK : Kn n a L) (hd : d < n.n) (hw : wantedL ops L o = some false) (ho : o.dst = some d)
    (h : ∀ a, Kn n a ((d, undef) :: L) → wpQuiet P ops C QQ rest a) : wpQuiet P ops C QQ (o :: rest) a := by
  unfold wpQuiet
  rw [if_neg (by rw [wantedL_ok hK hw]; simp), ho]
  exact h _ (hK.put hd _)
/-- An operation that yields a value and leaves another world. -/
theorem slw {d : Nat} {v : Value} {w' : World} (hK : Kn n a L) (hd : d < n.n) (hw : wantedL ops L o = some true) (ho : o.dst = some d) (hr : (execOp a.eval o).run P w = .ok (.value v) w')
    (h : ∀ a, Kn n a ((d, v) :: L) → wpList P ops Q rest a w') : wpList P ops Q (o :: rest) a w := by
  unfold wpList
  rw [if_pos (wantedL_ok hK hw)]
  refine .inl ?_
  unfold Oper.wp
  rw [hr, Oper.upon_value, ho]
  exact h _ (hK.put hd v)
/-- An operation that yields nothing (a store). -/
theorem sls {w' : World} (hK : Kn n a L) (hw : wantedL ops L o = some true) (ho : o.dst = none) (hr : (execOp a.eval o).run P w = .ok .skip w')
    (h : ∀ a, Kn n a L → wpList P ops Q rest a w') : wpList P ops Q (o :: rest) a w := by
  unfold wpList
  rw [if_pos (wantedL_ok hK hw)]
  refine .inl ?_
  unfold Oper.wp
  rw [hr, Oper.upon_skip, ho]
  exact h _ hK

/-! ### What single operations yield -/
theorem r_move {d ty pos af g} {x : Operand} {v : Value} (hK : Kn n a L) (hx : ev L x = some v) : Runs P w a ⟨d, .move x, ty, pos, af, g⟩ v := by
  simp [Runs, execOp, hK.ev hx]
theorem r_assign {d ty pos af g} {x : Operand} {v : Value} (hK : Kn n a L) (hx : ev L x = some v) : Runs P w a ⟨d, .assign x, ty, pos, af, g⟩ v := by
  simp [Runs, execOp, hK.ev hx]
theorem r_pick {d ty pos af g} {c x y : Operand} {b : Bool} {u v : Value} (hK : Kn n a L) (hc : ev L c = some (.bool b)) (hx : (bif b then ev L x else ev L y) = some u) (hv : u = v) : Runs P w a ⟨d, .pick c x y, ty, pos, af, g⟩ v := by
  subst hv
  cases b
  · simp [Runs, execOp, hK.ev hc, asBool, hK.ev hx]
  · simp [Runs, execOp, hK.ev hc, asBool, hK.ev hx]

/-- Arithmetic and comparisons of two numbers of one kind. -/
def ibin : BinOp → IntKind → Int → Int → Option Value
  | .add, k, x, y => some (.int k (k.wrap (x + y)))
  | .sub, k, x, y => some (.int k (k.wrap (x - y)))
  | .mul, k, x, y => some (.int k (k.wrap (x * y)))
  | .eql, _, x, y => some (.bool (x == y))
  | .neq, _, x, y => some (.bool (x != y))
  | .lss, _, x, y => some (.bool (decide (x < y)))
  | .leq, _, x, y => some (.bool (decide (x ≤ y)))
  | .gtr, _, x, y => some (.bool (decide (x > y)))
  | .geq, _, x, y => some (.bool (decide (x ≥ y)))
  | .and, k, x, y => some (.int k (k.wrap (BitVec.ofInt k.bits x &&& BitVec.ofInt k.bits y).toNat))
  | .or, k, x, y => some (.int k (k.wrap (BitVec.ofInt k.bits x ||| BitVec.ofInt k.bits y).toNat))
  | .xor, k, x, y => some (.int k (k.wrap (BitVec.ofInt k.bits x ^^^ BitVec.ofInt k.bits y).toNat))
  | _, _, _, _ => none
theorem r_ibin {d ty pos af g} {op : BinOp} {t t' : TypeId} {x y : Operand} {k : IntKind} {p q : Int} {v : Value} (hK : Kn n a L) (hx : ev L x = some (.int k p)) (hy : ev L y = some (.int k q)) (hv : ibin op k p q = some v) : Runs P w a ⟨d, .binOp op t x y t', ty, pos, af, g⟩ v := by
  cases op <;> simp [ibin] at hv <;> subst hv <;> simp [Runs, execOp, hK.ev hx, hK.ev hy, eqGuard, binOp, Op.intArith, Op.intCmp, Op.intBits]
end
end Go.Eng
