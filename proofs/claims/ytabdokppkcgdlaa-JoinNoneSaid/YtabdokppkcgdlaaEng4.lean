/-
  The engine, part 4: rows that grow (append, make), what is frozen, strings and bytes, the end of a call.
-/
import Derived.Test.YtabdokppkcgdlaaEng3
import Derived.Laws.MakeOwn
import Derived.Laws.OwnMore
import Derived.Test.YtabdokppkcgdlaaEngR
namespace Go.Eng
open Go.RowKit
set_option linter.unusedVariables false
set_option linter.unusedSimpArgs false

/-- A slice type t of elements e: their cells, their bytes. -/
structure ElT (P : Program) (t e : TypeId) (size bytes : Nat) : Prop where
  und : P.underlying t = some (.slice e)
  ex : ∃ i z, P.info? e = some i ∧ i.zero = some z ∧ i.size = size ∧ i.bytes = bytes ∧ z.cells.size = size
  pos : 0 < size

/-- What append makes, if it may be that long. -/
def apd {α : Type} (B : Nat) (xs ys : List α) : Option (List α) := if (xs.length + ys.length) * B ≤ 140737488355328 then some (xs ++ ys) else none
theorem apd_some {α : Type} {B : Nat} {xs ys zs : List α} (h : apd B xs ys = some zs) : (xs.length + ys.length) * B ≤ 140737488355328 ∧ zs = xs ++ ys := by
  unfold apd at h
  split at h
  · exact ⟨by assumption, (Option.some.inj h).symm⟩
  · cases h

section
variable {α : Type} {ty : Ty α}
variable {P : Program} {ops : Array Oper} {Q : Exit → Act → World → Prop} {a : Act} {w0 w : World} {M : List Own} {R : Hp} {O : List Own} {rest : List Oper} {n : Fr} {L : Sl}
variable {d : Option Tmp} {ty' : TypeId} {pos : String} {af : Array Edge} {g : Option (Nat × Bool)}

theorem append_none {t e : TypeId} {size : Nat} (hu : P.underlying t = some (.slice e)) (hz : ∀ w, (sizeOf e).run P w = .ok size w) (tt : TypeId) {ad ad' : Option Addr} {m c c' : Nat} (hc : m ≤ c) :
    (Builtin.append_ #[t, t] tt #[.slice ad m c, .slice ad' 0 c']).run P w = .ok (.slice ad m c) w := by
  cases ad <;> cases ad' <;> simp [Builtin.append_, run_underlying hu, hz, Builtin.lenOf, hc, Builtin.firstCells, loadCells, loadCellsFrom, storeCells]
theorem ownsRow_cap {base t sz : Nat} {v : Value} {m : Nat} {cs : List Value} (h : w.ownsRow base t sz v m cs) : ∃ ad c, v = .slice ad m c ∧ m ≤ c := by
  rcases h.2 with ⟨h1, h2⟩ | ⟨g, cap, cur, hv, _, _, h1, _⟩
  · subst h2; exact ⟨_, _, h1, Nat.le_refl _⟩
  · exact ⟨_, _, hv, h1⟩

/-- The new row's block is the old one, or a new one. -/
theorem append_blk {t e size bytes tt : Nat} {i : TypeInfo} {z : Value} {base : Nat} {v v' : Value} {w' : World} {m k c : Nat} {cs news : List Value} {ad : Addr} (ht : P.underlying t = some (.slice e)) (hi : P.info? e = some i) (hz0 : i.zero = some z) (hsz : i.size = size) (hby : i.bytes = bytes)
    (hown : w.ownsRow base e size v m cs) (hk : k ≠ 0) (hl : news.length = k * size) (hnews : ∀ j u, news[j]? = some u → w.cell? (ad.add j) = some u) (h1 : ∀ u ∈ news, u.oneCell' = true) (h63 : m + k ≤ 140737488355328) (hb : (m + k) * bytes ≤ 140737488355328)
    (hr : (Builtin.append_ #[t, t] tt #[v, .slice (some ad) k c]).run P w = .ok v' w') : (∀ b, v'.ownBlock = some b → v.ownBlock = some b ∨ w.heap.size ≤ b) ∧ w.drawn ≤ w'.drawn := by
  subst hsz; subst hby
  rcases hown.2 with ⟨rfl, rfl⟩ | ⟨g, cap, cur, rfl, hbg, hg, hnc, hcm, hcs, htake⟩
  · have := run_append_nil (P := P) w t tt e i z ht hi hz0 ad k c news hl hnews (by omega) (by omega) (by simp only [Nat.zero_add] at hb; omega)
    rw [this] at hr
    injection hr with h1 h2
    subst h1; subst h2
    exact ⟨fun b hb' => by
      simp [Value.ownBlock] at hb'
      exact Or.inr (by omega), Nat.le_succ _⟩
  · by_cases hroom : m + k ≤ cap
    · have hfit : m * i.size + news.length ≤ cur.size := by rw [hl, hcs, ← Nat.add_mul]; exact Nat.mul_le_mul_right _ hroom
      have := run_append_room (P := P) w t tt e i ht hi g m cap cur hg ad k c news hl hnews h1 hroom hfit
      rw [this] at hr
      injection hr with h1 h2
      subst h1; subst h2
      exact ⟨fun b hb' => Or.inl hb', Nat.le_refl _⟩
    · have holds : ∀ j u, cs[j]? = some u → w.cell? ((⟨g, 0, none⟩ : Addr).add j) = some u := hown.cells (g := g) rfl
      have := run_append_grow (P := P) w t tt e i z ht hi hz0 ⟨g, 0, none⟩ m cap cs hown.1 holds ad k c news hl hnews (by omega) (by omega) (growslice_fits (by omega) hb)
      rw [this] at hr
      injection hr with h1 h2
      subst h1; subst h2
      exact ⟨fun b hb' => by
        simp [Value.ownBlock] at hb'
        exact Or.inr (by omega), Nat.le_succ _⟩

/-- append onto an owned row, of cells that lie somewhere (not in that row's own block behind its end). -/
theorem run_append {t e size bytes tt : Nat} {v : Value} {m k c : Nat} {cs news : List Value} {ad : Option Addr} (hE : ElT P t e size bytes) (hB : 1 ≤ bytes)
    (hS : St M w0 w R (.row e size v m cs :: O)) (hl : news.length = k * size) (h1 : ∀ u ∈ news, u.oneCell' = true) (hb : (m + k) * bytes ≤ 140737488355328)
    (hsrc : k ≠ 0 → ∃ b o, ad = some ⟨b, o, none⟩ ∧ ∀ j u, news[j]? = some u → w.cell? ⟨b, o + j, none⟩ = some u) :
    ∃ v' w', (Builtin.append_ #[t, t] tt #[v, .slice ad k c]).run P w = .ok v' w' ∧ St M w0 w' R (.row e size v' (m + k) (cs ++ news) :: O) := by
  obtain ⟨i, z, hi, hz0, hsz, hby, hzs⟩ := hE.ex
  have hown : w.ownsRow 0 e size v m cs := hS.own (.row e size v m cs) (List.mem_cons_self ..)
  by_cases hk : k = 0
  · subst hk
    obtain ⟨ad0, c0, rfl, hc0⟩ := ownsRow_cap hown
    have : news = [] := List.eq_nil_of_length_eq_zero (by simpa using hl)
    subst this
    refine ⟨_, w, append_none (size := size) hE.und (fun w => by simp [sizeOf, typeInfo, hi, hsz]) tt hc0, ?_⟩
    simpa using hS
  · obtain ⟨b, o, rfl, hcell⟩ := hsrc hk
    have hle : m + k ≤ 140737488355328 := Nat.le_trans (Nat.le_mul_of_pos_right _ hB) hb
    obtain ⟨v', w', hr, h2, h3, h4⟩ := run_append_own (P := P) w 0 t tt e i z size bytes hE.und hi hz0 hsz hby hzs hE.pos v m cs hown ⟨b, o, none⟩ k c news hl (fun j u hu => by rw [add_lit]; exact hcell j u hu) h1
      (by simp only [maxLen]; omega) hb (Nat.zero_le _)
    have hab := append_blk hE.und hi hz0 hsz hby hown hk hl (fun j u hu => by rw [add_lit]; exact hcell j u hu) h1 hle hb hr
    exact ⟨v', w', hr, hS.turn h3.os h3.tape h3.output h3.size hab.2 (fun j hj hne => h3.block j hj (fun e => hne e.symm)) h2 hab.1⟩

theorem append_op {s x : Operand} {t : TypeId} {u v v' : Value} {w' : World} (hK : Kn n a L) (hs : ev L s = some v) (hx : ev L x = some u) (hr : (Builtin.append_ #[t, t] ty' #[v, u]).run P w = .ok v' w') :
    (execOp a.eval ⟨d, .call { callee := .builtin .append, args := #[s, x], argTypes := #[t, t] }, ty', pos, af, g⟩).run P w = .ok (.value v') w' := by
  simp [execOp, resolve, invoke, builtin, hK.ev hs, hK.ev hx, hr]

/-- append(s, x...), x a slice that is read. -/
theorem sl_append_R {dd : Nat} {s x : Operand} {t e size bytes : Nat} {v u : Value} {m : Nat} {cs : List Value} {xs ys zs : List α} (hE : ElT P t e size bytes) (hB : 1 ≤ bytes) (hty : ty.n = size) (hcs : Reps ty R cs xs) (hm : m = xs.length) (hu : SlR ty R u ys) (hz : apd bytes xs ys = some zs)
    (hS : St M w0 w R (.row e size v m cs :: O)) (hK : Kn n a L) (hd : dd < n.n) (hw : wantedL ops L ⟨some dd, .call { callee := .builtin .append, args := #[s, x], argTypes := #[t, t] }, ty', pos, af, g⟩ = some true) (hs : ev L s = some v) (hx : ev L x = some u)
    (h : ∀ a w v' cs', Reps ty R cs' zs → St M w0 w R (.row e size v' zs.length cs' :: O) → Kn n a ((dd, v') :: L) → wpList P ops Q rest a w) :
    wpList P ops Q (⟨some dd, .call { callee := .builtin .append, args := #[s, x], argTypes := #[t, t] }, ty', pos, af, g⟩ :: rest) a w := by
  subst hm; subst hty
  obtain ⟨hb, hzs⟩ := apd_some hz
  obtain ⟨ad, cap, ds, rfl, _, hds, hsrc⟩ := hu.cells
  obtain ⟨v', w', hr, hS'⟩ := run_append (tt := ty') (c := cap) (news := ds) (ad := ad) hE hB hS hds.length hds.one hb (fun hk => by
    obtain ⟨b, o, h1, h2⟩ := hsrc (by intro e; subst e; exact hk rfl)
    exact ⟨b, o, h1, fun j u hu => hS.rcell (h2 j u hu)⟩)
  refine slw hK hd hw rfl (append_op hK hs hx hr) fun a' hK' => h a' w' v' (cs ++ ds) (by rw [hzs]; exact hcs.append hds) ?_ hK'
  rw [hzs, List.length_append]
  exact hS'
/-- append(s, x, y, ..): the parts lie in a block that was made for them. -/
theorem sl_append_L {dd : Nat} {s x : Operand} {t e size bytes : Nat} {v : Value} {m k b : Nat} {t' : TypeId} {cs ds : List Value} {xs ys zs : List α} (hE : ElT P t e size bytes) (hB : 1 ≤ bytes) (hty : ty.n = size) (hcs : Reps ty R cs xs) (hm : m = xs.length) (hds : Reps ty R ds ys) (hk : k = ys.length) (hz : apd bytes xs ys = some zs)
    (hS : St M w0 w R (.row e size v m cs :: .cells b ds t' :: O)) (hK : Kn n a L) (hd : dd < n.n) (hw : wantedL ops L ⟨some dd, .call { callee := .builtin .append, args := #[s, x], argTypes := #[t, t] }, ty', pos, af, g⟩ = some true) (hs : ev L s = some v) (hx : ev L x = some (.slice (some ⟨b, 0, none⟩) k k))
    (h : ∀ a w v' cs', Reps ty R cs' zs → St M w0 w R (.row e size v' zs.length cs' :: O) → Kn n a ((dd, v') :: L) → wpList P ops Q rest a w) :
    wpList P ops Q (⟨some dd, .call { callee := .builtin .append, args := #[s, x], argTypes := #[t, t] }, ty', pos, af, g⟩ :: rest) a w := by
  subst hm; subst hty; subst hk
  obtain ⟨hb, hzs⟩ := apd_some hz
  obtain ⟨v', w', hr, hS'⟩ := run_append (tt := ty') (c := ys.length) (news := ds) (ad := some ⟨b, 0, none⟩) hE hB hS hds.length hds.one hb (fun hk => ⟨b, 0, rfl, fun j u hu => by
    rw [Nat.zero_add]; exact hS.cell (.tail _ (.head _)) hu⟩)
  refine slw hK hd hw rfl (append_op hK hs hx hr) fun a' hK' => h a' w' v' (cs ++ ds) (by rw [hzs]; exact hcs.append hds) ?_ hK'
  rw [hzs, List.length_append]
  exact hS'.drop1
/-- A nil slice is a row that may grow; so is a literal. -/
theorem St.row_nil (h : St M w0 w R O) (e size : Nat) : St M w0 w R (.row e size (.slice none 0 0) 0 [] :: O) :=
  ⟨h.bel, h.sub, all_cons (World.ownsRow_nil w _ e size) h.own, all_cons (fun b hb => by simp [Own.blk, Value.ownBlock] at hb) h.base, List.Pairwise.cons (fun y _ b hb => by simp [Own.blk, Value.ownBlock] at hb) h.sep⟩
theorem St.row_lit {b m size : Nat} {c : List Value} {e : TypeId} (h : St M w0 w R (.cells b c e :: O)) (hc : c.length = m * size) (hm : m ≤ 140737488355328) : St M w0 w R (.row e size (.slice (some ⟨b, 0, none⟩) m m) m c :: O) := by
  have hb : w.heap[b]? = some (.cells c.toArray e (0, 0)) := h.own (.cells b c e) (List.mem_cons_self ..)
  refine h.turn rfl rfl rfl (Nat.le_refl _) (Nat.le_refl _) (fun _ _ _ => rfl) ⟨hc, Or.inr ⟨b, m, c.toArray, rfl, Nat.zero_le _, hb, Nat.le_refl _, by simp only [maxLen]; omega, by simpa using hc, ?_⟩⟩ (fun b' hb' => Or.inl hb')
  rw [← hc]; simp

theorem St.frozen {x : Own} {b : Nat} {o : Obj} (h : St M w0 w R (x :: O)) (hx : x.blk = some b) (hb : w.heap[b]? = some o) : ∃ R', St M w0 w R' O ∧ RLe M w0 R R' ∧ R' b = some o := by
  obtain ⟨h1, h2⟩ := h.freeze hx hb
  refine ⟨_, h1, ⟨h2, fun k u hk => ?_⟩, by simp⟩
  by_cases e : k = b
  · subst e; exact Or.inr (h.base x (List.mem_cons_self ..) k hx).1
  · simp [e] at hk; exact Or.inl hk
/-- A row is read only from here on. -/
theorem St.fz_row {e size m : Nat} {v : Value} {cs : List Value} {xs : List α} (h : St M w0 w R (.row e size v m cs :: O)) (hcs : Reps ty R cs xs) (hm : m = xs.length) (hty : ty.n = size) : ∃ R', St M w0 w R' O ∧ RLe M w0 R R' ∧ SlR ty R' v xs := by
  subst hm; subst hty
  have hown : w.ownsRow 0 e ty.n v xs.length cs := h.own (.row e ty.n v xs.length cs) (List.mem_cons_self ..)
  rcases hown.2 with ⟨rfl, h0⟩ | ⟨g, cap, cur, rfl, hbg, hg, hnc, hcm, hcz, htake⟩
  · have : xs = [] := List.eq_nil_of_length_eq_zero h0
    subst this
    exact ⟨R, h.tail, RLe.refl _ _, SlR.nil ty R⟩
  · obtain ⟨R', h1, h2, h3⟩ := h.frozen rfl hg
    refine ⟨R', h1, h2, SlR.of_cells rfl hnc (hcs.mono h2.le) fun j u hu => ?_⟩
    rw [← htake, List.getElem?_take] at hu
    split at hu
    · simp only [Hp.cell, h3, Nat.zero_add]; simpa using hu
    · cases hu
/-- A literal is read only from here on. -/
theorem St.fz_lit {b m : Nat} {c : List Value} {t : TypeId} {xs : List α} (h : St M w0 w R (.cells b c t :: O)) (hcs : Reps ty R c xs) (hm : m = xs.length) : ∃ R', St M w0 w R' O ∧ RLe M w0 R R' ∧ SlR ty R' (.slice (some ⟨b, 0, none⟩) m m) xs := by
  subst hm
  obtain ⟨R', h1, h2, h3⟩ := h.frozen rfl (h.own (.cells b c t) (List.mem_cons_self ..))
  exact ⟨R', h1, h2, SlR.of_cells rfl (Nat.le_refl _) (hcs.mono h2.le) fun j u hu => by simp only [Hp.cell, h3, Nat.zero_add]; simpa using hu⟩

/-- Data without memory of their own lie so in whatever memory. -/
def Ty.Any {α : Type} (ty : Ty α) : Prop := ∀ (R R' : Hp) (cs : List Value) (x : α), ty.rep R cs x → ty.rep R' cs x
theorem Reps.any {R R' : Hp} {cs : List Value} {xs : List α} (hf : ty.Any) (h : Reps ty R cs xs) : Reps ty R' cs xs := by
  obtain ⟨css, h1, h2, h3⟩ := h
  exact ⟨css, h1, h2, fun i c x hc hx => hf _ _ _ _ (h3 i c x hc hx)⟩
/-- append(s, x...), x a slice that was lent. -/
theorem sl_append_A {dd : Nat} {s x : Operand} {t e size bytes : Nat} {v u : Value} {m : Nat} {cs : List Value} {xs ys zs : List α} {RA : Hp} (hE : ElT P t e size bytes) (hB : 1 ≤ bytes) (hty : ty.n = size) (hf : ty.Any) (hA : RA.sub w) (hcs : Reps ty R cs xs) (hm : m = xs.length) (hu : SlR ty RA u ys) (hz : apd bytes xs ys = some zs)
    (hS : St M w0 w R (.row e size v m cs :: O)) (hK : Kn n a L) (hd : dd < n.n) (hw : wantedL ops L ⟨some dd, .call { callee := .builtin .append, args := #[s, x], argTypes := #[t, t] }, ty', pos, af, g⟩ = some true) (hs : ev L s = some v) (hx : ev L x = some u)
    (h : ∀ a w v' cs', Reps ty R cs' zs → St M w0 w R (.row e size v' zs.length cs' :: O) → Kn n a ((dd, v') :: L) → wpList P ops Q rest a w) :
    wpList P ops Q (⟨some dd, .call { callee := .builtin .append, args := #[s, x], argTypes := #[t, t] }, ty', pos, af, g⟩ :: rest) a w := by
  subst hm; subst hty
  obtain ⟨hb, hzs⟩ := apd_some hz
  obtain ⟨ad, cap, ds, rfl, _, hds, hsrc⟩ := hu.cells
  obtain ⟨v', w', hr, hS'⟩ := run_append (tt := ty') (c := cap) (news := ds) (ad := ad) hE hB hS hds.length hds.one hb (fun hk => by
    obtain ⟨b, o, h1, h2⟩ := hsrc (by intro e; subst e; exact hk rfl)
    exact ⟨b, o, h1, fun j u hu => hA.cell (h2 j u hu)⟩)
  refine slw hK hd hw rfl (append_op hK hs hx hr) fun a' hK' => h a' w' v' (cs ++ ds) (by rw [hzs]; exact hcs.append (hds.any hf)) ?_ hK'
  rw [hzs, List.length_append]
  exact hS'
/-! what is owned, lent to a call -/
theorem St.lend_row {e size m : Nat} {v : Value} {cs : List Value} {xs : List α} {N : List Own} (h : St M w0 w R (N ++ O)) (hmem : Own.row e size v m cs ∈ O) (hcs : Reps ty R cs xs) (hm : m = xs.length) (hty : ty.n = size) : SlR ty (lentOf N w) v xs := by
  subst hm; subst hty
  have hown : w.ownsRow 0 e ty.n v xs.length cs := h.own _ (List.mem_append_right _ hmem)
  rcases hown.2 with ⟨rfl, h0⟩ | ⟨g, cap, cur, rfl, hbg, hg, hnc, hcm, hcz, htake⟩
  · have : xs = [] := List.eq_nil_of_length_eq_zero h0
    subst this
    exact SlR.nil ty _
  · refine SlR.of_cells rfl hnc (hcs.mono h.rLe) fun j u hu => ?_
    have h3 := h.ownLent hmem rfl hg
    rw [← htake, List.getElem?_take] at hu
    split at hu
    · simp only [Hp.cell, h3, Nat.zero_add]; simpa using hu
    · cases hu
theorem St.lend_box {b : Nat} {c : List Value} {t : TypeId} {N : List Own} (h : St M w0 w R (N ++ O)) (hmem : Own.cells b c t ∈ O) : ∀ j u, c[j]? = some u → (lentOf N w).cell b (0 + j) = some u := fun j u hu => by
  have h3 := h.ownLent hmem rfl (h.own _ (List.mem_append_right _ hmem))
  simp only [Hp.cell, h3, Nat.zero_add]; simpa using hu
theorem St.lend_lit {b m : Nat} {c : List Value} {t : TypeId} {xs : List α} {N : List Own} (h : St M w0 w R (N ++ O)) (hmem : Own.cells b c t ∈ O) (hcs : Reps ty R c xs) (hm : m = xs.length) : SlR ty (lentOf N w) (.slice (some ⟨b, 0, none⟩) m m) xs := by
  subst hm
  exact SlR.of_cells rfl (Nat.le_refl _) (hcs.mono h.rLe) (h.lend_box hmem)
theorem St.rLe0 (h : St M w0 w R O) : R.le (lentOf [] w) := St.rLe (N := []) h
theorem St.raLe0 {RA : Hp} (h : St M w0 w R O) (hA : RA.sub w0) (hM : ∀ b, blks M b → RA b = none) : RA.le (lentOf [] w) := St.raLe (N := []) h hA hM
theorem St.lend_row0 {e size m : Nat} {v : Value} {cs : List Value} {xs : List α} (h : St M w0 w R O) (hmem : Own.row e size v m cs ∈ O) (hcs : Reps ty R cs xs) (hm : m = xs.length) (hty : ty.n = size) : SlR ty (lentOf [] w) v xs := St.lend_row (N := []) h hmem hcs hm hty
theorem St.lend_box0 {b : Nat} {c : List Value} {t : TypeId} (h : St M w0 w R O) (hmem : Own.cells b c t ∈ O) : ∀ j u, c[j]? = some u → (lentOf [] w).cell b (0 + j) = some u := St.lend_box (N := []) h hmem
theorem St.lend_lit0 {b m : Nat} {c : List Value} {t : TypeId} {xs : List α} (h : St M w0 w R O) (hmem : Own.cells b c t ∈ O) (hcs : Reps ty R c xs) (hm : m = xs.length) : SlR ty (lentOf [] w) (.slice (some ⟨b, 0, none⟩) m m) xs := St.lend_lit (N := []) h hmem hcs hm
/-- A box is read only from here on. -/
theorem St.fz_box {b : Nat} {c : List Value} {t : TypeId} (h : St M w0 w R (.cells b c t :: O)) : ∃ R', St M w0 w R' O ∧ RLe M w0 R R' ∧ ∀ j u, c[j]? = some u → R'.cell b (0 + j) = some u := by
  obtain ⟨R', h1, h2, h3⟩ := h.frozen rfl (h.own (.cells b c t) (List.mem_cons_self ..))
  exact ⟨R', h1, h2, fun j u hu => by simp only [Hp.cell, h3, Nat.zero_add]; simpa using hu⟩
/-- Less is known. -/
theorem St.lower {R' : Hp} (h : St M w0 w R' O) (hle : R.le R') : St M w0 w R O :=
  ⟨h.bel, h.sub.le hle, h.own, fun x hx b hb => ⟨(h.base x hx b hb).1, by
    cases hr : R b with
    | none => rfl
    | some o => have := hle b o hr; rw [(h.base x hx b hb).2] at this; cases this⟩, h.sep⟩
theorem St.sp0 (h : St M w0 w R O) : St M w0 w R ([] ++ O) := h
theorem St.sp1 {x1 : Own} (h : St M w0 w R (x1 :: O)) : St M w0 w R ([x1] ++ O) := h
theorem St.sp2 {x1 x2 : Own} (h : St M w0 w R (x1 :: x2 :: O)) : St M w0 w R ([x1, x2] ++ O) := h
theorem St.sp3 {x1 x2 x3 : Own} (h : St M w0 w R (x1 :: x2 :: x3 :: O)) : St M w0 w R ([x1, x2, x3] ++ O) := h
theorem St.sp4 {x1 x2 x3 x4 : Own} (h : St M w0 w R (x1 :: x2 :: x3 :: x4 :: O)) : St M w0 w R ([x1, x2, x3, x4] ++ O) := h
theorem St.sp5 {x1 x2 x3 x4 x5 : Own} (h : St M w0 w R (x1 :: x2 :: x3 :: x4 :: x5 :: O)) : St M w0 w R ([x1, x2, x3, x4, x5] ++ O) := h
theorem St.sp6 {x1 x2 x3 x4 x5 x6 : Own} (h : St M w0 w R (x1 :: x2 :: x3 :: x4 :: x5 :: x6 :: O)) : St M w0 w R ([x1, x2, x3, x4, x5, x6] ++ O) := h
theorem St.sp7 {x1 x2 x3 x4 x5 x6 x7 : Own} (h : St M w0 w R (x1 :: x2 :: x3 :: x4 :: x5 :: x6 :: x7 :: O)) : St M w0 w R ([x1, x2, x3, x4, x5, x6, x7] ++ O) := h
theorem St.sp8 {x1 x2 x3 x4 x5 x6 x7 x8 : Own} (h : St M w0 w R (x1 :: x2 :: x3 :: x4 :: x5 :: x6 :: x7 :: x8 :: O)) : St M w0 w R ([x1, x2, x3, x4, x5, x6, x7, x8] ++ O) := h
theorem St.sp9 {x1 x2 x3 x4 x5 x6 x7 x8 x9 : Own} (h : St M w0 w R (x1 :: x2 :: x3 :: x4 :: x5 :: x6 :: x7 :: x8 :: x9 :: O)) : St M w0 w R ([x1, x2, x3, x4, x5, x6, x7, x8, x9] ++ O) := h
theorem St.sp10 {x1 x2 x3 x4 x5 x6 x7 x8 x9 x10 : Own} (h : St M w0 w R (x1 :: x2 :: x3 :: x4 :: x5 :: x6 :: x7 :: x8 :: x9 :: x10 :: O)) : St M w0 w R ([x1, x2, x3, x4, x5, x6, x7, x8, x9, x10] ++ O) := h
theorem St.sp11 {x1 x2 x3 x4 x5 x6 x7 x8 x9 x10 x11 : Own} (h : St M w0 w R (x1 :: x2 :: x3 :: x4 :: x5 :: x6 :: x7 :: x8 :: x9 :: x10 :: x11 :: O)) : St M w0 w R ([x1, x2, x3, x4, x5, x6, x7, x8, x9, x10, x11] ++ O) := h
theorem St.sp12 {x1 x2 x3 x4 x5 x6 x7 x8 x9 x10 x11 x12 : Own} (h : St M w0 w R (x1 :: x2 :: x3 :: x4 :: x5 :: x6 :: x7 :: x8 :: x9 :: x10 :: x11 :: x12 :: O)) : St M w0 w R ([x1, x2, x3, x4, x5, x6, x7, x8, x9, x10, x11, x12] ++ O) := h
theorem St.sp13 {x1 x2 x3 x4 x5 x6 x7 x8 x9 x10 x11 x12 x13 : Own} (h : St M w0 w R (x1 :: x2 :: x3 :: x4 :: x5 :: x6 :: x7 :: x8 :: x9 :: x10 :: x11 :: x12 :: x13 :: O)) : St M w0 w R ([x1, x2, x3, x4, x5, x6, x7, x8, x9, x10, x11, x12, x13] ++ O) := h
theorem St.sp14 {x1 x2 x3 x4 x5 x6 x7 x8 x9 x10 x11 x12 x13 x14 : Own} (h : St M w0 w R (x1 :: x2 :: x3 :: x4 :: x5 :: x6 :: x7 :: x8 :: x9 :: x10 :: x11 :: x12 :: x13 :: x14 :: O)) : St M w0 w R ([x1, x2, x3, x4, x5, x6, x7, x8, x9, x10, x11, x12, x13, x14] ++ O) := h
theorem St.sp15 {x1 x2 x3 x4 x5 x6 x7 x8 x9 x10 x11 x12 x13 x14 x15 : Own} (h : St M w0 w R (x1 :: x2 :: x3 :: x4 :: x5 :: x6 :: x7 :: x8 :: x9 :: x10 :: x11 :: x12 :: x13 :: x14 :: x15 :: O)) : St M w0 w R ([x1, x2, x3, x4, x5, x6, x7, x8, x9, x10, x11, x12, x13, x14, x15] ++ O) := h
theorem St.sp16 {x1 x2 x3 x4 x5 x6 x7 x8 x9 x10 x11 x12 x13 x14 x15 x16 : Own} (h : St M w0 w R (x1 :: x2 :: x3 :: x4 :: x5 :: x6 :: x7 :: x8 :: x9 :: x10 :: x11 :: x12 :: x13 :: x14 :: x15 :: x16 :: O)) : St M w0 w R ([x1, x2, x3, x4, x5, x6, x7, x8, x9, x10, x11, x12, x13, x14, x15, x16] ++ O) := h
theorem St.un0 (h : St M w0 w R ([] ++ O)) : St M w0 w R O := h
theorem St.un1 {x1 : Own} (h : St M w0 w R ([x1] ++ O)) : St M w0 w R (x1 :: O) := h
theorem St.un2 {x1 x2 : Own} (h : St M w0 w R ([x1, x2] ++ O)) : St M w0 w R (x1 :: x2 :: O) := h
theorem St.un3 {x1 x2 x3 : Own} (h : St M w0 w R ([x1, x2, x3] ++ O)) : St M w0 w R (x1 :: x2 :: x3 :: O) := h
theorem St.un4 {x1 x2 x3 x4 : Own} (h : St M w0 w R ([x1, x2, x3, x4] ++ O)) : St M w0 w R (x1 :: x2 :: x3 :: x4 :: O) := h
theorem St.un5 {x1 x2 x3 x4 x5 : Own} (h : St M w0 w R ([x1, x2, x3, x4, x5] ++ O)) : St M w0 w R (x1 :: x2 :: x3 :: x4 :: x5 :: O) := h
theorem St.un6 {x1 x2 x3 x4 x5 x6 : Own} (h : St M w0 w R ([x1, x2, x3, x4, x5, x6] ++ O)) : St M w0 w R (x1 :: x2 :: x3 :: x4 :: x5 :: x6 :: O) := h
theorem St.un7 {x1 x2 x3 x4 x5 x6 x7 : Own} (h : St M w0 w R ([x1, x2, x3, x4, x5, x6, x7] ++ O)) : St M w0 w R (x1 :: x2 :: x3 :: x4 :: x5 :: x6 :: x7 :: O) := h
theorem St.un8 {x1 x2 x3 x4 x5 x6 x7 x8 : Own} (h : St M w0 w R ([x1, x2, x3, x4, x5, x6, x7, x8] ++ O)) : St M w0 w R (x1 :: x2 :: x3 :: x4 :: x5 :: x6 :: x7 :: x8 :: O) := h
theorem St.un9 {x1 x2 x3 x4 x5 x6 x7 x8 x9 : Own} (h : St M w0 w R ([x1, x2, x3, x4, x5, x6, x7, x8, x9] ++ O)) : St M w0 w R (x1 :: x2 :: x3 :: x4 :: x5 :: x6 :: x7 :: x8 :: x9 :: O) := h
theorem St.un10 {x1 x2 x3 x4 x5 x6 x7 x8 x9 x10 : Own} (h : St M w0 w R ([x1, x2, x3, x4, x5, x6, x7, x8, x9, x10] ++ O)) : St M w0 w R (x1 :: x2 :: x3 :: x4 :: x5 :: x6 :: x7 :: x8 :: x9 :: x10 :: O) := h
theorem St.un11 {x1 x2 x3 x4 x5 x6 x7 x8 x9 x10 x11 : Own} (h : St M w0 w R ([x1, x2, x3, x4, x5, x6, x7, x8, x9, x10, x11] ++ O)) : St M w0 w R (x1 :: x2 :: x3 :: x4 :: x5 :: x6 :: x7 :: x8 :: x9 :: x10 :: x11 :: O) := h
theorem St.un12 {x1 x2 x3 x4 x5 x6 x7 x8 x9 x10 x11 x12 : Own} (h : St M w0 w R ([x1, x2, x3, x4, x5, x6, x7, x8, x9, x10, x11, x12] ++ O)) : St M w0 w R (x1 :: x2 :: x3 :: x4 :: x5 :: x6 :: x7 :: x8 :: x9 :: x10 :: x11 :: x12 :: O) := h
theorem St.un13 {x1 x2 x3 x4 x5 x6 x7 x8 x9 x10 x11 x12 x13 : Own} (h : St M w0 w R ([x1, x2, x3, x4, x5, x6, x7, x8, x9, x10, x11, x12, x13] ++ O)) : St M w0 w R (x1 :: x2 :: x3 :: x4 :: x5 :: x6 :: x7 :: x8 :: x9 :: x10 :: x11 :: x12 :: x13 :: O) := h
theorem St.un14 {x1 x2 x3 x4 x5 x6 x7 x8 x9 x10 x11 x12 x13 x14 : Own} (h : St M w0 w R ([x1, x2, x3, x4, x5, x6, x7, x8, x9, x10, x11, x12, x13, x14] ++ O)) : St M w0 w R (x1 :: x2 :: x3 :: x4 :: x5 :: x6 :: x7 :: x8 :: x9 :: x10 :: x11 :: x12 :: x13 :: x14 :: O) := h
theorem St.un15 {x1 x2 x3 x4 x5 x6 x7 x8 x9 x10 x11 x12 x13 x14 x15 : Own} (h : St M w0 w R ([x1, x2, x3, x4, x5, x6, x7, x8, x9, x10, x11, x12, x13, x14, x15] ++ O)) : St M w0 w R (x1 :: x2 :: x3 :: x4 :: x5 :: x6 :: x7 :: x8 :: x9 :: x10 :: x11 :: x12 :: x13 :: x14 :: x15 :: O) := h
theorem St.un16 {x1 x2 x3 x4 x5 x6 x7 x8 x9 x10 x11 x12 x13 x14 x15 x16 : Own} (h : St M w0 w R ([x1, x2, x3, x4, x5, x6, x7, x8, x9, x10, x11, x12, x13, x14, x15, x16] ++ O)) : St M w0 w R (x1 :: x2 :: x3 :: x4 :: x5 :: x6 :: x7 :: x8 :: x9 :: x10 :: x11 :: x12 :: x13 :: x14 :: x15 :: x16 :: O) := h
theorem St.raLeN {RA : Hp} {N : List Own} (h : St M w0 w R (N ++ O)) (hA : RA.sub w0) (hM : ∀ b, blks M b → RA b = none) : RA.le (lentOf N w) := h.raLe hA hM
theorem par_region {id : Nat} {ops : Array Oper} {C : World → Prop} (ord : List (Nat × Bool)) (hm : P.follows .mixedOrders = true) (hB : (Region.noSelect ops && (ord.length == ops.size) && parB .any ops ord (Array.replicate ops.size false)) = true)
    (hS : St M w0 w R O) (hC : ∀ w, St M w0 w R O → C w) (h : ∀ w, St M w0 w R O → wpPar P ops C (NoP Q) ord a w) : (Code.region id ops true).wp P Q a w :=
  wp_region_parN ord hm hB (hC _ (hS.drew _ (Nat.le_succ _))) (h _ (hS.drew _ (Nat.le_succ _)))
theorem parT_region {id : Nat} {l : List Oper} {C : World → Prop} (nn : Nat) (ord : List (Nat × Bool)) (hm : P.follows .mixedOrders = true)
    (hB : (Region.noSelect l.toArray && decide (nn < l.toArray.size) && (ord.length == nn) && Region.sinkB .any l.toArray nn && Region.chainB .any l.toArray nn && parTB .any l.toArray nn (l.toArray.size - nn) ord (Array.replicate l.toArray.size false)) = true)
    (hS : St M w0 w R O) (hC : ∀ w, St M w0 w R O → C w) (h : ∀ w, St M w0 w R O → wpPar P l.toArray C (thenL P l nn (NoP Q)) ord a w) : (Code.region id l.toArray true).wp P Q a w :=
  wp_region_parTN nn ord hm hB (hC _ (hS.drew _ (Nat.le_succ _))) (h _ (hS.drew _ (Nat.le_succ _)))
theorem tree_region {id : Nat} {ops : Array Oper} {C : World → Prop} (t : PT) (hm : P.follows .mixedOrders = true) (hB : (Region.noSelect ops && Nat.beq t.len ops.size && treeB .any ops t (Array.replicate ops.size false)) = true)
    (hS : St M w0 w R O) (hC : ∀ w, St M w0 w R O → C w) (h : ∀ w, St M w0 w R O → wpTree P ops C (NoP Q) t a w) : (Code.region id ops true).wp P Q a w :=
  wp_region_treeN t hm hB (hC _ (hS.drew _ (Nat.le_succ _))) (h _ (hS.drew _ (Nat.le_succ _)))
theorem treeT_region {id : Nat} {l : List Oper} {C : World → Prop} (nn : Nat) (t : PT) (hm : P.follows .mixedOrders = true)
    (hB : (Region.noSelect l.toArray && decide (nn < l.toArray.size) && Nat.beq t.len nn && Region.sinkB .any l.toArray nn && Region.chainB .any l.toArray nn && treeTB .any l.toArray nn (l.toArray.size - nn) t (Array.replicate l.toArray.size false)) = true)
    (hS : St M w0 w R O) (hC : ∀ w, St M w0 w R O → C w) (h : ∀ w, St M w0 w R O → wpTree P l.toArray C (thenL P l nn (NoP Q)) t a w) : (Code.region id l.toArray true).wp P Q a w :=
  wp_region_treeTN nn t hm hB (hC _ (hS.drew _ (Nat.le_succ _))) (h _ (hS.drew _ (Nat.le_succ _)))
theorem treeS_region {id : Nat} {ops : Array Oper} {C0 C1 : World → Prop} (s : Nat) (pre : List (Nat × Nat)) (t : PT) (hm : P.follows .mixedOrders = true) (hB : (Region.noSelect ops && Nat.beq (preLen t pre) ops.size && parSP .any ops s t pre (Array.replicate ops.size false)) = true)
    (h01 : ∀ w, C0 w → C1 w) (hS : St M w0 w R O) (hC : ∀ w, St M w0 w R O → C0 w) (h : ∀ w, St M w0 w R O → wpParS P ops C0 C1 (NoP Q) s t pre a w) : (Code.region id ops true).wp P Q a w :=
  wp_region_treeSN s pre t hm hB h01 (hC _ (hS.drew _ (Nat.le_succ _))) (h _ (hS.drew _ (Nat.le_succ _)))
theorem treeTS_region {id : Nat} {l : List Oper} {C0 C1 : World → Prop} (nn s : Nat) (pre : List (Nat × Nat)) (t : PT) (hm : P.follows .mixedOrders = true)
    (hB : (Region.noSelect l.toArray && decide (nn < l.toArray.size) && Nat.beq (preLen t pre) nn && Region.sinkB .any l.toArray nn && Region.chainB .any l.toArray nn && parSB .any l.toArray nn (l.toArray.size - nn) s t pre (Array.replicate l.toArray.size false)) = true)
    (h01 : ∀ w, C0 w → C1 w) (hS : St M w0 w R O) (hC : ∀ w, St M w0 w R O → C0 w) (h : ∀ w, St M w0 w R O → wpParS P l.toArray C0 C1 (thenL P l nn (NoP Q)) s t pre a w) : (Code.region id l.toArray true).wp P Q a w :=
  wp_region_treeTSN nn s pre t hm hB h01 (hC _ (hS.drew _ (Nat.le_succ _))) (h _ (hS.drew _ (Nat.le_succ _)))
theorem thenL_nil {l : List Oper} {nn : Nat} {QQ : Exit → Act → World → Prop} {C : World → Prop} (h : wpList P l.toArray QQ (l.drop nn) a w) : wpPar P l.toArray C (thenL P l nn QQ) [] a w := h
theorem NoP_nil (h : Q .normal a w) : NoP Q .normal a w := h
theorem St.row_one {e z m : Nat} {v : Value} {cs : List Value} (h : St M w0 w R O) (hm : Own.row e z v m cs ∈ O) : v.oneCell' = true := by
  obtain ⟨ad, c, rfl, _⟩ := ownsRow_cap (h.own _ hm)
  rfl
theorem nil_not {RA : Hp} : ∀ b, blks [] b → RA b = none := fun b h => absurd h blks_nil

/-! the end of a call -/
theorem ret1 {fn : Func} {t : Nat} {v : Value} {RR : Ending → World → Prop} (hr : fn.results = #[.tmp t]) (hK : Kn n a L) (hv : look L t = some v) (h : RR (.returned v) w) (hn0 : n.ds = [] := by rfl) : bodyPost P fn RR .ret a w :=
  ⟨hK.dfs.trans hn0, v, by simp [results, hr, hK.at_ t v hv], h⟩
theorem ret2 {fn : Func} {t t' : Nat} {v v' : Value} {RR : Ending → World → Prop} (hr : fn.results = #[.tmp t, .tmp t']) (hK : Kn n a L) (hv : look L t = some v) (hv' : look L t' = some v') (h : RR (.returned (.tuple #[v, v'])) w) (hn0 : n.ds = [] := by rfl) : bodyPost P fn RR .ret a w :=
  ⟨hK.dfs.trans hn0, _, by simp [results, hr, hK.at_ t v hv, hK.at_ t' v' hv'], h⟩
theorem ret3 {fn : Func} {t t' t'' : Nat} {v v' v'' : Value} {RR : Ending → World → Prop} (hr : fn.results = #[.tmp t, .tmp t', .tmp t'']) (hK : Kn n a L) (hv : look L t = some v) (hv' : look L t' = some v') (hv'' : look L t'' = some v'') (h : RR (.returned (.tuple #[v, v', v''])) w) (hn0 : n.ds = [] := by rfl) : bodyPost P fn RR .ret a w :=
  ⟨hK.dfs.trans hn0, _, by simp [results, hr, hK.at_ t v hv, hK.at_ t' v' hv', hK.at_ t'' v'' hv''], h⟩
theorem ret0 {fn : Func} {RR : Ending → World → Prop} (hr : fn.results = #[]) (hK : Kn n a L) (h : RR (.returned (.tuple #[])) w) (hn0 : n.ds = [] := by rfl) : bodyPost P fn RR .normal a w :=
  ⟨hK.dfs.trans hn0, _, by simp [results, hr], h⟩
/-- A result that lies in a block of its own. -/
theorem St.loadWhole {t : TypeId} {m b : Nat} {c : List Value} {t' : TypeId} (hA : ∀ w, (isAgg t).run P w = .ok true w) (hz : ∀ w, (sizeOf t).run P w = .ok m w) (hS : St M w0 w R O) (hm : Own.cells b c t' ∈ O) (hc : c.length = m) : (loadVar t ⟨b, 0, none⟩).run P w = .ok (.agg c.toArray) w := by
  subst hc
  have := cells_load P (w := w) (b := b) (o := 0) (cs := c) (fun j v hv => by rw [Nat.zero_add]; exact hS.cell hm hv)
  simp [loadVar, hA, hz, this]
theorem ret1c {fn : Func} {t tt m b : Nat} {c : List Value} {t' : TypeId} {RR : Ending → World → Prop} (hr : fn.results = #[.cell t tt]) (hA : ∀ w, (isAgg tt).run P w = .ok true w) (hz : ∀ w, (sizeOf tt).run P w = .ok m w) (hS : St M w0 w R O) (hm : Own.cells b c t' ∈ O) (hc : c.length = m)
    (hK : Kn n a L) (hv : look L t = some (.pointer (some ⟨b, 0, none⟩))) (h : RR (.returned (.agg c.toArray)) w) (hn0 : n.ds = [] := by rfl) : bodyPost P fn RR .ret a w :=
  ⟨hK.dfs.trans hn0, _, by simp [results, hr, hK.at_ t _ hv, asAddr, hS.loadWhole hA hz hm hc], h⟩
theorem ret2c {fn : Func} {t tt t2 m b : Nat} {c : List Value} {t' : TypeId} {v2 : Value} {RR : Ending → World → Prop} (hr : fn.results = #[.cell t tt, .tmp t2]) (hA : ∀ w, (isAgg tt).run P w = .ok true w) (hz : ∀ w, (sizeOf tt).run P w = .ok m w) (hS : St M w0 w R O) (hm : Own.cells b c t' ∈ O) (hc : c.length = m)
    (hK : Kn n a L) (hv : look L t = some (.pointer (some ⟨b, 0, none⟩))) (hv2 : look L t2 = some v2) (h : RR (.returned (.tuple #[.agg c.toArray, v2])) w) (hn0 : n.ds = [] := by rfl) : bodyPost P fn RR .ret a w :=
  ⟨hK.dfs.trans hn0, _, by simp [results, hr, hK.at_ t _ hv, hK.at_ t2 _ hv2, asAddr, hS.loadWhole hA hz hm hc], h⟩
end

/-! code -/
section
variable {P : Program} {Q : Exit → Act → World → Prop} {a : Act} {w : World} {M : List Own}
/-- A call is entered. -/
theorem enter {f : FuncId} {fn : Func} {c : Code} {args : List Value} {n : Nat} {RR : Ending → World → Prop} (hf : P.funcs[f]? = some fn) (hb : fn.body = some c) (hn : fn.ntmps = n) (hl : Nat.ble args.length n = true)
    (h : ∀ a, Kn ⟨n, []⟩ a (initL 0 args) → c.wp P (bodyPost P fn RR) a w) : Calls P f args.toArray w RR := by
  subst hn
  exact calls_of_wp hf hb (h _ (Kn.init args fn.ntmps (Nat.le_of_ble_eq_true hl)))
theorem ifb_t {α : Type} {b : Bool} {x y : α} (h : b = true) : (if b = true then x else y) = x := if_pos h
theorem ifb_f {α : Type} {b : Bool} {x y : α} (h : b = false) : (if b = true then x else y) = y := if_neg (by simp [h])
theorem bind_some {α β : Type} {o : Option α} {f : α → Option β} {r : β} (h : o.bind f = some r) : ∃ y, o = some y ∧ f y = some r := by
  cases o with
  | none => cases h
  | some y => exact ⟨y, rfl, h⟩
theorem Kn.trunc {n : Fr} {L L' : Sl} (h : Kn n a L) (hs : ∀ p ∈ L', look L p.1 = some p.2) : Kn n a L' := h.sub hs
theorem St.trunc {w0 : World} {R : Hp} {O : List Own} (k : Nat) (h : St M w0 w R O) : St M w0 w R (O.take k) :=
  ⟨h.bel, h.sub, fun x hx => h.own x (List.mem_of_mem_take hx), fun x hx => h.base x (List.mem_of_mem_take hx), h.sep.sublist (List.take_sublist k O)⟩
/-- A cut: what holds behind a piece of code that ends as it should. -/
theorem wp_mid {x : Code} (M : Act → World → Prop) (h : x.wp P (Exit.then M Q) a w) (h' : ∀ a w, M a w → Q .normal a w) : x.wp P Q a w :=
  wp_mono h fun e a w q => by cases e <;> first | exact h' _ _ q | exact q
theorem wtt {b : Bool} (h : b = true) : some (b == true) = some true := by subst h; rfl
theorem wtf {b : Bool} (h : b = false) : some (b == true) = some false := by subst h; rfl
theorem wft {b : Bool} (h : b = true) : some (b == false) = some false := by subst h; rfl
theorem wff {b : Bool} (h : b = false) : some (b == false) = some true := by subst h; rfl
theorem or_b (b : Bool) : b = true ∨ b = false := by cases b <;> simp
theorem r_pick_t {n : Fr} {L : Sl} {d : Option Tmp} {ty : TypeId} {pos : String} {af : Array Edge} {g : Option (Nat × Bool)} {c x y : Operand} {b : Bool} {v : Value} (hb : b = true) (hK : Kn n a L) (hc : ev L c = some (.bool b)) (hx : ev L x = some v) : Runs P w a ⟨d, .pick c x y, ty, pos, af, g⟩ v := by
  subst hb
  exact r_pick hK hc (u := v) hx rfl
theorem r_pick_f {n : Fr} {L : Sl} {d : Option Tmp} {ty : TypeId} {pos : String} {af : Array Edge} {g : Option (Nat × Bool)} {c x y : Operand} {b : Bool} {v : Value} (hb : b = false) (hK : Kn n a L) (hc : ev L c = some (.bool b)) (hx : ev L y = some v) : Runs P w a ⟨d, .pick c x y, ty, pos, af, g⟩ v := by
  subst hb
  exact r_pick hK hc (u := v) hx rfl
/-- A region that draws its order: operations that only read, then what writes. -/
theorem tail_region {id : Nat} {l : List Oper} {w0 : World} {R : Hp} {O : List Own} (nn : Nat) (hm : P.follows .mixedOrders = true) (hB : Region.lexTailB .any l.toArray nn = true) (hS : St M w0 w R O)
    (h : ∀ w, St M w0 w R O → wpStill P l.toArray w (fun a' => wpList P l.toArray Q (l.drop nn) a' w) (l.take nn) a) : (Code.region id l.toArray true).wp P Q a w :=
  wp_region_still_tail nn hm hB (h _ (hS.drew _ (Nat.le_succ _)))
theorem sst {n : Fr} {d : Nat} {L : Sl} {v : Value} {ops : Array Oper} {QQ : Act → Prop} {o : Oper} {rest : List Oper} (hK : Kn n a L) (hd : d < n.n) (hw : wantedL ops L o = some true) (ho : o.dst = some d) (hr : Runs P w a o v)
    (h : ∀ a, Kn n a ((d, v) :: L) → wpStill P ops w QQ rest a) : wpStill P ops w QQ (o :: rest) a := by
  unfold wpStill
  rw [if_pos (wantedL_ok hK hw)]
  unfold Oper.still
  rw [hr, Oper.stillUpon_value, ho]
  exact h _ (hK.put hd v)
theorem sst_skip {n : Fr} {d : Nat} {L : Sl} {ops : Array Oper} {QQ : Act → Prop} {o : Oper} {rest : List Oper} (hK : Kn n a L) (hd : d < n.n) (hw : wantedL ops L o = some false) (ho : o.dst = some d)
    (h : ∀ a, Kn n a ((d, undef) :: L) → wpStill P ops w QQ rest a) : wpStill P ops w QQ (o :: rest) a := by
  unfold wpStill
  rw [if_neg (by rw [wantedL_ok hK hw]; simp), ho]
  exact h _ (hK.put hd _)
def ResV (P : Program) (w : World) (a : Act) : ResultVar → Value → Prop
  | .tmp t, v => a.tmps.getD t undef = v
  | .cell t tt, v => ∃ ad, a.tmps.getD t undef = .pointer (some ad) ∧ (loadVar tt ad).run P w = .ok v w
theorem rv_tmp {n : Fr} {t : Nat} {L : Sl} {v : Value} (hK : Kn n a L) (h : look L t = some v) : ResV P w a (.tmp t) v := by simp [ResV, hK.at_ t v h]
theorem rv_cell {n : Fr} {t tt m b : Nat} {L : Sl} {c : List Value} {t' : TypeId} {w0 : World} {R : Hp} {O : List Own} (hA : ∀ w, (isAgg tt).run P w = .ok true w) (hz : ∀ w, (sizeOf tt).run P w = .ok m w) (hS : St M w0 w R O) (hm : Own.cells b c t' ∈ O) (hc : c.length = m)
    (hK : Kn n a L) (hv : look L t = some (.pointer (some ⟨b, 0, none⟩))) : ResV P w a (.cell t tt) (.agg c.toArray) :=
  ⟨_, by simp [hK.at_ t _ hv], hS.loadWhole hA hz hm hc⟩
theorem rv_run {r : ResultVar} {v : Value} (h : ResV P w a r v) : (match r with | .tmp t => pure (a.tmps.getD t undef) | .cell ad t => do loadVar t (← asAddr (a.tmps.getD ad undef)) : Sem Value).run P w = .ok v w := by
  cases r with
  | tmp t => simp only [ResV] at h; subst h; rfl
  | cell t tt =>
    obtain ⟨ad, h1, h2⟩ := h
    simp only [h1, asAddr, Sem.run_bind, Sem.run_pure, Result.andThen_ok, h2]
theorem ret_0 {fn : Func} {n : Fr} {L : Sl} {RR : Ending → World → Prop} (hr : fn.results = #[]) (hK : Kn n a L) (h : RR (.returned (.tuple #[])) w) (hn0 : n.ds = [] := by rfl) : bodyPost P fn RR .ret a w := by
  refine ⟨hK.dfs.trans hn0, _, ?_, h⟩
  simp [results, hr]
theorem ret_0n {fn : Func} {n : Fr} {L : Sl} {RR : Ending → World → Prop} (hr : fn.results = #[]) (hK : Kn n a L) (h : RR (.returned (.tuple #[])) w) (hn0 : n.ds = [] := by rfl) : bodyPost P fn RR .normal a w := ret_0 hr hK h hn0
theorem ret_1 {fn : Func} {r : ResultVar} {v : Value} {n : Fr} {L : Sl} {RR : Ending → World → Prop} (hr : fn.results = #[r]) (hK : Kn n a L) (h1 : ResV P w a r v) (h : RR (.returned v) w) (hn0 : n.ds = [] := by rfl) : bodyPost P fn RR .ret a w := by
  refine ⟨hK.dfs.trans hn0, v, ?_, h⟩
  clear h hK
  cases r <;> simp [ResV] at h1 <;> (try obtain ⟨ad, h1, h1'⟩ := h1) <;> simp [results, hr, asAddr, *]
theorem ret_2 {fn : Func} {r r' : ResultVar} {v v' : Value} {n : Fr} {L : Sl} {RR : Ending → World → Prop} (hr : fn.results = #[r, r']) (hK : Kn n a L) (h1 : ResV P w a r v) (h2 : ResV P w a r' v') (h : RR (.returned (.tuple #[v, v'])) w) (hn0 : n.ds = [] := by rfl) : bodyPost P fn RR .ret a w := by
  refine ⟨hK.dfs.trans hn0, _, ?_, h⟩
  clear h hK
  cases r <;> cases r' <;> simp [ResV] at h1 h2 <;> (try obtain ⟨ad, h1, h1'⟩ := h1) <;> (try obtain ⟨ad', h2, h2'⟩ := h2) <;> simp [results, hr, asAddr, *]
theorem ret_3 {fn : Func} {r r' r'' : ResultVar} {v v' v'' : Value} {n : Fr} {L : Sl} {RR : Ending → World → Prop} (hr : fn.results = #[r, r', r'']) (hK : Kn n a L) (h1 : ResV P w a r v) (h2 : ResV P w a r' v') (h3 : ResV P w a r'' v'') (h : RR (.returned (.tuple #[v, v', v''])) w) (hn0 : n.ds = [] := by rfl) : bodyPost P fn RR .ret a w := by
  refine ⟨hK.dfs.trans hn0, _, ?_, h⟩
  clear h hK
  cases r <;> cases r' <;> cases r'' <;> simp [ResV] at h1 h2 h3 <;> (try obtain ⟨ad, h1, h1'⟩ := h1) <;> (try obtain ⟨ad', h2, h2'⟩ := h2) <;> (try obtain ⟨ad'', h3, h3'⟩ := h3) <;> simp [results, hr, asAddr, *]
theorem ret_then {K : Act → World → Prop} (h : Q .ret a w) : Exit.then K Q .ret a w := h
theorem ret_block {id : Nat} (h : Q .ret a w) : Exit.inBlock id Q .ret a w := h
theorem wp_seq_mid {x y : Code} (M : Act → World → Prop) (h : x.wp P (Exit.then M Q) a w) (h' : ∀ a w, M a w → y.wp P Q a w) : (Code.seq x y).wp P Q a w :=
  wp_seq (wp_mono h fun e a w q => by cases e <;> first | exact h' _ _ q | exact q)
theorem wp_loop_k {c : Code} (I : Nat → Act → World → Prop) (k : Nat) (h0 : I k a w) (round : ∀ k a w, I k a w → c.wp P (Exit.then (fun a' w' => ∃ k', k' < k ∧ I k' a' w') Q) a w) : (Code.loop c).wp P Q a w :=
  wp_loop_ghost I k h0 round
end
end Go.Eng
