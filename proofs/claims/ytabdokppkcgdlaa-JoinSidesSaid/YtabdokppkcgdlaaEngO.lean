/-
  The engine: rows whose elements are slices of blocks of their own, each of another one, none of them there before (Apart): such a block may be written, though it is read only otherwise.
-/
import Derived.Test.YtabdokppkcgdlaaEngD
import Derived.Laws.MakeOwn
namespace Go.Eng
open Go.RowKit
set_option linter.unusedVariables false
set_option linter.unusedSimpArgs false

/-- The blocks of slices among cells: none of them is in B, each is whole in R, no two are the same. -/
structure Apart (B R : Hp) (cs : List Value) : Prop where
  new : ∀ b ∈ cs.filterMap Value.ownBlock, B b = none ∧ ∃ c t, R b = some (.cells c t (0, 0))
  nodup : (cs.filterMap Value.ownBlock).Nodup
/-- What has come to R. -/
def NewB (R R' : Hp) (v : Value) : Prop := ∀ b, v.ownBlock = some b → R b = none ∧ ∃ c t, R' b = some (.cells c t (0, 0))
theorem Apart.nil (B R : Hp) : Apart B R [] := ⟨fun b h => by simp at h, by simp⟩
theorem Apart.mono {B R R' : Hp} {cs : List Value} (h : Apart B R cs) (hR : R.le R') : Apart B R' cs :=
  ⟨fun b hb => ⟨(h.new b hb).1, let ⟨c, t, e⟩ := (h.new b hb).2; ⟨c, t, hR _ _ e⟩⟩, h.nodup⟩
theorem Apart.perm {B R : Hp} {cs cs' : List Value} (h : Apart B R cs) (hp : cs'.Perm cs) : Apart B R cs' :=
  have hq := hp.filterMap Value.ownBlock
  ⟨fun b hb => h.new b (hq.mem_iff.1 hb), hq.nodup_iff.2 h.nodup⟩
theorem Apart.skip {B R : Hp} {cs : List Value} {v : Value} (h : Apart B R cs) (hv : v.ownBlock = none) : Apart B R (cs ++ [v]) := by
  have e : (cs ++ [v]).filterMap Value.ownBlock = cs.filterMap Value.ownBlock := by rw [List.filterMap_append]; simp [hv]
  exact ⟨by rw [e]; exact h.new, by rw [e]; exact h.nodup⟩
theorem Apart.app {B R R' : Hp} {cs : List Value} {v : Value} (h : Apart B R cs) (hB : B.le R) (hR : R.le R') (hv : NewB R R' v) : Apart B R' (cs ++ [v]) := by
  cases hb : v.ownBlock with
  | none => exact (h.mono hR).skip hb
  | some b =>
    obtain ⟨h1, h2⟩ := hv b hb
    have e : (cs ++ [v]).filterMap Value.ownBlock = cs.filterMap Value.ownBlock ++ [b] := by rw [List.filterMap_append]; simp [hb]
    refine ⟨fun b' hb' => ?_, ?_⟩
    · rw [e, List.mem_append, List.mem_singleton] at hb'
      rcases hb' with hb' | rfl
      · exact (h.mono hR).new b' hb'
      · refine ⟨?_, h2⟩
        cases hBb : B b' with
        | none => rfl
        | some o => have := hB _ _ hBb; rw [h1] at this; cases this
    · rw [e, List.nodup_append]
      refine ⟨h.nodup, by simp, fun y hx z hz => ?_⟩
      rw [List.mem_singleton] at hz
      subst hz
      rintro rfl
      obtain ⟨c, t, e3⟩ := (h.new y hx).2
      rw [h1] at e3; cases e3
theorem apart_ne {cs : List Value} (h : (cs.filterMap Value.ownBlock).Nodup) : ∀ {i k : Nat} {u v : Value} {b : Nat}, cs[i]? = some u → cs[k]? = some v → u.ownBlock = some b → v.ownBlock = some b → i = k := by
  induction cs with
  | nil => intro i k u v b hi; simp at hi
  | cons c r ih =>
    intro i k u v b hi hk hu hv
    have hr : (r.filterMap Value.ownBlock).Nodup := by
      rw [List.filterMap_cons] at h
      split at h
      · exact h
      · exact (List.nodup_cons.1 h).2
    have no : ∀ {j : Nat} {z : Value}, c.ownBlock = some b → r[j]? = some z → z.ownBlock = some b → False := fun hc hj hz => by
      rw [List.filterMap_cons, hc] at h
      exact (List.nodup_cons.1 h).1 (List.mem_filterMap.2 ⟨_, List.mem_of_getElem? hj, hz⟩)
    cases i with
    | zero =>
      simp at hi; subst hi
      cases k with
      | zero => rfl
      | succ k => exact (no hu (by simpa using hk) hv).elim
    | succ i =>
      cases k with
      | zero => simp at hk; subst hk; exact (no hv (by simpa using hi) hu).elim
      | succ k =>
        have hi' : r[i]? = some u := by simpa using hi
        have hk' : r[k]? = some v := by simpa using hk
        rw [ih hr hi' hk' hu hv]
section
variable {P : Program} {Q : Exit → Act → World → Prop} {M : List Own} {w0 w : World} {R : Hp} {O : List Own} {α : Type} {ty : Ty α} {a : Act} {L : Sl} {n : Fr} {ops : Array Oper} {rest : List Oper} {ty' : TypeId} {pos : String} {af : Array Edge} {g : Option (Nat × Bool)}
/-- A row is read only from here on; its block was not. -/
theorem St.fz_rowN {e size m : Nat} {v : Value} {cs : List Value} {xs : List α} (h : St M w0 w R (.row e size v m cs :: O)) (hcs : Reps ty R cs xs) (hm : m = xs.length) (hty : ty.n = size) : ∃ R', St M w0 w R' O ∧ RLe M w0 R R' ∧ SlR ty R' v xs ∧ NewB R R' v := by
  subst hm; subst hty
  have hown : w.ownsRow 0 e ty.n v xs.length cs := h.own (.row e ty.n v xs.length cs) (List.mem_cons_self ..)
  have hbase := (h.base (.row e ty.n v xs.length cs) (List.mem_cons_self ..))
  rcases hown.2 with ⟨rfl, h0⟩ | ⟨g, cap, cur, rfl, hbg, hg, hnc, hcm, hcz, htake⟩
  · have : xs = [] := List.eq_nil_of_length_eq_zero h0
    subst this
    exact ⟨R, h.tail, RLe.refl _ _, SlR.nil ty R, fun b hb => by simp [Value.ownBlock] at hb⟩
  · obtain ⟨R', h1, h2, h3⟩ := h.frozen rfl hg
    refine ⟨R', h1, h2, SlR.of_cells rfl hnc (hcs.mono h2.le) fun j u hu => ?_, fun b hb => ?_⟩
    · rw [← htake, List.getElem?_take] at hu
      split at hu
      · simp only [Hp.cell, h3, Nat.zero_add]; simpa using hu
      · cases hu
    · simp only [Value.ownBlock, Option.some.injEq] at hb
      subst hb
      exact ⟨(hbase g rfl).2, _, _, h3⟩
/-- append(s, x, y, ..), the cells told. -/
theorem sl_append_LA {dd : Nat} {s x : Operand} {t e size bytes : Nat} {v : Value} {m k b : Nat} {t' : TypeId} {cs ds : List Value} {xs ys zs : List α} (hE : ElT P t e size bytes) (hB : 1 ≤ bytes) (hty : ty.n = size) (hcs : Reps ty R cs xs) (hm : m = xs.length) (hds : Reps ty R ds ys) (hk : k = ys.length) (hz : apd bytes xs ys = some zs)
    (hS : St M w0 w R (.row e size v m cs :: .cells b ds t' :: O)) (hK : Kn n a L) (hd : dd < n.n) (hw : wantedL ops L ⟨some dd, .call { callee := .builtin .append, args := #[s, x], argTypes := #[t, t] }, ty', pos, af, g⟩ = some true) (hs : ev L s = some v) (hx : ev L x = some (.slice (some ⟨b, 0, none⟩) k k))
    (h : ∀ a w v' cs', cs' = cs ++ ds → Reps ty R cs' zs → St M w0 w R (.row e size v' zs.length cs' :: O) → Kn n a ((dd, v') :: L) → wpList P ops Q rest a w) :
    wpList P ops Q (⟨some dd, .call { callee := .builtin .append, args := #[s, x], argTypes := #[t, t] }, ty', pos, af, g⟩ :: rest) a w := by
  subst hm; subst hty; subst hk
  obtain ⟨hb, hzs⟩ := apd_some hz
  obtain ⟨v', w', hr, hS'⟩ := run_append (tt := ty') (c := ys.length) (news := ds) (ad := some ⟨b, 0, none⟩) hE hB hS hds.length hds.one hb (fun hk => ⟨b, 0, rfl, fun j u hu => by
    rw [Nat.zero_add]; exact hS.cell (.tail _ (.head _)) hu⟩)
  refine slw hK hd hw rfl (append_op hK hs hx hr) fun a' hK' => h a' w' v' (cs ++ ds) rfl (by rw [hzs]; exact hcs.append hds) ?_ hK'
  rw [hzs, List.length_append]
  exact hS'.drop1
theorem St.relen {e z m m' : Nat} {v : Value} {cs : List Value} (h : St M w0 w R (.row e z v m cs :: O)) (hm : m' = m) : St M w0 w R (.row e z v m' cs :: O) := by subst hm; exact h
/-- R without a block. -/
def dropB (R : Hp) (b : Nat) : Hp := fun k => if k = b then none else R k
/-- A block that came to be read only since B is the call's own again. -/
theorem St.thaw {B R1 : Hp} {cs : List Value} {v : Value} {k b o m c : Nat} (hS : St M w0 w R1 O) (hBR : RLe M w0 B R1) (hap : Apart B R1 cs) (hk : cs[k]? = some v) (hv : v = .slice (some ⟨b, o, none⟩) m c) :
    ∃ l t, R1 b = some (.cells (l : List Value).toArray t (0, 0)) ∧ St M w0 w (dropB R1 b) (.cells b l t :: O) := by
  obtain ⟨h1, c, t, h2⟩ := hap.new b (List.mem_filterMap.2 ⟨v, List.mem_of_getElem? hk, by rw [hv]; rfl⟩)
  refine ⟨c.toList, t, by simpa using h2, hS.bel, fun k u hk => ?_, all_cons (by have := hS.sub b _ h2; simpa [Own.ok] using this) hS.own, all_cons (fun b' hb' => ?_) fun x hx b' hb' => ?_, List.Pairwise.cons (fun y hy b' hb' hyb => ?_) hS.sep⟩
  · unfold dropB at hk
    by_cases e : k = b
    · simp [e] at hk
    · rw [if_neg e] at hk; exact hS.sub k u hk
  · obtain rfl : b = b' := Option.some.inj hb'
    refine ⟨?_, by simp [dropB]⟩
    rcases hBR.new b _ h2 with h3 | h3
    · rw [h1] at h3; cases h3
    · exact h3
  · refine ⟨(hS.base x hx b' hb').1, ?_⟩
    unfold dropB
    split
    · rfl
    · exact (hS.base x hx b' hb').2
  · obtain rfl : b = b' := Option.some.inj hb'
    have := (hS.base y hy b hyb).2
    rw [h2] at this; cases this
theorem cell_len {R : Hp} {b k : Nat} {l : List Value} {t : TypeId} {u : Value} {fr : Nat × Nat} (h : R.cell b k = some u) (hR : R b = some (.cells l.toArray t fr)) : k < l.length ∧ l[k]? = some u := by
  unfold Hp.cell at h
  rw [hR] at h
  simp at h
  exact ⟨(List.getElem?_eq_some_iff.1 h).1, h⟩
def spl (l : List Value) (p : Nat) (vs : List Value) : List Value := l.take p ++ vs ++ l.drop (p + vs.length)
theorem spl_set {l : List Value} {p : Nat} {v : Value} (h : p < l.length) : l.set p v = spl l p [v] := by
  unfold spl
  rw [List.set_eq_take_append_cons_drop, if_pos h]; simp
theorem spl_get {l : List Value} {p : Nat} {vs : List Value} (h : p + vs.length ≤ l.length) (k : Nat) : (spl l p vs)[k]? = if p ≤ k ∧ k < p + vs.length then vs[k - p]? else l[k]? := by
  unfold spl
  have hl : (l.take p).length = p := by simp; omega
  by_cases h1 : k < p
  · rw [if_neg (by omega), List.append_assoc, List.getElem?_append_left (by omega), List.getElem?_take, if_pos h1]
  · by_cases h2 : k < p + vs.length
    · rw [if_pos ⟨by omega, h2⟩, List.append_assoc, List.getElem?_append_right (by omega), hl, List.getElem?_append_left (by omega)]
    · rw [if_neg (by omega), List.getElem?_append_right (by simp [hl]; omega), List.length_append, hl, List.getElem?_drop]
      congr 1; omega
/-- .. and read only again. -/
theorem St.refreeze0 {B R1 : Hp} {cs : List Value} {b : Nat} {l l' : List Value} {t : TypeId} (hS : St M w0 w (dropB R1 b) (.cells b l' t :: O)) (hBR : RLe M w0 B R1) (hap : Apart B R1 cs) (hR : R1 b = some (.cells l.toArray t (0, 0))) (hB : B b = none) :
    ∃ R2 : Hp, St M w0 w R2 O ∧ RLe M w0 B R2 ∧ Apart B R2 cs ∧ R2 b = some (.cells l'.toArray t (0, 0)) ∧ ∀ k, k ≠ b → R2 k = R1 k := by
  have hb : w.heap[b]? = some (.cells l'.toArray t (0, 0)) := hS.own (.cells b l' t) (List.mem_cons_self ..)
  obtain ⟨h1, h2⟩ := hS.freeze rfl hb
  obtain ⟨R2, hR2⟩ : ∃ R2 : Hp, R2 = fun k => if k = b then some (Obj.cells l'.toArray t (0, 0)) else dropB R1 b k := ⟨_, rfl⟩
  rw [← hR2] at h1 h2
  have e0 : R2 b = some (Obj.cells l'.toArray t (0, 0)) := by rw [hR2]; simp
  have e1 : ∀ k, k ≠ b → R2 k = R1 k := fun k hk => by rw [hR2]; simp [hk, dropB]
  refine ⟨R2, h1, ⟨fun k u hk => ?_, fun k u hk => ?_⟩, ⟨fun k hk => ⟨(hap.new k hk).1, ?_⟩, hap.nodup⟩, e0, e1⟩
  · by_cases e : k = b
    · subst e; rw [hB] at hk; cases hk
    · rw [e1 k e]; exact hBR.le k u hk
  · by_cases e : k = b
    · subst e
      rcases hBR.new k _ hR with h3 | h3
      · rw [hB] at h3; cases h3
      · exact Or.inr h3
    · rw [e1 k e] at hk; exact hBR.new k u hk
  · by_cases e : k = b
    · subst e; exact ⟨_, _, e0⟩
    · rw [e1 k e]; exact (hap.new k hk).2
theorem apart_base {B R1 : Hp} {cs : List Value} {v : Value} {k b o m c : Nat} (hap : Apart B R1 cs) (hk : cs[k]? = some v) (hv : v = .slice (some ⟨b, o, none⟩) m c) : B b = none :=
  (hap.new b (List.mem_filterMap.2 ⟨v, List.mem_of_getElem? hk, by rw [hv]; rfl⟩)).1
/-- A row of rows: an element of an element is written. -/
theorem St.refreeze (hA : ty.Any) {B R1 : Hp} {cs : List Value} {xss : List (List α)} {xs : List α} {i j : Int} {x0 y : α} {b o m c ps : Nat} {v : Value} {l es vs : List Value} {t : TypeId}
    (hS : St M w0 w (dropB R1 b) (.cells b (spl l (o + j.toNat * ty.n + ps) vs) t :: O)) (hBR : RLe M w0 B R1) (hap : Apart B R1 cs) (hf : Reps (tySl ty) R1 cs xss) (hi : Eng.ix xss i = some xs) (hk : cs[i.toNat * 1 + 0]? = some v) (hv : v = .slice (some ⟨b, o, none⟩) m c)
    (hR : R1 b = some (.cells l.toArray t (0, 0))) (hj : Eng.ix xs j = some x0) (hes : ty.rep R1 es x0) (hcell : ∀ q u, es[q]? = some u → R1.cell b (o + j.toNat * ty.n + q) = some u) (hvs : 1 ≤ vs.length) (hps : ps + vs.length ≤ es.length) (hy : ty.rep R1 (spl es ps vs) y) :
    ∃ R2, St M w0 w R2 O ∧ RLe M w0 B R2 ∧ Reps (tySl ty) R2 cs (upd xss i (upd xs j y)) ∧ Apart B R2 cs := by
  rw [Nat.mul_one, Nat.add_zero] at hk
  obtain ⟨R2, h1, h2, h3, h4, h5⟩ := hS.refreeze0 hBR hap hR (apart_base hap hk hv)
  refine ⟨R2, h1, h2, ?_, h3⟩
  obtain ⟨_, _, hi2⟩ := ix_some hi
  obtain ⟨_, _, hj2⟩ := ix_some hj
  have hn := ty.len hes
  obtain ⟨css, e1, e2, e3, e4⟩ := hf.all
  have one : ∀ (q : Nat) d, css[q]? = some d → ∃ u, d = [u] ∧ cs[q]? = some u := fun q d hq => by
    have h7 := (e3 d (List.mem_of_getElem? hq)).1
    match d, h7 with
    | [u], _ =>
      refine ⟨u, rfl, ?_⟩
      have := flatten_get (n := 1) (fun c hc => (e3 c hc).1) hq (show ([u] : List Value)[0]? = some u from rfl)
      rw [e1]; simpa using this
  refine ⟨css, e1, by rw [e2]; simp [upd], fun q d x hd hx => ?_⟩
  obtain ⟨u, rfl, hu⟩ := one q d hd
  by_cases hqi : i.toNat = q
  · subst hqi
    obtain rfl : u = v := Option.some.inj (hu.symm.trans hk)
    have hx' : upd xs j y = x := by
      unfold upd at hx
      rw [List.getElem?_set, if_pos rfl, if_pos (List.getElem?_eq_some_iff.1 hi2).1] at hx
      exact Option.some.inj hx
    subst hx'
    obtain ⟨u', e, hs⟩ : (tySl ty).rep R1 [u] xs := e4 _ _ _ hd hi2
    cases e
    obtain ⟨ad, cap, s1, s2, s3⟩ := hs
    have hlen : (upd xs j y).length = xs.length := by simp [upd]
    rw [hv] at s1
    simp only [Value.slice.injEq] at s1
    obtain ⟨s4, s5, s6⟩ := s1
    refine ⟨u, rfl, ad, cap, by rw [hv, hlen, s4, s5, s6], by rw [hlen]; exact s2, fun _ => ?_⟩
    have hne : xs ≠ [] := by intro e; subst e; simp at hj2
    obtain ⟨b', o', s7, s8⟩ := s3 hne
    rw [← s4] at s7
    simp only [Option.some.injEq, Addr.mk.injEq, and_true] at s7
    obtain ⟨rfl, rfl⟩ := s7
    refine ⟨b, o, s4.symm, fun k x hx => ?_⟩
    have cell2 : ∀ q, R2.cell b q = (spl l (o + j.toNat * ty.n + ps) vs)[q]? := fun q => by unfold Hp.cell; rw [h4]; simp
    have hbnd : o + j.toNat * ty.n + ps + vs.length ≤ l.length := by
      have := cell_len (hcell (ps + vs.length - 1) _ (List.getElem?_eq_getElem (by omega))) hR
      omega
    have hR1c : ∀ q, R1.cell b q = l[q]? := fun q => by unfold Hp.cell; rw [hR]; simp
    by_cases hkj : j.toNat = k
    · subst hkj
      have hxy : x = y := by
        unfold upd at hx
        rw [List.getElem?_set, if_pos rfl, if_pos (List.getElem?_eq_some_iff.1 hj2).1] at hx
        exact (Option.some.inj hx).symm
      subst hxy
      refine ⟨spl es ps vs, hA _ _ _ _ hy, fun q u hq => ?_⟩
      rw [cell2, spl_get hbnd]
      rw [spl_get hps] at hq
      by_cases hin : ps ≤ q ∧ q < ps + vs.length
      · rw [if_pos hin] at hq
        rw [if_pos (by omega), show o + j.toNat * ty.n + q - (o + j.toNat * ty.n + ps) = q - ps by omega]; exact hq
      · rw [if_neg hin] at hq
        rw [if_neg (by omega), ← hR1c]; exact hcell q u hq
    · have hx' : xs[k]? = some x := by
        unfold upd at hx
        rw [List.getElem?_set_ne hkj] at hx; exact hx
      obtain ⟨ck, r1, r2⟩ := s8 k x hx'
      refine ⟨ck, hA _ _ _ _ r1, fun q u hq => ?_⟩
      have hql : q < ty.n := by have := (List.getElem?_eq_some_iff.1 hq).1; rw [ty.len r1] at this; exact this
      rw [cell2, spl_get hbnd, if_neg ?_, ← hR1c]
      · exact r2 q u hq
      · rintro ⟨g1, g2⟩
        rcases Nat.lt_or_gt_of_ne hkj with hlt | hgt
        · have := Nat.mul_le_mul_right ty.n (show j.toNat + 1 ≤ k from hlt)
          rw [Nat.add_mul] at this; omega
        · have := Nat.mul_le_mul_right ty.n (show k + 1 ≤ j.toNat from hgt)
          rw [Nat.add_mul] at this; omega
  · have hx' : xss[q]? = some x := by
      unfold upd at hx
      rw [List.getElem?_set_ne hqi] at hx; exact hx
    obtain ⟨u', e, hs⟩ : (tySl ty).rep R1 [u] x := e4 _ _ _ hd hx'
    cases e
    refine ⟨u, rfl, ?_⟩
    obtain ⟨ad, cap, s1, s2, s3⟩ := hs
    refine ⟨ad, cap, s1, s2, fun hne => ?_⟩
    obtain ⟨b', o', s7, s8⟩ := s3 hne
    refine ⟨b', o', s7, fun k z hz => ?_⟩
    obtain ⟨ck, r1, r2⟩ := s8 k z hz
    have hbb : b' ≠ b := by
      rintro rfl
      exact hqi (apart_ne hap.nodup hk hu (by rw [hv]; rfl) (by rw [s1, s7]; rfl))
    refine ⟨ck, hA _ _ _ _ r1, fun p z hp => ?_⟩
    have := r2 p z hp
    unfold Hp.cell at this ⊢
    rw [h5 b' hbb]; exact this
/-- A part of an element is written. -/
theorem flatten_spl {css : List (List Value)} {m : Nat} (hc : ∀ c ∈ css, c.length = m) : ∀ {i ps : Nat} {es vs : List Value}, css[i]? = some es → ps + vs.length ≤ es.length → spl css.flatten (i * m + ps) vs = (css.set i (spl es ps vs)).flatten := by
  induction css with
  | nil => intro i ps es vs h; simp at h
  | cons c r ih =>
    intro i ps es vs h hp
    have hcm := hc c (by simp)
    cases i with
    | zero =>
      simp at h; subst h
      simp only [List.set_cons_zero, List.flatten_cons, Nat.zero_mul, Nat.zero_add]
      unfold spl
      rw [List.take_append_of_le_length (by omega), List.drop_append_of_le_length (by omega)]
      simp
    | succ i =>
      have h' : r[i]? = some es := by simpa using h
      have := ih (fun d hd => hc d (by simp [hd])) h' hp
      simp only [List.set_cons_succ, List.flatten_cons]
      rw [← this]
      unfold spl
      have e : (i + 1) * m + ps = c.length + (i * m + ps) := by rw [Nat.add_mul]; omega
      rw [e, List.take_length_add_append, Nat.add_assoc c.length, List.drop_length_add_append]
      simp
theorem Reps.spl {cs : List Value} {xs : List α} {i ps : Nat} {x y : α} {es vs : List Value} (h : Reps ty R cs xs) (hx : xs[i]? = some x) (hl : es.length = ty.n) (hes : ∀ j u, es[j]? = some u → cs[i * ty.n + j]? = some u) (hp : ps + vs.length ≤ es.length) (hy : ty.rep R (Eng.spl es ps vs) y) : Reps ty R (Eng.spl cs (i * ty.n + ps) vs) (xs.set i y) := by
  obtain ⟨css, h1, h2, h3, h4⟩ := h.all
  have hi : i < css.length := by rw [h2]; exact (List.getElem?_eq_some_iff.1 hx).1
  have he : css[i]? = some es := by
    rw [List.getElem?_eq_getElem hi]
    congr 1
    refine List.ext_getElem? fun j => ?_
    have hlen := (h3 _ (List.getElem_mem hi)).1
    by_cases hj : j < ty.n
    · have e1 := flatten_get (fun c hc => (h3 c hc).1) (List.getElem?_eq_getElem hi) (List.getElem?_eq_getElem (show j < css[i].length by omega))
      have e2 := hes j _ (List.getElem?_eq_getElem (show j < es.length by omega))
      rw [h1, e1] at e2
      rw [List.getElem?_eq_getElem (show j < css[i].length by omega), List.getElem?_eq_getElem (show j < es.length by omega)]
      exact e2
    · rw [List.getElem?_eq_none (by omega), List.getElem?_eq_none (by omega)]
  refine ⟨css.set i (Eng.spl es ps vs), by rw [h1]; exact flatten_spl (fun c hc => (h3 c hc).1) he hp, by simp [h2], fun j c z hc hz => ?_⟩
  rw [List.getElem?_set] at hc hz
  by_cases hij : i = j
  · subst hij
    rw [if_pos rfl, if_pos hi] at hc
    rw [if_pos rfl, if_pos (by omega)] at hz
    cases hc; cases hz; exact hy
  · rw [if_neg hij] at hc hz
    exact h4 j c z hc hz
theorem St.row_setP {e size m : Nat} {v : Value} {cs : List Value} {b c k : Nat} {u : Value} (hS : St M w0 w R (.row e size v m cs :: O)) (hv : v = .slice (some ⟨b, 0, none⟩) m c) : St M w0 (w.setCell ⟨b, k, none⟩ u) R (.row e size v m (cs.set k u) :: O) := by
  subst hv
  have hown : w.ownsRow 0 e size (.slice (some ⟨b, 0, none⟩) m c) m cs := hS.own (.row e size _ m cs) (List.mem_cons_self ..)
  obtain ⟨h1, h2⟩ := hown.stored k u
  exact hS.turn h2.os h2.tape h2.output h2.size (Nat.le_refl _) (fun j hj hne => h2.block j hj (fun e => hne (by rw [Own.blk, Value.ownBlock]; simpa using e.symm))) h1 (fun b' hb' => Or.inl hb')
theorem sl_store_rowP {t : TypeId} {x y : Operand} {e size m b c ps : Nat} {v u : Value} {cs es : List Value} {xs : List α} {i : Int} {z z0 : α} (hz : ∀ w, (sizeOf t).run P w = .ok 1 w) (hv : v = .slice (some ⟨b, 0, none⟩) m c) (hi : ix xs i = some z0) (h1 : ty.n = size) (hl : es.length = size) (hes : ∀ j u, es[j]? = some u → cs[i.toNat * ty.n + j]? = some u) (hps : ps < es.length) (hrep : ty.rep R (spl es ps [u]) z) (hcs : Reps ty R cs xs) (hm : m = xs.length)
    (hS : St M w0 w R (.row e size v m cs :: O)) (hK : Kn n a L) (hw : wantedL ops L ⟨none, .store t x y, ty', pos, af, g⟩ = some true) (hx : ev L x = some (.pointer (some ⟨b, 0 + (i.toNat * size + ps), none⟩))) (hy : ev L y = some u) (ho : u.oneCell' = true)
    (h : ∀ a w cs', Reps ty R cs' (upd xs i z) → St M w0 w R (.row e size v (upd xs i z).length cs' :: O) → Kn n a L → wpList P ops Q rest a w) : wpList P ops Q (⟨none, .store t x y, ty', pos, af, g⟩ :: rest) a w := by
  subst hm; subst h1
  obtain ⟨h0, h2, h3⟩ := ix_some hi
  have hlen := hcs.length
  have hk := hes ps _ (List.getElem?_eq_getElem hps)
  have hkl := (List.getElem?_eq_some_iff.1 hk).1
  have hcell := hS.row_cell (.head _) hv hk
  have hfz : w.frozen? ⟨b, i.toNat * ty.n + ps, none⟩ = false := by
    have hown : w.ownsRow 0 e ty.n v xs.length cs := hS.own (.row e ty.n v _ cs) (List.mem_cons_self ..)
    subst hv
    exact hown.frozenAt _
  have hcells : u.cells = #[u] := by cases u <;> first | rfl | (simp [Value.oneCell'] at ho)
  have hset : Reps ty R (cs.set (i.toNat * ty.n + ps) u) (upd xs i z) := by
    rw [spl_set hkl]
    exact hcs.spl h3 hl hes (show ps + 1 ≤ es.length from hps) hrep
  refine sls hK hw rfl (w' := w.setCell ⟨b, i.toNat * ty.n + ps, none⟩ u) ?_ fun a' hK' => h a' _ _ hset (by rw [show (upd xs i z).length = xs.length from by simp [upd]]; exact hS.row_setP hv) hK'
  rw [Nat.zero_add] at hx hcell
  simp [execOp, hK.ev hx, hK.ev hy, Instr.storeAt, Instr.sureAddr, storeVar, hcells, hz, storeCells, add_lit, run_store P w _ u _ ho, hcell, hfz]
/-- make([]T, n). -/
def mkS {α : Type} (B : Nat) (n : Int) (z : α) : Option (List α) := if 0 ≤ n then (if n.toNat * B ≤ 140737488355328 then some (List.replicate n.toNat z) else none) else none
theorem mkS_some {α : Type} {B : Nat} {n : Int} {z : α} {xs : List α} (h : mkS B n z = some xs) : 0 ≤ n ∧ n.toNat * B ≤ 140737488355328 ∧ xs = List.replicate n.toNat z := by
  unfold mkS at h
  split at h
  · split at h
    · exact ⟨by assumption, by assumption, (Option.some.inj h).symm⟩
    · cases h
  · cases h
theorem made_one (c0 : Value) (n : Nat) : madeCells #[c0] n = (List.replicate n c0).toArray := by
  apply Array.ext
  · simp [madeCells]
  · intro i h1 h2
    simp [madeCells, Nat.mod_one]
theorem Reps.replicate {c0 : Value} {z : α} (h : ty.rep R [c0] z) : ∀ n, Reps ty R (List.replicate n c0) (List.replicate n z)
  | 0 => Reps.nil _ _
  | n + 1 => by
    have := Reps.cons h (Reps.replicate h n)
    simpa [List.replicate_succ] using this
theorem sl_make {dd : Nat} {t e bytes : Nat} {x y : Operand} {k k2 : IntKind} {m : Int} {zv c0 : Value} {z : α} {xs : List α} (hE : ElT P t e 1 bytes) (hB : 1 ≤ bytes) (hty : ty.n = 1) (hZ : ∀ w, (zeroValue e).run P w = .ok zv w) (hzc : zv.cells = #[c0]) (hrep : ty.rep R [c0] z) (hm : mkS bytes m z = some xs)
    (hS : St M w0 w R O) (hK : Kn n a L) (hd : dd < n.n) (hw : wantedL ops L ⟨some dd, .makeSlice t x y, ty', pos, af, g⟩ = some true) (hx : ev L x = some (.int k m)) (hy : ev L y = some (.int k2 m))
    (h : ∀ a w v cs, Reps ty R cs xs → St M w0 w R (.row e 1 v xs.length cs :: O) → Kn n a ((dd, v) :: L) → wpList P ops Q rest a w) : wpList P ops Q (⟨some dd, .makeSlice t x y, ty', pos, af, g⟩ :: rest) a w := by
  obtain ⟨h0, hb, rfl⟩ := mkS_some hm
  obtain ⟨i, zz, hi, hz0, hsz, hby, hzs⟩ := hE.ex
  have hzz : zz = zv := by
    have := hZ w
    simp [zeroValue, typeInfo, hi, hz0] at this
    exact this
  subst hzz
  have hle : m.toNat ≤ 140737488355328 := Nat.le_trans (Nat.le_mul_of_pos_right _ hB) hb
  have hbi : (bytes : Int) * m ≤ 140737488355328 := by
    have e1 : ((m.toNat * bytes : Nat) : Int) = m * (bytes : Int) := by rw [Int.natCast_mul, Int.toNat_of_nonneg h0]
    have : ((m.toNat * bytes : Nat) : Int) ≤ 140737488355328 := Int.ofNat_le.2 hb
    rw [e1] at this; rw [Int.mul_comm]; exact this
  have hr := run_make (P := P) w t e i zz hE.und hi hz0 k k2 m m h0 (Int.le_refl _) (by rw [hby]; omega) (by omega)
  rw [hsz, Nat.mul_one, hzc, made_one] at hr
  have hS1 : St M w0 (w.alloc (.cells (List.replicate m.toNat c0).toArray e)) R (.row e 1 (.slice (some ⟨w.heap.size, 0, none⟩) m.toNat m.toNat) m.toNat (List.replicate m.toNat c0) :: O) := (hS.alloc (List.replicate m.toNat c0) e).row_lit (by rw [List.length_replicate, Nat.mul_one]) hle
  refine slw hK hd hw rfl (v := .slice (some ⟨w.heap.size, 0, none⟩) m.toNat m.toNat) (w' := w.alloc (.cells (List.replicate m.toNat c0).toArray e)) ?_ fun a' hK' => h a' _ _ _ (Reps.replicate hrep _) (by rw [List.length_replicate]; exact hS1) hK'
  simp only [execOp, hK.ev hx, hK.ev hy]
  simp [hr]
/-- A call that runs at a memory without some blocks, and its end: they are there again. -/
theorem St.backF {w' : World} {B R1 R' : Hp} {N N' : List Own} (h : St M w0 w R1 (N ++ O)) (hB : RLe M w0 B R1) (h' : St N w w' R' N') (hr : RLe N w B R') :
    ∃ R2 : Hp, St M w0 w' R2 (N' ++ O) ∧ RLe M w0 R1 R2 ∧ RLe M w0 B R' ∧ RLe M w0 R' R2 ∧ ∀ b o, R1 b = some o → B b = none → R' b = none := by
  obtain ⟨k1, k2⟩ := (h.lower hB.le).back h' hr
  have notN : ∀ b o, R1 b = some o → b < w.heap.size ∧ ¬ blks N b := fun b o hb => ⟨h.sub.lt hb, fun ⟨y, hy, hyb⟩ => by rw [(h.base y (List.mem_append_left _ hy) b hyb).2] at hb; cases hb⟩
  have both : ∀ b o o', R1 b = some o → R' b = some o' → B b = some o' := fun b o o' h1 h2 => by
    obtain ⟨n1, n2⟩ := notN b o h1
    rcases hr.new b o' h2 with h3 | h3 | h3
    · exact h3
    · omega
    · exact absurd h3 n2
  obtain ⟨R2, hR2⟩ : ∃ R2 : Hp, R2 = fun b => match R1 b with | some o => some o | none => R' b := ⟨_, rfl⟩
  have e1 : ∀ b o, R1 b = some o → R2 b = some o := fun b o hb => by rw [hR2]; simp only [hb]
  have e2 : ∀ b, R1 b = none → R2 b = R' b := fun b hb => by rw [hR2]; simp only [hb]
  have le2 : R'.le R2 := fun b o hb => by
    cases h1 : R1 b with
    | none => rw [e2 b h1]; exact hb
    | some o1 => have := hB.le b o (both b o1 o h1 hb); rw [h1] at this; rw [e1 b o1 h1]; exact this
  refine ⟨R2, ⟨k1.bel, fun b o hb => ?_, k1.own, fun x hx b hxb => ⟨(k1.base x hx b hxb).1, ?_⟩, k1.sep⟩, ⟨fun b o hb => e1 b o hb, fun b o hb => ?_⟩, k2, ⟨le2, fun b o hb => ?_⟩, fun b o h1 h2 => ?_⟩
  · cases h1 : R1 b with
    | none => rw [e2 b h1] at hb; exact k1.sub b o hb
    | some o1 =>
      rw [e1 b o1 h1] at hb
      obtain ⟨n1, n2⟩ := notN b o1 h1
      rw [h'.bel.block b n1 n2, ← hb]; exact h.sub b o1 h1
  · cases h1 : R1 b with
    | none => rw [e2 b h1]; exact (k1.base x hx b hxb).2
    | some o1 =>
      exfalso
      obtain ⟨n1, n2⟩ := notN b o1 h1
      rcases List.mem_append.1 hx with hx | hx
      · rcases (h'.base x hx b hxb).1 with h3 | h3
        · omega
        · exact n2 h3
      · rw [(h.base x (List.mem_append_right _ hx) b hxb).2] at h1; cases h1
  · cases h1 : R1 b with
    | none =>
      rw [e2 b h1] at hb
      rcases k2.new b o hb with h3 | h3
      · have := hB.le b o h3; rw [h1] at this; cases this
      · exact Or.inr h3
    | some o1 => rw [e1 b o1 h1] at hb; exact Or.inl hb
  · cases h1 : R1 b with
    | none => rw [e2 b h1] at hb; exact Or.inl hb
    | some o1 =>
      rw [e1 b o1 h1] at hb
      have hoo : o1 = o := Option.some.inj hb
      subst hoo
      rcases hB.new b o1 h1 with h3 | h3
      · exact Or.inl (k2.le b o1 h3)
      · exact Or.inr h3
  · cases h3 : R' b with
    | none => rfl
    | some o' => have := both b o o' h1 h3; rw [h2] at this; cases this
theorem Apart.frame {B R1 R' R2 : Hp} {cs : List Value} (h : Apart B R1 cs) (hle : R1.le R2) (hd : ∀ b o, R1 b = some o → B b = none → R' b = none) : Apart R' R2 cs :=
  ⟨fun b hb => by
    obtain ⟨h1, c, t, h2⟩ := h.new b hb
    exact ⟨hd b _ h2 h1, c, t, hle _ _ h2⟩, h.nodup⟩
/-- A slice that is lent; what its elements lead to is read only. -/
def SlB {α : Type} (ty : Ty α) (RA R : Hp) (v : Value) (xs : List α) : Prop :=
  ∃ ad cap cs, v = .slice ad xs.length cap ∧ xs.length ≤ cap ∧ Reps ty R cs xs ∧ (xs ≠ [] → ∃ b o, ad = some ⟨b, o, none⟩ ∧ ∀ j u, cs[j]? = some u → RA.cell b (o + j) = some u)
theorem SlB.nil {α : Type} (ty : Ty α) (RA R : Hp) : SlB ty RA R (.slice none 0 0) ([] : List α) := ⟨none, 0, [], rfl, Nat.le_refl _, Reps.nil _ _, fun h => absurd rfl h⟩
theorem SlB.monoA {RA RA' : Hp} {v : Value} {xs : List α} (h : SlB ty RA R v xs) (hR : RA.le RA') : SlB ty RA' R v xs := by
  obtain ⟨ad, cap, cs, h1, h2, h3, h4⟩ := h
  exact ⟨ad, cap, cs, h1, h2, h3, fun hne => let ⟨b, o, e, hc⟩ := h4 hne; ⟨b, o, e, fun j u hu => Hp.cell_le hR (hc j u hu)⟩⟩
theorem SlB.monoR {RA R' : Hp} {v : Value} {xs : List α} (h : SlB ty RA R v xs) (hR : R.le R') : SlB ty RA R' v xs := by
  obtain ⟨ad, cap, cs, h1, h2, h3, h4⟩ := h
  exact ⟨ad, cap, cs, h1, h2, h3.mono hR, h4⟩
theorem SlB.one {RA : Hp} {v : Value} {xs : List α} (h : SlB ty RA R v xs) : v.oneCell' = true := by
  obtain ⟨ad, cap, cs, h1, _⟩ := h; subst h1; rfl
theorem SlR.toB {RA : Hp} {v : Value} {xs : List α} (h : SlR ty R v xs) (hR : R.le RA) : SlB ty RA R v xs := by
  obtain ⟨ad, cap, cs, h1, h2, h3, h4⟩ := h.cells
  exact ⟨ad, cap, cs, h1, h2, h3, fun hne => let ⟨b, o, e, hc⟩ := h4 hne; ⟨b, o, e, fun j u hu => Hp.cell_le hR (hc j u hu)⟩⟩
theorem SlB.nilcase {RA : Hp} {v : Value} {xs : List α} (h : SlB ty RA R v xs) : ((∃ c, v = .slice none 0 c) ∧ xs = []) ∨ ∃ ad m c, v = .slice (some ad) m c := by
  obtain ⟨ad, cap, cs, h1, h2, h3, h4⟩ := h
  cases ad with
  | none =>
    refine Or.inl ?_
    by_cases hx : xs = []
    · subst hx; exact ⟨⟨cap, h1⟩, rfl⟩
    · obtain ⟨b, o, e, _⟩ := h4 hx; cases e
  | some a => exact Or.inr ⟨a, _, _, h1⟩
theorem St.lend_rowB {e size m : Nat} {v : Value} {cs : List Value} {xs : List α} {N : List Own} {R1 : Hp} (h : St M w0 w R (N ++ O)) (hmem : Own.row e size v m cs ∈ O) (hcs : Reps ty R1 cs xs) (hm : m = xs.length) (hty : ty.n = size) : SlB ty (lentOf N w) R1 v xs := by
  subst hm; subst hty
  have hown : w.ownsRow 0 e ty.n v xs.length cs := h.own _ (List.mem_append_right _ hmem)
  rcases hown.2 with ⟨rfl, h0⟩ | ⟨g, cap, cur, rfl, hbg, hg, hnc, hcm, hcz, htake⟩
  · have : xs = [] := List.eq_nil_of_length_eq_zero h0
    subst this
    exact SlB.nil ty _ _
  · refine ⟨_, cap, cs, rfl, hnc, hcs, fun _ => ⟨g, 0, rfl, fun j u hu => ?_⟩⟩
    have h3 := h.ownLent hmem rfl hg
    rw [← htake, List.getElem?_take] at hu
    split at hu
    · simp only [Hp.cell, h3, Nat.zero_add]; simpa using hu
    · cases hu
theorem St.lend_rowB0 {e size m : Nat} {v : Value} {cs : List Value} {xs : List α} {R1 : Hp} (h : St M w0 w R O) (hmem : Own.row e size v m cs ∈ O) (hcs : Reps ty R1 cs xs) (hm : m = xs.length) (hty : ty.n = size) : SlB ty (lentOf [] w) R1 v xs := St.lend_rowB (N := []) h hmem hcs hm hty
/-- append(s, x...), x a slice that is lent, its elements read only. -/
theorem sl_append_B {dd : Nat} {s x : Operand} {t e size bytes : Nat} {v u : Value} {m : Nat} {cs : List Value} {xs ys zs : List α} {RA : Hp} (hE : ElT P t e size bytes) (hB : 1 ≤ bytes) (hty : ty.n = size) (hRA : RA.sub w) (hcs : Reps ty R cs xs) (hm : m = xs.length) (hu : SlB ty RA R u ys) (hz : apd bytes xs ys = some zs)
    (hS : St M w0 w R (.row e size v m cs :: O)) (hK : Kn n a L) (hd : dd < n.n) (hw : wantedL ops L ⟨some dd, .call { callee := .builtin .append, args := #[s, x], argTypes := #[t, t] }, ty', pos, af, g⟩ = some true) (hs : ev L s = some v) (hx : ev L x = some u)
    (h : ∀ a w v' cs', Reps ty R cs' zs → St M w0 w R (.row e size v' zs.length cs' :: O) → Kn n a ((dd, v') :: L) → wpList P ops Q rest a w) :
    wpList P ops Q (⟨some dd, .call { callee := .builtin .append, args := #[s, x], argTypes := #[t, t] }, ty', pos, af, g⟩ :: rest) a w := by
  subst hm; subst hty
  obtain ⟨hb, hzs⟩ := apd_some hz
  obtain ⟨ad, cap, ds, rfl, _, hds, hsrc⟩ := hu
  obtain ⟨v', w', hr, hS'⟩ := run_append (tt := ty') (c := cap) (news := ds) (ad := ad) hE hB hS hds.length hds.one hb (fun hk => by
    obtain ⟨b, o, h1, h2⟩ := hsrc (by intro e; subst e; exact hk rfl)
    exact ⟨b, o, h1, fun j u hu => hRA.cell (h2 j u hu)⟩)
  refine slw hK hd hw rfl (append_op hK hs hx hr) fun a' hK' => h a' w' v' (cs ++ ds) (by rw [hzs]; exact hcs.append hds) ?_ hK'
  rw [hzs, List.length_append]
  exact hS'
theorem take_spl {l : List Value} {k p : Nat} {vs : List Value} (h : p + vs.length ≤ k) (hk : k ≤ l.length) : (spl l p vs).take k = spl (l.take k) p vs := by
  refine List.ext_getElem? fun j => ?_
  rw [List.getElem?_take, spl_get (l := l) (by omega), spl_get (l := l.take k) (by rw [List.length_take]; omega), List.getElem?_take]
  by_cases hj : j < k
  · rw [if_pos hj, if_pos hj]
  · rw [if_neg hj, if_neg hj, if_neg (by omega)]
theorem sl_store_rowA {t : TypeId} {x y : Operand} {e size m b c ps k : Nat} {v : Value} {cs es vs : List Value} {xs : List α} {i : Int} {z z0 : α} (hz : ∀ w, (sizeOf t).run P w = .ok k w) (hv : v = .slice (some ⟨b, 0, none⟩) m c) (hi : ix xs i = some z0) (h1 : ty.n = size) (hl : es.length = size) (hes : ∀ j u, es[j]? = some u → cs[i.toNat * ty.n + j]? = some u) (hk : vs.length = k) (hps : ps + vs.length ≤ es.length) (hvs : 1 ≤ vs.length) (hrep : ty.rep R (spl es ps vs) z) (hcs : Reps ty R cs xs) (hm : m = xs.length)
    (hS : St M w0 w R (.row e size v m cs :: O)) (hK : Kn n a L) (hw : wantedL ops L ⟨none, .store t x y, ty', pos, af, g⟩ = some true) (hx : ev L x = some (.pointer (some ⟨b, 0 + (i.toNat * size + ps), none⟩))) (hy : ev L y = some (.agg vs.toArray)) (ho : ∀ u ∈ vs, u.oneCell' = true)
    (h : ∀ a w cs', Reps ty R cs' (upd xs i z) → St M w0 w R (.row e size v (upd xs i z).length cs' :: O) → Kn n a L → wpList P ops Q rest a w) : wpList P ops Q (⟨none, .store t x y, ty', pos, af, g⟩ :: rest) a w := by
  subst hm; subst h1; subst hk
  obtain ⟨h0, h2, h3⟩ := ix_some hi
  have hkk := hes (ps + vs.length - 1) _ (List.getElem?_eq_getElem (by omega))
  have hkl : i.toNat * ty.n + ps + vs.length ≤ cs.length := by have := (List.getElem?_eq_some_iff.1 hkk).1; omega
  have hown : w.ownsRow 0 e ty.n v xs.length cs := hS.own (.row e ty.n v _ cs) (List.mem_cons_self ..)
  rcases hown.2 with ⟨hv', hn0⟩ | ⟨g0, cap, cur, hv', hbg, hg, hnc, hcm, hcz, htake⟩
  · rw [hv] at hv'; simp at hv'
  · rw [hv] at hv'
    simp only [Value.slice.injEq, Option.some.injEq, Addr.mk.injEq, and_true, true_and] at hv'
    obtain ⟨rfl, rfl⟩ := hv'
    have hcl : cs.length ≤ cur.toList.length := by rw [← htake, List.length_take]; omega
    have hb : w.heap[b]? = some (.cells cur.toList.toArray e (0, 0)) := by simpa using hg
    have hs := run_storeCells_at P b (i.toNat * ty.n + ps) e vs 0 cur.toList.toArray w hb (by simp at hcl ⊢; omega) ho
    simp only [Nat.add_zero] at hs
    have hset : Reps ty R (spl cs (i.toNat * ty.n + ps) vs) (upd xs i z) := hcs.spl h3 hl hes hps hrep
    refine sls hK hw rfl (w' := w.setRow b (spl cur.toList (i.toNat * ty.n + ps) vs).toArray) ?_ fun a' hK' => h a' _ _ hset ?_ hK'
    · rw [Nat.zero_add] at hx
      have hs' : (storeCells ⟨b, i.toNat * ty.n + ps, none⟩ vs).run P w = .ok () (w.setRow b (spl cur.toList (i.toNat * ty.n + ps) vs).toArray) := by simpa [spl] using hs
      simp [execOp, hK.ev hx, hK.ev hy, Instr.storeAt, Instr.sureAddr, storeVar, Value.cells, hz, hs']
    · rw [show (upd xs i z).length = xs.length from by simp [upd]]
      have hsl : (spl cur.toList (i.toNat * ty.n + ps) vs).length = cur.toList.length := by
        unfold spl; simp only [List.length_append, List.length_take, List.length_drop]; omega
      refine hS.turn rfl rfl rfl (by simp) (Nat.le_refl _) (fun k _ hk => setRow_other w b k _ (fun e => hk (by rw [Own.blk, hv]; simp [Value.ownBlock, e]))) ⟨?_, Or.inr ⟨b, c, (spl cur.toList (i.toNat * ty.n + ps) vs).toArray, hv, hbg, setRow_heap w b _ _ e _ hg, hnc, hcm, ?_, ?_⟩⟩ (fun b' hb' => Or.inl hb')
      · have : (spl cs (i.toNat * ty.n + ps) vs).length = cs.length := by
          unfold spl; simp only [List.length_append, List.length_take, List.length_drop]; omega
        rw [this]; exact hown.1
      · rw [List.size_toArray, hsl]; simpa using hcz
      · show ((spl cur.toList (i.toNat * ty.n + ps) vs)).take _ = _
        rw [take_spl (by rw [← hown.1]; exact hkl) (by rw [← hown.1]; exact hcl), htake]
end
end Go.Eng
