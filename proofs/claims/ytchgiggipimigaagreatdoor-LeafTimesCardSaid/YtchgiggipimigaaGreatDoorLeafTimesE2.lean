/- For the law LeafTimes: laws of memory, calls and single operations, for any program; each holds under its own hypotheses alone. -/
import Derived.MapKept
import Derived.Test.YtchgiggipimigaaGreatDoorLeafTimesE1
section
namespace Go.Eng
open Go.RowKit Go.MapKept
set_option linter.unusedVariables false
set_option linter.unusedSimpArgs false
theorem run_storeCells_atM (P : Program) (g o : Nat) (t : TypeId) (fz : Nat × Nat) : ∀ (vs : List Value) (i : Nat) (cur : Array Value) (w : World), w.heap[g]? = some (.cells cur t fz) → (∀ k, k < cur.size → ¬ (fz.1 ≤ k ∧ k < fz.2)) → o + i + vs.length ≤ cur.size → (∀ v ∈ vs, v.oneCell' = true) →
    (storeCells ⟨g, o, none⟩ vs i).run P w = .ok () (w.setRow g (cur.toList.take (o + i) ++ vs ++ cur.toList.drop (o + i + vs.length)).toArray)
  | [], i, cur, w, hg, _, _, _ => by
    simp only [storeCells, List.append_nil, List.length_nil, Nat.add_zero, List.take_append_drop, Array.toArray_toList]
    rw [setRow_self w g cur t fz hg]
    rfl
  | v :: rest, i, cur, w, hg, hfz, hl, h1 => by
    have hi : o + i < cur.size := by simp at hl; omega
    have hadd : (⟨g, o, none⟩ : Addr).add i = ⟨g, o + i, none⟩ := by unfold Addr.add; split <;> simp_all
    have hcell : w.cell? ⟨g, o + i, none⟩ = some cur[o + i] := by simp [World.cell?, hg, hi]
    have hfro : w.frozen? ⟨g, o + i, none⟩ = false := by
      have := hfz (o + i) hi
      obtain ⟨lo, hi'⟩ := fz
      simp only [World.frozen?, hg, Bool.and_eq_false_iff, decide_eq_false_iff_not]
      simp only at this
      omega
    have hst : (store ((⟨g, o, none⟩ : Addr).add i) v).run P w = .ok () (w.setRow g (cur.setIfInBounds (o + i) v)) := by
      rw [hadd, run_store P w _ v _ (h1 v (by simp)), hcell]
      simp [hfro, setCell_eq_setRow w g (o + i) cur t fz v hg]
    have ih := run_storeCells_atM P g o t fz rest (i + 1) (cur.setIfInBounds (o + i) v) (w.setRow g (cur.setIfInBounds (o + i) v)) (setRow_heap w g cur _ t _ hg) (fun k hk => hfz k (by simpa using hk)) (by simp at hl ⊢; omega) (fun x hx => h1 x (by simp [hx]))
    simp only [storeCells, Sem.run_bind, hst, Result.andThen_ok, ih, setRow_setRow]
    congr 3
    have e := list_seg_step cur.toList (o + i) v rest (by simp at hl ⊢; omega)
    simpa [Array.toList_setIfInBounds, Nat.add_assoc] using e
section
variable {α : Type} {ty : Ty α}
variable {P : Program} {ops : Array Oper} {Q : Exit → Act → World → Prop} {a : Act} {w0 w : World} {M : List Own} {R : Hp} {O : List Own} {rest : List Oper} {n : Fr} {L : Sl}
variable {d : Option Tmp} {ty' : TypeId} {pos : String} {af : Array Edge} {g : Option (Nat × Bool)}
theorem run_appendM {t e size bytes tt : Nat} {v : Value} {m k c : Nat} {cs news : List Value} {ad : Option Addr} (hE : ElT P t e size bytes) (hB : 1 ≤ bytes)
    (hS : St M w0 w R (.rowM e size v m cs :: O)) (hl : news.length = k * size) (h1 : ∀ u ∈ news, u.oneCell' = true) (hb : (m + k) * bytes ≤ 140737488355328)
    (hsrc : k ≠ 0 → ∃ b o, ad = some ⟨b, o, none⟩ ∧ ∀ j u, news[j]? = some u → w.cell? ⟨b, o + j, none⟩ = some u) :
    ∃ v' w', (Builtin.append_ #[t, t] tt #[v, .slice ad k c]).run P w = .ok v' w' ∧ St M w0 w' R (.rowM e size v' (m + k) (cs ++ news) :: O) := by
  obtain ⟨i, z, hi, hz0, hsz, hby, hzs⟩ := hE.ex
  have hown : ownsM w e size v m cs := hS.own (.rowM e size v m cs) (List.mem_cons_self ..)
  obtain ⟨hcl, b0, cap, cur, fz, rfl, hg, hfz, hnc, hcm, hcs, htake⟩ := hown
  by_cases hk : k = 0
  · subst hk
    have : news = [] := List.eq_nil_of_length_eq_zero (by simpa using hl)
    subst this
    refine ⟨_, w, append_none (size := size) hE.und (fun w => by simp [sizeOf, typeInfo, hi, hsz]) tt hnc, ?_⟩
    simpa using hS
  · obtain ⟨b, o, rfl, hcell⟩ := hsrc hk
    have hpos := hE.pos
    subst hsz; subst hby
    have hle : m + k ≤ 140737488355328 := Nat.le_trans (Nat.le_mul_of_pos_right _ hB) hb
    have hlen : (cs ++ news).length = (m + k) * i.size := by rw [List.length_append, hcl, hl, Nat.add_mul]
    have hnews : ∀ j u, news[j]? = some u → w.cell? ((⟨b, o, none⟩ : Addr).add j) = some u := fun j u hu => by rw [add_lit]; exact hcell j u hu
    by_cases hroom : m + k ≤ cap
    · have hfit : m * i.size + news.length ≤ cur.size := by rw [hl, hcs, ← Nat.add_mul]; exact Nat.mul_le_mul_right _ hroom
      have hf := run_firstCells_some (P := P) w i.size k ⟨b, o, none⟩ k c news hl hnews
      have hst := run_storeCells_atM P b0 (m * i.size) e fz news 0 cur w hg hfz (by simpa using hfit) h1
      simp only [Nat.add_zero] at hst
      have hr : (Builtin.append_ #[t, t] tt #[.slice (some ⟨b0, 0, none⟩) m cap, .slice (some ⟨b, o, none⟩) k c]).run P w =
          .ok (.slice (some ⟨b0, 0, none⟩) (m + k) cap) (w.setRow b0 (cur.toList.take (m * i.size) ++ news ++ cur.toList.drop (m * i.size + news.length)).toArray) := by
        simp [Builtin.append_, run_underlying hE.und, sizeOf, typeInfo, hi, Builtin.lenOf, hroom, hf, Addr.add_lit, hst]
      refine ⟨_, _, hr, hS.turn rfl rfl rfl (by simp [World.setRow]) (Nat.le_refl _) (fun j hj hne => setRow_other w b0 j _ (fun e => hne (by simp [Own.blk, Value.ownBlock, e]))) ⟨hlen, b0, cap, _, fz, rfl, setRow_heap w b0 cur _ e _ hg, fun j hj => hfz j ?_, hroom, hcm, ?_, ?_⟩ (fun b' hb' => Or.inl hb')⟩
      · simp only [List.size_toArray, List.length_append, List.length_take, List.length_drop, Array.length_toList] at hj
        omega
      · simp only [List.size_toArray, List.length_append, List.length_take, List.length_drop, Array.length_toList]
        omega
      · rw [htake, ← hlen]
        exact List.take_left
    · have holds : ∀ j u, cs[j]? = some u → w.cell? ((⟨b0, 0, none⟩ : Addr).add j) = some u := fun j u hu => by
        rw [add_lit, Nat.zero_add, cell_of_row w b0 j cur e fz hg]
        rw [← htake, List.getElem?_take] at hu
        split at hu
        · simpa using hu
        · cases hu
      have hr := run_append_grow (P := P) w t tt e i z hE.und hi hz0 ⟨b0, 0, none⟩ m cap cs hcl holds ⟨b, o, none⟩ k c news hl hnews (by omega) (by omega) (growslice_fits (by omega) hb)
      have hge := grownCap_ge w (m + k) cap e
      have hcm' : grownCap w (m + k) cap e ≤ maxLen := grownCap_le_maxLen w (m + k) cap e (by simp only [maxLen]; omega)
      refine ⟨_, _, hr, hS.turn rfl rfl rfl (by simp) (Nat.le_succ _) (fun j hj _ => Below.heap_alloc w.drew _ _ hj) ⟨hlen, w.heap.size, _, _, (0, 0), rfl, heap_alloc_new w.drew _, fun j hj h => by omega, hge, hcm', ?_, ?_⟩ (fun b' hb' => Or.inr (by simp [Own.blk, Value.ownBlock] at hb'; omega))⟩
      · simp only [Array.size_append, List.size_toArray, size_zeroCells, hzs, hcl, hl, ← Nat.add_mul]
        congr 1
        omega
      · simp only [Array.toList_append, List.append_assoc]
        rw [← List.append_assoc, ← hlen]
        exact List.take_left
theorem sl_append_MR {dd : Nat} {s x : Operand} {t e size bytes : Nat} {v u : Value} {m : Nat} {cs : List Value} {xs ys zs : List α} (hE : ElT P t e size bytes) (hB : 1 ≤ bytes) (hty : ty.n = size) (hcs : Reps ty R cs xs) (hm : m = xs.length) (hu : SlR ty R u ys) (hz : apd bytes xs ys = some zs)
    (hS : St M w0 w R (.rowM e size v m cs :: O)) (hK : Kn n a L) (hd : dd < n.n) (hw : wantedL ops L ⟨some dd, .call { callee := .builtin .append, args := #[s, x], argTypes := #[t, t] }, ty', pos, af, g⟩ = some true) (hs : ev L s = some v) (hx : ev L x = some u)
    (h : ∀ a w v' cs', Reps ty R cs' zs → St M w0 w R (.rowM e size v' zs.length cs' :: O) → Kn n a ((dd, v') :: L) → wpList P ops Q rest a w) :
    wpList P ops Q (⟨some dd, .call { callee := .builtin .append, args := #[s, x], argTypes := #[t, t] }, ty', pos, af, g⟩ :: rest) a w := by
  subst hm; subst hty
  obtain ⟨hb, hzs⟩ := apd_some hz
  obtain ⟨ad, cap, ds, rfl, _, hds, hsrc⟩ := hu.cells
  obtain ⟨v', w', hr, hS'⟩ := run_appendM (tt := ty') (c := cap) (news := ds) (ad := ad) hE hB hS hds.length hds.one hb (fun hk => by
    obtain ⟨b, o, h1, h2⟩ := hsrc (by intro e; subst e; exact hk rfl)
    exact ⟨b, o, h1, fun j u hu => hS.rcell (h2 j u hu)⟩)
  refine slw hK hd hw rfl (append_op hK hs hx hr) fun a' hK' => h a' w' v' (cs ++ ds) (by rw [hzs]; exact hcs.append hds) ?_ hK'
  rw [hzs, List.length_append]
  exact hS'
theorem sl_append_ML {dd : Nat} {s x : Operand} {t e size bytes : Nat} {v : Value} {m k b : Nat} {t' : TypeId} {cs ds : List Value} {xs ys zs : List α} (hE : ElT P t e size bytes) (hB : 1 ≤ bytes) (hty : ty.n = size) (hcs : Reps ty R cs xs) (hm : m = xs.length) (hds : Reps ty R ds ys) (hk : k = ys.length) (hz : apd bytes xs ys = some zs)
    (hS : St M w0 w R (.rowM e size v m cs :: .cells b ds t' :: O)) (hK : Kn n a L) (hd : dd < n.n) (hw : wantedL ops L ⟨some dd, .call { callee := .builtin .append, args := #[s, x], argTypes := #[t, t] }, ty', pos, af, g⟩ = some true) (hs : ev L s = some v) (hx : ev L x = some (.slice (some ⟨b, 0, none⟩) k k))
    (h : ∀ a w v' cs', Reps ty R cs' zs → St M w0 w R (.rowM e size v' zs.length cs' :: O) → Kn n a ((dd, v') :: L) → wpList P ops Q rest a w) :
    wpList P ops Q (⟨some dd, .call { callee := .builtin .append, args := #[s, x], argTypes := #[t, t] }, ty', pos, af, g⟩ :: rest) a w := by
  subst hm; subst hty; subst hk
  obtain ⟨hb, hzs⟩ := apd_some hz
  obtain ⟨v', w', hr, hS'⟩ := run_appendM (tt := ty') (c := ys.length) (news := ds) (ad := some ⟨b, 0, none⟩) hE hB hS hds.length hds.one hb (fun hk => ⟨b, 0, rfl, fun j u hu => by
    rw [Nat.zero_add]; exact hS.cell (.tail _ (.head _)) hu⟩)
  refine slw hK hd hw rfl (append_op hK hs hx hr) fun a' hK' => h a' w' v' (cs ++ ds) (by rw [hzs]; exact hcs.append hds) ?_ hK'
  rw [hzs, List.length_append]
  exact hS'.drop1
theorem bytesRow_take (s : ByteArray) (cap : Nat) : (bytesRow s cap).toList.take (s.size * 1) = Lib.strCells s := by
  have e : (s.data.map (fun b => Value.int .u8 b.toNat)).toList = Lib.strCells s := by simp [Lib.strCells]
  have hl : (Lib.strCells s).length = s.size * 1 := by rw [Lib.strCells_length, Nat.mul_one]
  rw [bytesRow, Array.toList_append, e, ← hl, List.take_left]
theorem sl_conv_sbM {dd src dst e : Nat} {x : Operand} {ty' : TypeId} {s : ByteArray} (hs : P.underlying src = some .string) (hd' : P.underlying dst = some (.slice e)) (he : P.underlying e = some (.int .u8)) (hsz : (sbytes s).length * 1 ≤ 140737488355328) (hS : St M w0 w R O) (hK : Kn n a L) (hd : dd < n.n)
    (hw : wantedL ops L ⟨some dd, .convert src dst x, ty', pos, af, g⟩ = some true) (hx : ev L x = some (.string s))
    (h : ∀ a w v cs, Reps (tyInt .u8) R cs (sbytes s) → St M w0 w R (.rowM e 1 v (sbytes s).length cs :: O) → Kn n a ((dd, v) :: L) → wpList P ops Q rest a w) : wpList P ops Q (⟨some dd, .convert src dst x, ty', pos, af, g⟩ :: rest) a w := by
  have hr := run_bytes_of_string (P := P) w src dst e s hs hd' he
  have hlen : (sbytes s).length = s.size := by simp [sbytes]
  have hge := grownCap_ge w s.size 0 e
  have h0 := (hS.drew (w.drawn + 1) (Nat.le_succ _)).new (.rowM e 1 (.slice (some ⟨w.heap.size, 0, none⟩) s.size (grownCap w s.size 0 e)) (sbytes s).length (Lib.strCells s)) (.cells (bytesRow s (grownCap w s.size 0 e)) e ((bytesRow s (grownCap w s.size 0 e)).size, (bytesRow s (grownCap w s.size 0 e)).size + 1)) ⟨by rw [Lib.strCells_length, hlen, Nat.mul_one], w.heap.size, _, _, _, by rw [hlen], heap_alloc_new w.drew _, fun i hi h => by simp only at h; omega, by rw [hlen]; exact hge, grownCap_le_maxLen w _ 0 e (by simp only [maxLen]; omega), by
      have : s.data.size = s.size := rfl
      simp [bytesRow, this]; omega, by rw [hlen]; exact bytesRow_take s _⟩ (fun k h => (Option.some.inj h).symm)
  exact slw hK hd hw rfl (by simp [execOp, hK.ev hx, hr]) fun a' hK' => h a' _ _ _ (reps_str s) h0 hK'
theorem r_conv_bM {s t e : TypeId} {x : Operand} {v : Value} {xs : List Int} {et m : Nat} {cs : List Value} (hs : P.underlying s = some (.slice e)) (ht : P.underlying t = some .string) (he : P.underlying e = some (.int .u8)) (hcs : Reps (tyInt .u8) R cs xs) (hm : m = xs.length) (hS : St M w0 w R O) (hmem : Own.rowM et 1 v m cs ∈ O) (hK : Kn n a L) (hx : ev L x = some v) : Runs P w a ⟨d, .convert s t x, ty', pos, af, g⟩ (.string (bstr xs)) := by
  have := reps_u8 hcs
  subst this; subst hm
  obtain ⟨h1, b, cap, cur, fz, rfl, hg, _, hnc, _, hcz, htake⟩ := hS.own _ hmem
  refine r_conv_cells hs ht he rfl (fun hne => ⟨b, 0, rfl, fun j u hu => ?_⟩) hK hx
  rw [Nat.zero_add, cell_of_row w b j cur et fz hg]
  rw [← htake, List.getElem?_take] at hu
  split at hu
  · simpa using hu
  · cases hu
end
end Go.Eng
end
section
namespace Go.Eng
open Go.RowKit Go.MapKept
set_option linter.unusedVariables false
set_option linter.unusedSimpArgs false
section
variable {α : Type} {ty : Ty α}
variable {P : Program} {ops : Array Oper} {Q : Exit → Act → World → Prop} {a : Act} {w0 w : World} {M : List Own} {R : Hp} {O : List Own} {rest : List Oper} {n : Fr} {L : Sl}
variable {d : Option Tmp} {ty' : TypeId} {pos : String} {af : Array Edge} {g : Option (Nat × Bool)}
end
structure MRow (κ : Type) where
  k : κ
  v : Value
  n : Nat
  cs : List Value
section
variable {κ α : Type} [DecidableEq κ] {ty : Ty α} {fk : κ → Value}
def mkp (E : List (MRow κ)) : List (κ × Value) := E.map fun e => (e.k, e.v)
inductive MRel (ty : Ty α) (R : Hp) : List (MRow κ) → List (κ × List α) → Prop
  | nil : MRel ty R [] []
  | cons {e : MRow κ} {E : List (MRow κ)} {p : κ × List α} {m : List (κ × List α)} (h1 : e.k = p.1) (h2 : e.n = p.2.length) (h3 : Reps ty R e.cs p.2) (h : MRel ty R E m) : MRel ty R (e :: E) (p :: m)
omit [DecidableEq κ] in
theorem MRel.mono {R R' : Hp} {E : List (MRow κ)} {m : List (κ × List α)} (h : MRel ty R E m) (hR : R.le R') : MRel ty R' E m := by
  induction h with
  | nil => exact .nil
  | cons h1 h2 h3 _ ih => exact .cons h1 h2 (h3.mono hR) ih
def rset : List (MRow κ) → MRow κ → List (MRow κ)
  | [], x => [x]
  | e :: E, x => if e.k = x.k then x :: E else e :: rset E x
def mhd (E : List (MRow κ)) (k : κ) : Value := (mget (mkp E) k).getD (.slice none 0 0)
theorem MRel.set {R : Hp} {E : List (MRow κ)} {m : List (κ × List α)} (h : MRel ty R E m) {x : MRow κ} {ys : List α} (hn : x.n = ys.length) (hr : Reps ty R x.cs ys) : MRel ty R (rset E x) (mset m x.k ys) := by
  induction h with
  | nil => exact .cons rfl hn hr .nil
  | cons h1 h2 h3 h ih =>
    simp only [rset, mset]
    rename_i e E p m
    by_cases hk : e.k = x.k
    · rw [if_pos hk, if_pos (h1 ▸ hk)]
      exact .cons rfl hn hr h
    · rw [if_neg hk, if_neg (h1 ▸ hk)]
      exact .cons h1 h2 h3 ih
end
section
variable {κ α : Type} [DecidableEq κ] {ty : Ty α} {fk : κ → Value} {kd : TypeDesc}
variable {P : Program} {ops : Array Oper} {Q : Exit → Act → World → Prop} {a : Act} {w0 w : World} {M : List Own} {R : Hp} {O : List Own} {rest : List Oper} {n : Fr} {L : Sl}
variable {d : Option Tmp} {ty' : TypeId} {pos : String} {af : Array Edge} {g : Option (Nat × Bool)}
def MRd (ty : Ty α) (R : Hp) (E : List (MRow κ)) (m : List (κ × List α)) : Prop := ∀ k, SlR ty R (mhd E k) ((mget m k).getD [])
theorem MRd.mono {R R' : Hp} {E : List (MRow κ)} {m : List (κ × List α)} (h : MRd ty R E m) (hR : R.le R') : MRd ty R' E m := fun k => (h k).mono hR
end
end Go.Eng
end
section
namespace Go.Eng
open Go.RowKit
set_option linter.unusedVariables false
set_option linter.unusedSimpArgs false
structure RowE where
  v : Value
  n : Nat
  cs : List Value
def hds (E : List RowE) : List Value := E.map (·.v)
theorem SlB.ix {α : Type} {ty : Ty α} {RA R : Hp} {v : Value} {xs : List α} (h : SlB ty RA R v xs) {i : Int} {x : α} (hx : Eng.ix xs i = some x) :
    ∃ b o c cs, v = .slice (some ⟨b, o, none⟩) xs.length c ∧ ty.rep R cs x ∧ (∀ j u, cs[j]? = some u → RA.cell b (o + i.toNat * ty.n + j) = some u) ∧ 0 ≤ i ∧ i < (xs.length : Int) := by
  obtain ⟨h0, h1, h2⟩ := ix_some hx
  obtain ⟨ad, cap, cs, e, _, hr, h3⟩ := h
  have hne : xs ≠ [] := by intro e; subst e; simp at h2
  obtain ⟨b, o, h4, h5⟩ := h3 hne
  obtain ⟨c, h6, h7⟩ := hr.get h2
  refine ⟨b, o, cap, c, by rw [e, h4], h6, fun j u hu => ?_, h0, h1⟩
  have := h5 (i.toNat * ty.n + j) u (h7 j u hu)
  rwa [← Nat.add_assoc] at this
section
variable {α : Type} {ty : Ty α}
inductive ORel (ty : Ty α) (R : Hp) : List RowE → List (List α) → Prop
  | nil : ORel ty R [] []
  | cons {e : RowE} {E : List RowE} {xs : List α} {m : List (List α)} (h2 : e.n = xs.length) (h3 : Reps ty R e.cs xs) (h : ORel ty R E m) : ORel ty R (e :: E) (xs :: m)
theorem ORel.mono {R R' : Hp} {E : List RowE} {m : List (List α)} (h : ORel ty R E m) (hR : R.le R') : ORel ty R' E m := by
  induction h with
  | nil => exact .nil
  | cons h2 h3 _ ih => exact .cons h2 (h3.mono hR) ih
theorem ORel.len {R : Hp} {E : List RowE} {m : List (List α)} (h : ORel ty R E m) : E.length = m.length := by
  induction h with
  | nil => rfl
  | cons _ _ _ ih => simp [ih]
theorem ORel.get {R : Hp} {E : List RowE} {m : List (List α)} (h : ORel ty R E m) : ∀ {k : Nat} {xs : List α}, m[k]? = some xs → ∃ e, E[k]? = some e ∧ e.n = xs.length ∧ Reps ty R e.cs xs := by
  induction h with
  | nil => intro k xs h; simp at h
  | cons h2 h3 _ ih =>
    intro k xs hk
    cases k with
    | zero =>
      simp only [List.getElem?_cons_zero, Option.some.injEq] at hk
      subst hk
      exact ⟨_, rfl, h2, h3⟩
    | succ k => simpa using ih (by simpa using hk)
theorem ORel.set {R : Hp} {E : List RowE} {m : List (List α)} (h : ORel ty R E m) {x : RowE} {ys : List α} (hn : x.n = ys.length) (hr : Reps ty R x.cs ys) : ∀ k : Nat, ORel ty R (E.set k x) (m.set k ys) := by
  induction h with
  | nil => intro k; exact .nil
  | cons h2 h3 h ih =>
    intro k
    cases k with
    | zero => exact .cons hn hr h
    | succ k => exact .cons h2 h3 (ih k)
theorem ORel.app {R : Hp} {E : List RowE} {m : List (List α)} (h : ORel ty R E m) {x : RowE} {ys : List α} (hn : x.n = ys.length) (hr : Reps ty R x.cs ys) : ORel ty R (E ++ [x]) (m ++ [ys]) := by
  induction h with
  | nil => exact .cons hn hr .nil
  | cons h2 h3 h ih => exact .cons h2 h3 ih
variable {P : Program} {ops : Array Oper} {Q : Exit → Act → World → Prop} {a : Act} {w0 w : World} {M : List Own} {R : Hp} {O : List Own} {rest : List Oper} {n : Fr} {L : Sl}
variable {d : Option Tmp} {ty' : TypeId} {pos : String} {af : Array Edge} {g : Option (Nat × Bool)}
end
end Go.Eng
end
section
namespace Go.Eng
open Go.RowKit
set_option linter.unusedVariables false
abbrev I6 (x : Int) : Value := .int .i64 x
section
variable {P : Program} {ops : Array Oper} {Q : Exit → Act → World → Prop} {C : World → Prop} {a : Act} {w : World} {rest : List Oper} {n : Fr} {L : Sl} {o : Oper}
theorem zl {d : Nat} {op : Op} {ty : TypeId} {pos : String} {af : Array Edge} {g : Option (Nat × Bool)} {v : Value} (hK : Kn n a L) (hr : Runs P w a ⟨some d, op, ty, pos, af, g⟩ v) (h : ∀ a, Kn n a ((d, v) :: L) → wpList P ops Q rest a w)
    (hd : d < n.n := by decide) (hw : wantedL ops L ⟨some d, op, ty, pos, af, g⟩ = some true := by exact rfl) : wpList P ops Q (⟨some d, op, ty, pos, af, g⟩ :: rest) a w := sl hK hd hw rfl hr h
theorem zw {d : Nat} {op : Op} {ty : TypeId} {pos : String} {af : Array Edge} {g : Option (Nat × Bool)} {v : Value} (hK : Kn n a L) (hw : wantedL ops L ⟨some d, op, ty, pos, af, g⟩ = some true) (hr : Runs P w a ⟨some d, op, ty, pos, af, g⟩ v) (h : ∀ a, Kn n a ((d, v) :: L) → wpList P ops Q rest a w)
    (hd : d < n.n := by decide) : wpList P ops Q (⟨some d, op, ty, pos, af, g⟩ :: rest) a w := sl hK hd hw rfl hr h
theorem zm {d : Nat} {v : Value} {x : Operand} {ty : TypeId} {pos : String} {af : Array Edge} {g : Option (Nat × Bool)} (hK : Kn n a L) (hx : ev L x = some v) (h : ∀ a, Kn n a ((d, v) :: L) → wpList P ops Q rest a w)
    (hd : d < n.n := by decide) (hw : wantedL ops L ⟨some d, .move x, ty, pos, af, g⟩ = some true := by exact rfl) : wpList P ops Q (⟨some d, .move x, ty, pos, af, g⟩ :: rest) a w := sl hK hd hw rfl (r_move hK hx) h
theorem za {d : Nat} {v : Value} {x : Operand} {ty : TypeId} {pos : String} {af : Array Edge} {g : Option (Nat × Bool)} (hK : Kn n a L) (hx : ev L x = some v) (h : ∀ a, Kn n a ((d, v) :: L) → wpList P ops Q rest a w)
    (hd : d < n.n := by decide) (hw : wantedL ops L ⟨some d, .assign x, ty, pos, af, g⟩ = some true := by exact rfl) : wpList P ops Q (⟨some d, .assign x, ty, pos, af, g⟩ :: rest) a w := sl hK hd hw rfl (r_assign hK hx) h
theorem zs {d : Nat} {op : Op} {ty : TypeId} {pos : String} {af : Array Edge} {g : Option (Nat × Bool)} (hK : Kn n a L) (h : ∀ a, Kn n a ((d, undef) :: L) → wpList P ops Q rest a w)
    (hd : d < n.n := by decide) (hw : wantedL ops L ⟨some d, op, ty, pos, af, g⟩ = some false := by exact rfl) : wpList P ops Q (⟨some d, op, ty, pos, af, g⟩ :: rest) a w := sl_skip hK hd hw rfl h
theorem zsw {d : Nat} {op : Op} {ty : TypeId} {pos : String} {af : Array Edge} {g : Option (Nat × Bool)} (hK : Kn n a L) (hw : wantedL ops L ⟨some d, op, ty, pos, af, g⟩ = some false) (h : ∀ a, Kn n a ((d, undef) :: L) → wpList P ops Q rest a w)
    (hd : d < n.n := by decide) : wpList P ops Q (⟨some d, op, ty, pos, af, g⟩ :: rest) a w := sl_skip hK hd hw rfl h
theorem zp {k : Nat} {r : List (Nat × Bool)} {d : Nat} {op : Op} {ty : TypeId} {pos : String} {af : Array Edge} {g : Option (Nat × Bool)} {v : Value} (ho : ops[k]? = some ⟨some d, op, ty, pos, af, g⟩) (hK : Kn n a L) (hr : ∀ w, C w → Runs P w a ⟨some d, op, ty, pos, af, g⟩ v) (h : ∀ a, Kn n a ((d, v) :: L) → wpPar P ops C Q r a w)
    (hd : d < n.n := by decide) (hw : wantedL ops L ⟨some d, op, ty, pos, af, g⟩ = some true := by exact rfl) : wpPar P ops C Q ((k, true) :: r) a w := sp ho hK hd hw rfl hr h
theorem zpw {k : Nat} {r : List (Nat × Bool)} {d : Nat} {op : Op} {ty : TypeId} {pos : String} {af : Array Edge} {g : Option (Nat × Bool)} {v : Value} (ho : ops[k]? = some ⟨some d, op, ty, pos, af, g⟩) (hK : Kn n a L) (hw : wantedL ops L ⟨some d, op, ty, pos, af, g⟩ = some true) (hr : ∀ w, C w → Runs P w a ⟨some d, op, ty, pos, af, g⟩ v) (h : ∀ a, Kn n a ((d, v) :: L) → wpPar P ops C Q r a w)
    (hd : d < n.n := by decide) : wpPar P ops C Q ((k, true) :: r) a w := sp ho hK hd hw rfl hr h
theorem zps {k : Nat} {r : List (Nat × Bool)} {d : Nat} {op : Op} {ty : TypeId} {pos : String} {af : Array Edge} {g : Option (Nat × Bool)} (ho : ops[k]? = some ⟨some d, op, ty, pos, af, g⟩) (hK : Kn n a L) (hw : wantedL ops L ⟨some d, op, ty, pos, af, g⟩ = some false) (h : ∀ a, Kn n a ((d, undef) :: L) → wpPar P ops C Q r a w)
    (hd : d < n.n := by decide) : wpPar P ops C Q ((k, true) :: r) a w := sp_skip ho hK hd hw rfl h
theorem zq {x y : Code} {Q : Exit → Act → World → Prop} (h : x.wp P (Exit.then (y.wp P Q) Q) a w) : (Code.seq x y).wp P Q a w := wp_seq h
theorem zr {id : Nat} {l : List Oper} {Q : Exit → Act → World → Prop} (h : wpList P l.toArray Q l a w) : (Code.region id l.toArray false).wp P Q a w := wp_region_lit h
theorem zn {Q : Exit → Act → World → Prop} (h : Q .normal a w) : wpList P ops Q [] a w := wpList_nil h
theorem zt {Q : Exit → Act → World → Prop} {K : Act → World → Prop} (h : Q .ret a w) : Exit.then K Q .ret a w := h
theorem zb {Q : Exit → Act → World → Prop} {id : Nat} (h : Q .ret a w) : Exit.inBlock id Q .ret a w := h
theorem zo {Q : Exit → Act → World → Prop} (h : Q .ret a w) : Exit.noGoto Q .ret a w := h
theorem zc {α : Type} {F : α → Prop} {x : α} {l : List α} (h : ∀ y ∈ l, F y) (h0 : F x := by exact rfl) : ∀ y ∈ x :: l, F y := all_cons h0 h
theorem zz {α : Type} {F : α → Prop} : ∀ y ∈ ([] : List α), F y := all_nil
theorem bs {α β : Type} {o : Option α} {f : α → Option β} {r : β} (h : o.bind f = some r) : ∃ y, o = some y ∧ f y = some r := bind_some h
theorem z0 {α : Type} {y : α} {l : List α} : y ∈ y :: l := .head _
theorem z1 {α : Type} {x0 y : α} {l : List α} : y ∈ x0 :: y :: l := .tail _ (.head _)
theorem z2 {α : Type} {x0 x1 y : α} {l : List α} : y ∈ x0 :: x1 :: y :: l := .tail _ (.tail _ (.head _))
theorem z3 {α : Type} {x0 x1 x2 y : α} {l : List α} : y ∈ x0 :: x1 :: x2 :: y :: l := .tail _ (.tail _ (.tail _ (.head _)))
theorem z4 {α : Type} {x0 x1 x2 x3 y : α} {l : List α} : y ∈ x0 :: x1 :: x2 :: x3 :: y :: l := .tail _ (.tail _ (.tail _ (.tail _ (.head _))))
theorem z5 {α : Type} {x0 x1 x2 x3 x4 y : α} {l : List α} : y ∈ x0 :: x1 :: x2 :: x3 :: x4 :: y :: l := .tail _ (.tail _ (.tail _ (.tail _ (.tail _ (.head _)))))
theorem z6 {α : Type} {x0 x1 x2 x3 x4 x5 y : α} {l : List α} : y ∈ x0 :: x1 :: x2 :: x3 :: x4 :: x5 :: y :: l := .tail _ (.tail _ (.tail _ (.tail _ (.tail _ (.tail _ (.head _))))))
theorem z7 {α : Type} {x0 x1 x2 x3 x4 x5 x6 y : α} {l : List α} : y ∈ x0 :: x1 :: x2 :: x3 :: x4 :: x5 :: x6 :: y :: l := .tail _ (.tail _ (.tail _ (.tail _ (.tail _ (.tail _ (.tail _ (.head _)))))))
theorem z8 {α : Type} {x0 x1 x2 x3 x4 x5 x6 x7 y : α} {l : List α} : y ∈ x0 :: x1 :: x2 :: x3 :: x4 :: x5 :: x6 :: x7 :: y :: l := .tail _ (.tail _ (.tail _ (.tail _ (.tail _ (.tail _ (.tail _ (.tail _ (.head _))))))))
end
end Go.Eng
end
section
namespace Go.Eng
open Go.RowKit Go.MapKept
set_option linter.unusedVariables false
set_option linter.unusedSimpArgs false
def oel {α β : Type} (o : Option α) (n : β) (f : α → β) : β := match o with
  | none => n
  | some x => f x
theorem oel_none {α β : Type} {o : Option α} {n : β} {f : α → β} (h : o = none) : oel o n f = n := by subst h; rfl
theorem oel_some {α β : Type} {o : Option α} {n : β} {f : α → β} {x : α} (h : o = some x) : oel o n f = f x := by subst h; rfl
def Atom.own : Atom → Own
  | .cells b c t => .cells b c t
  | .row t sz v n xs => .row t sz v n xs
  | .mp b kvs => .mp b kvs
theorem Atom.own_blk {x : Atom} {k : Nat} : x.own.blk k ↔ x.blk k := by cases x <;> exact Iff.rfl
theorem Atom.own_ok {x : Atom} {w : World} : x.own.ok w ↔ x.ok w := by cases x <;> exact Iff.rfl
section
variable {w0 w : World} {M : List Own} {R : Hp} {O : List Own} {l l' : List Atom} {x : Atom}
theorem St.many_out (h : St M w0 w R (.many (x :: l) :: O)) : St M w0 w R (x.own :: .many l :: O) := by
  have ho := h.own (.many (x :: l)) (List.mem_cons_self ..)
  have hb := h.base (.many (x :: l)) (List.mem_cons_self ..)
  have hs := List.pairwise_cons.1 h.sep
  have hx := List.pairwise_cons.1 ho.2
  refine ⟨h.bel, h.sub, all_cons (Atom.own_ok.2 (ho.1 x (List.mem_cons_self ..))) (all_cons ⟨fun y hy => ho.1 y (List.mem_cons_of_mem _ hy), hx.2⟩ fun y hy => h.own y (List.mem_cons_of_mem _ hy)),
    all_cons (fun b hbb => hb b ⟨x, List.mem_cons_self .., Atom.own_blk.1 hbb⟩) (all_cons (fun b ⟨y, hy, hyb⟩ => hb b ⟨y, List.mem_cons_of_mem _ hy, hyb⟩) fun y hy => h.base y (List.mem_cons_of_mem _ hy)),
    List.Pairwise.cons (fun y hy b hbb hyb => ?_) (List.Pairwise.cons (fun y hy b ⟨z, hz, hzb⟩ hyb => hs.1 y hy b ⟨z, List.mem_cons_of_mem _ hz, hzb⟩ hyb) hs.2)⟩
  rcases List.mem_cons.1 hy with rfl | hy
  · obtain ⟨z, hz, hzb⟩ := hyb
    exact hx.1 z hz b (Atom.own_blk.1 hbb) hzb
  · exact hs.1 y hy b ⟨x, List.mem_cons_self .., Atom.own_blk.1 hbb⟩ hyb
theorem St.many_in (h : St M w0 w R (x.own :: .many l :: O)) : St M w0 w R (.many (x :: l) :: O) := by
  have h1 := h.own x.own (List.mem_cons_self ..)
  have h2 := h.own (.many l) (List.mem_cons_of_mem _ (List.mem_cons_self ..))
  have b1 := h.base x.own (List.mem_cons_self ..)
  have b2 := h.base (.many l) (List.mem_cons_of_mem _ (List.mem_cons_self ..))
  have hs := List.pairwise_cons.1 h.sep
  have hs2 := List.pairwise_cons.1 hs.2
  refine ⟨h.bel, h.sub, all_cons ⟨all_cons (Atom.own_ok.1 h1) h2.1, List.Pairwise.cons (fun y hy k hxk hyk => hs.1 (.many l) (List.mem_cons_self ..) k (Atom.own_blk.2 hxk) ⟨y, hy, hyk⟩) h2.2⟩ fun y hy => h.own y (List.mem_cons_of_mem _ (List.mem_cons_of_mem _ hy)),
    all_cons (fun b ⟨y, hy, hyb⟩ => ?_) fun y hy => h.base y (List.mem_cons_of_mem _ (List.mem_cons_of_mem _ hy)), List.Pairwise.cons (fun y hy b ⟨z, hz, hzb⟩ hyb => ?_) hs2.2⟩
  · rcases List.mem_cons.1 hy with rfl | hy
    · exact b1 b (Atom.own_blk.2 hyb)
    · exact b2 b ⟨y, hy, hyb⟩
  · rcases List.mem_cons.1 hz with rfl | hz
    · exact hs.1 y (List.mem_cons_of_mem _ hy) b (Atom.own_blk.2 hzb) hyb
    · exact hs2.1 y hy b ⟨z, hz, hzb⟩ hyb
theorem St.many_nil (h : St M w0 w R O) : St M w0 w R (.many [] :: O) :=
  ⟨h.bel, h.sub, all_cons ⟨fun x hx => (by cases hx), List.Pairwise.nil⟩ h.own, all_cons (fun b ⟨y, hy, _⟩ => (by cases hy)) h.base, List.Pairwise.cons (fun y _ b ⟨z, hz, _⟩ => (by cases hz)) h.sep⟩
theorem St.many_as (h : St M w0 w R (.many l :: O)) (hm : ∀ x ∈ l', x ∈ l) (hp : l'.Pairwise fun x y => ∀ k, x.blk k → ¬ y.blk k) : St M w0 w R (.many l' :: O) := by
  have ho := h.own (.many l) (List.mem_cons_self ..)
  have hb := h.base (.many l) (List.mem_cons_self ..)
  have hs := List.pairwise_cons.1 h.sep
  exact ⟨h.bel, h.sub, all_cons ⟨fun y hy => ho.1 y (hm y hy), hp⟩ fun y hy => h.own y (List.mem_cons_of_mem _ hy), all_cons (fun b ⟨y, hy, hyb⟩ => hb b ⟨y, hm y hy, hyb⟩) fun y hy => h.base y (List.mem_cons_of_mem _ hy),
    List.Pairwise.cons (fun y hy b ⟨z, hz, hzb⟩ hyb => hs.1 y hy b ⟨z, hm z hz, hzb⟩ hyb) hs.2⟩
theorem St.many_perm (h : St M w0 w R (.many l :: O)) (hp : l.Perm l') : St M w0 w R (.many l' :: O) :=
  h.many_as (fun x hx => hp.mem_iff.2 hx) ((hp.pairwise_iff (R := fun x y : Atom => ∀ k, x.blk k → ¬ y.blk k) (fun hxy k hy hx => hxy k hx hy)).1 (h.own (.many l) (List.mem_cons_self ..)).2)
theorem St.many_sub (h : St M w0 w R (.many l :: O)) (hs : l'.Sublist l) : St M w0 w R (.many l' :: O) :=
  h.many_as (fun x hx => hs.subset hx) ((h.own (.many l) (List.mem_cons_self ..)).2.sublist hs)
end
structure MB (κ : Type) where
  k : κ
  b : Nat
  v : Value
  n : Nat
  cs : List Value
section
variable {κ α β : Type} [DecidableEq κ] {ty : Ty α} {fk : κ → Value} {kd : TypeDesc} {pr : β → List α} {tb et sz : Nat}
def bptr (b : Nat) : Value := .pointer (some ⟨b, 0, none⟩)
def mbp (E : List (MB κ)) : List (κ × Value) := E.map fun e => (e.k, bptr e.b)
def mba (tb et sz : Nat) (E : List (MB κ)) : List Atom := E.flatMap fun e => [.cells e.b [e.v] tb, .row et sz e.v e.n e.cs]
def bdel : List (MB κ) → κ → List (MB κ)
  | [], _ => []
  | e :: E, k => if e.k = k then E else e :: bdel E k
def bset : List (MB κ) → MB κ → List (MB κ)
  | [], x => [x]
  | e :: E, x => if e.k = x.k then x :: E else e :: bset E x
def bhd (E : List (MB κ)) (k : κ) : Value := (mget (mbp E) k).getD (.pointer none)
theorem bhd_of {E : List (MB κ)} {k : κ} {b : Nat} (h : mget (mbp E) k = some (bptr b)) : bhd E k = .pointer (some ⟨b, 0, none⟩) := by unfold bhd; rw [h]; rfl
inductive MBel (ty : Ty α) (pr : β → List α) (R : Hp) : List (MB κ) → List (κ × β) → Prop
  | nil : MBel ty pr R [] []
  | cons {e : MB κ} {E : List (MB κ)} {p : κ × β} {m : List (κ × β)} (h1 : e.k = p.1) (h2 : e.n = (pr p.2).length) (h3 : Reps ty R e.cs (pr p.2)) (h : MBel ty pr R E m) : MBel ty pr R (e :: E) (p :: m)
omit [DecidableEq κ] in
theorem MBel.mono {R R' : Hp} {E : List (MB κ)} {m : List (κ × β)} (h : MBel ty pr R E m) (hR : R.le R') : MBel ty pr R' E m := by
  induction h with
  | nil => exact .nil
  | cons h1 h2 h3 _ ih => exact .cons h1 h2 (h3.mono hR) ih
theorem mset_same {ν : Type} {m : List (κ × ν)} {k : κ} {v : ν} (h : mget m k = some v) : mset m k v = m := by
  induction m with
  | nil => simp [mget] at h
  | cons p r ih =>
    simp only [mget] at h
    simp only [mset]
    by_cases e : p.1 = k
    · rw [if_pos e] at h ⊢
      obtain rfl := Option.some.inj h
      cases p; simp_all
    · rw [if_neg e] at h ⊢
      rw [ih h]
theorem mbp_bset (E : List (MB κ)) (x : MB κ) : mbp (bset E x) = mset (mbp E) x.k (bptr x.b) := by
  induction E with
  | nil => rfl
  | cons e E ih =>
    unfold mbp at *
    simp only [bset, List.map_cons, mset]
    by_cases h : e.k = x.k
    · simp [h]
    · simp [h, ih]
theorem mba_bset (E : List (MB κ)) (x : MB κ) : (mba tb et sz (bset E x)).Perm (.cells x.b [x.v] tb :: .row et sz x.v x.n x.cs :: mba tb et sz (bdel E x.k)) := by
  induction E with
  | nil => exact List.Perm.refl _
  | cons e E ih =>
    unfold mba at *
    simp only [bset, bdel]
    by_cases h : e.k = x.k
    · simp [h]
    · simp only [if_neg h, List.flatMap_cons]
      refine (ih.append_left _).trans ?_
      show ([_, _] ++ [_, _] ++ _ : List Atom).Perm ([_, _] ++ [_, _] ++ _)
      exact (List.perm_append_comm).append_right _
theorem mba_del (E : List (MB κ)) (k : κ) : (mba tb et sz (bdel E k)).Sublist (mba tb et sz E) := by
  induction E with
  | nil => exact List.Sublist.refl _
  | cons e E ih =>
    unfold mba at *
    simp only [bdel]
    by_cases h : e.k = k
    · simp only [if_pos h, List.flatMap_cons]
      exact List.sublist_append_right _ _
    · simp only [if_neg h, List.flatMap_cons]
      exact ih.append_left _
theorem MBel.set {R : Hp} {E : List (MB κ)} {m : List (κ × β)} (h : MBel ty pr R E m) {x : MB κ} {y : β} (hn : x.n = (pr y).length) (hr : Reps ty R x.cs (pr y)) : MBel ty pr R (bset E x) (mset m x.k y) := by
  induction h with
  | nil => exact .cons rfl hn hr .nil
  | cons h1 h2 h3 h ih =>
    simp only [bset, mset]
    rename_i e E p m
    by_cases hk : e.k = x.k
    · rw [if_pos hk, if_pos (h1 ▸ hk)]
      exact .cons rfl hn hr h
    · rw [if_neg hk, if_neg (h1 ▸ hk)]
      exact .cons h1 h2 h3 ih
theorem MBel.get {R : Hp} {E : List (MB κ)} {m : List (κ × β)} (h : MBel ty pr R E m) {k : κ} {x : β} (hm : mget m k = some x) : ∃ b v cs, (mba tb et sz E).Perm (.cells b [v] tb :: .row et sz v (pr x).length cs :: mba tb et sz (bdel E k)) ∧ Reps ty R cs (pr x) ∧ mget (mbp E) k = some (bptr b) := by
  induction h with
  | nil => simp [mget] at hm
  | cons h1 h2 h3 h ih =>
    rename_i e E p m
    simp only [mget] at hm
    by_cases hk : e.k = k
    · rw [if_pos (h1 ▸ hk)] at hm
      obtain rfl := Option.some.inj hm
      refine ⟨e.b, e.v, e.cs, ?_, h3, by simp [mbp, mget, hk]⟩
      simp only [bdel, if_pos hk, mba, List.flatMap_cons, ← h2]
      exact List.Perm.refl _
    · rw [if_neg (h1 ▸ hk)] at hm
      obtain ⟨b, v, cs, g1, g2, g3⟩ := ih hm
      refine ⟨b, v, cs, ?_, g2, by simp only [mbp, List.map_cons, mget]; rw [if_neg hk]; exact g3⟩
      simp only [bdel, if_neg hk]
      unfold mba at *
      simp only [List.flatMap_cons]
      refine (g1.append_left _).trans ?_
      show ([_, _] ++ [_, _] ++ _ : List Atom).Perm ([_, _] ++ [_, _] ++ _)
      exact (List.perm_append_comm).append_right _
theorem MBel.none {R : Hp} {E : List (MB κ)} {m : List (κ × β)} (h : MBel ty pr R E m) (k : κ) : (mget (mbp E) k).isSome = (mget m k).isSome := by
  induction h with
  | nil => rfl
  | cons h1 h2 h3 h ih =>
    rename_i e E p m
    simp only [mbp, List.map_cons, mget]
    by_cases hk : e.k = k
    · rw [if_pos hk, if_pos (h1 ▸ hk)]; rfl
    · rw [if_neg hk, if_neg (h1 ▸ hk)]; exact ih
variable {w0 w : World} {M : List Own} {R : Hp} {O : List Own}
def mbo (mb : Nat) (kv : List (Value × Value)) (tb et sz : Nat) (E : List (MB κ)) : Own := .many (.mp mb kv :: mba tb et sz E)
omit [DecidableEq κ] in
theorem St.bmk {mb : Nat} (fk : κ → Value) (tb et sz : Nat) (h : St M w0 w R (.mp mb [] :: O)) : St M w0 w R (mbo mb (kvs fk id (mbp ([] : List (MB κ)))) tb et sz ([] : List (MB κ)) :: O) := by
  have h1 : St M w0 w R (.many [] :: .mp mb [] :: O) := h.many_nil
  exact St.many_in (x := .mp mb []) (h1.perm (List.Perm.swap ..))
theorem St.btake {mb : Nat} {kv : List (Value × Value)} {E : List (MB κ)} {m : List (κ × β)} (hr : MBel ty pr R E m) {k : κ} {x : β} (hm : mget m k = some x) (h : St M w0 w R (mbo mb kv tb et sz E :: O)) :
    ∃ b v cs, St M w0 w R (.cells b [v] tb :: .row et sz v (pr x).length cs :: mbo mb kv tb et sz (bdel E k) :: O) ∧ Reps ty R cs (pr x) ∧ mget (mbp E) k = some (bptr b) := by
  obtain ⟨b, v, cs, g1, g2, g3⟩ := hr.get (tb := tb) (et := et) (sz := sz) hm
  refine ⟨b, v, cs, ?_, g2, g3⟩
  have h1 : St M w0 w R (.many (.mp mb kv :: mba tb et sz E) :: O) := h
  have p : (.mp mb kv :: mba tb et sz E : List Atom).Perm (.cells b [v] tb :: .row et sz v (pr x).length cs :: .mp mb kv :: mba tb et sz (bdel E k)) := by
    refine (g1.cons _).trans ?_
    show ([_] ++ [_, _] ++ _ : List Atom).Perm ([_, _] ++ [_] ++ _)
    exact (List.perm_append_comm).append_right _
  have h2 := (h1.many_perm p).many_out
  have h3 : St M w0 w R (.many (.row et sz v (pr x).length cs :: .mp mb kv :: mba tb et sz (bdel E k)) :: .cells b [v] tb :: O) := h2.perm (List.Perm.swap ..)
  have h4 := h3.many_out
  refine h4.perm ?_
  show ([_, _, _] ++ _ : List Own).Perm ([_, _, _] ++ _)
  refine List.Perm.append_right _ ?_
  show ([_, _] ++ [_] : List Own).Perm ([_] ++ [_, _])
  exact List.perm_append_comm
theorem bput_aux {mb : Nat} {kv : List (Value × Value)} {A : List Atom} {b nn : Nat} {v : Value} {cs : List Value} (h : St M w0 w R (.cells b [v] tb :: .row et sz v nn cs :: .many (.mp mb kv :: A) :: O)) : St M w0 w R (.many (.mp mb kv :: .cells b [v] tb :: .row et sz v nn cs :: A) :: O) := by
  have h1 : St M w0 w R (.row et sz v nn cs :: .many (.mp mb kv :: A) :: .cells b [v] tb :: O) := h.perm (by
    show ([_] ++ [_, _] ++ _ : List Own).Perm ([_, _] ++ [_] ++ _)
    exact (List.perm_append_comm).append_right _)
  have h2 := St.many_in (x := .row et sz v nn cs) h1
  have h3 := St.many_in (x := .cells b [v] tb) (h2.perm (List.Perm.swap ..))
  refine h3.many_perm ?_
  show ([_, _] ++ [_] ++ _ : List Atom).Perm ([_] ++ [_, _] ++ _)
  exact (List.perm_append_comm).append_right _
theorem St.bput {mb b nn : Nat} {v : Value} {cs : List Value} {E : List (MB κ)} {m : List (κ × β)} {k : κ} {y : β} (hr : MBel ty pr R E m) (hk : mget (mbp E) k = some (bptr b)) (hq : Reps ty R cs (pr y)) (hn : nn = (pr y).length) (h : St M w0 w R (.cells b [v] tb :: .row et sz v nn cs :: mbo mb (kvs fk id (mbp E)) tb et sz (bdel E k) :: O)) :
    ∃ E', St M w0 w R (mbo mb (kvs fk id (mbp E')) tb et sz E' :: O) ∧ MBel ty pr R E' (mset m k y) := by
  refine ⟨bset E ⟨k, b, v, nn, cs⟩, ?_, hr.set (x := ⟨k, b, v, nn, cs⟩) hn hq⟩
  rw [mbp_bset, show mset (mbp E) (⟨k, b, v, nn, cs⟩ : MB κ).k (bptr (⟨k, b, v, nn, cs⟩ : MB κ).b) = mbp E from mset_same hk]
  have h1 := bput_aux (A := mba tb et sz (bdel E k)) h
  exact h1.many_perm ((mba_bset E ⟨k, b, v, nn, cs⟩).symm.cons _)
theorem St.bnew {mb b nn : Nat} {v : Value} {cs : List Value} {E : List (MB κ)} {m : List (κ × β)} {k : κ} {y : β} {fv : Value → Value} (hfv : fv = id) (hr : MBel ty pr R E m) (hq : Reps ty R cs (pr y)) (hn : nn = (pr y).length) (h : St M w0 w R (.mp mb (kvs fk fv (mset (mbp E) k (bptr b))) :: .many (mba tb et sz E) :: .cells b [v] tb :: .row et sz v nn cs :: O)) :
    ∃ E', St M w0 w R (mbo mb (kvs fk id (mbp E')) tb et sz E' :: O) ∧ MBel ty pr R E' (mset m k y) := by
  subst hfv
  refine ⟨bset E ⟨k, b, v, nn, cs⟩, ?_, hr.set (x := ⟨k, b, v, nn, cs⟩) hn hq⟩
  rw [mbp_bset]
  have h0 : St M w0 w R (.many (mba tb et sz E) :: .mp mb (kvs fk id (mset (mbp E) k (bptr b))) :: .cells b [v] tb :: .row et sz v nn cs :: O) := h.perm (List.Perm.swap ..)
  have h1 := St.many_in (x := .mp mb (kvs fk id (mset (mbp E) k (bptr b)))) ((h0.many_sub (mba_del E k)).perm (List.Perm.swap ..))
  have h2 : St M w0 w R (.cells b [v] tb :: .row et sz v nn cs :: .many (.mp mb (kvs fk id (mset (mbp E) k (bptr b))) :: mba tb et sz (bdel E k)) :: O) := h1.perm (by
    show ([_] ++ [_, _] ++ _ : List Own).Perm ([_, _] ++ [_] ++ _)
    exact (List.perm_append_comm).append_right _)
  exact (bput_aux h2).many_perm ((mba_bset E ⟨k, b, v, nn, cs⟩).symm.cons _)
omit [DecidableEq κ] in
theorem St.bopen {mb : Nat} {kv : List (Value × Value)} {E : List (MB κ)} (h : St M w0 w R (mbo mb kv tb et sz E :: O)) : St M w0 w R (.mp mb kv :: .many (mba tb et sz E) :: O) := St.many_out (x := .mp mb kv) h
section
variable {P : Program} {a : Act} {n : Fr} {L : Sl} {d : Option Tmp} {ty' : TypeId} {pos : String} {af : Array Edge} {g : Option (Nat × Bool)}
theorem r_lookup_B {mp key : Operand} {t kt et' : TypeId} {b : Nat} {E E' : List (MB κ)} {x : κ} (hm : P.underlying t = some (.map kt et')) (hd : P.underlying kt = some kd) (hk : KeyT kd fk) (hz : ∀ w, (zeroValue et').run P w = .ok (.pointer none) w)
    (hS : St M w0 w R O) (hmem : mbo b (kvs fk id (mbp E)) tb et sz E' ∈ O) (hK : Kn n a L) (hx : ev L mp = some (.map (some b))) (hy : ev L key = some (fk x)) :
    Runs P w a ⟨d, .lookup t mp key false, ty', pos, af, g⟩ (bhd E x) := by
  obtain ⟨es, cl, hb, he⟩ := (hS.own _ hmem).1 (.mp b (kvs fk id (mbp E))) (List.mem_cons_self ..)
  exact r_lookup (m := mbp E) (fv := id) (z := .pointer none) hm hd hk hz hb he rfl hK hx hy
theorem eq_pnn' {t e : TypeId} {w : World} (hu : P.underlying t = some (.pointer e)) (dd : Nat) : (Op.equalIn (dd + 1) t (.pointer none) (.pointer none)).run P w = .ok true w := by
  simp [Op.equalIn, run_underlying hu]
theorem eq_pnn {t e : TypeId} {w : World} (hu : P.underlying t = some (.pointer e)) : (Op.equal t (.pointer none) (.pointer none)).run P w = .ok true w := eq_pnn' hu 9999
theorem r_pnn {t t' e : TypeId} {x y : Operand} {w : World} (hu : P.underlying t = some (.pointer e)) (hK : Kn n a L) (hx : ev L x = some (.pointer none)) (hy : ev L y = some (.pointer none)) : Runs P w a ⟨d, .binOp .eql t x y t', ty', pos, af, g⟩ (.bool true) := by
  simp [Runs, execOp, hK.ev hx, hK.ev hy, eqGuard, binOp, eq_pnn hu]
theorem r_bnil {t t' e : TypeId} {x y : Operand} {E : List (MB κ)} {m : List (κ × β)} {k : κ} (hr : MBel ty pr R E m) (hu : P.underlying t = some (.pointer e)) (hK : Kn n a L) (hx : ev L x = some (bhd E k)) (hy : ev L y = some (.pointer none)) : Runs P w a ⟨d, .binOp .eql t x y t', ty', pos, af, g⟩ (.bool (!(mget m k).isSome)) := by
  rw [← hr.none k]
  unfold bhd at hx
  cases hg : mget (mbp E) k with
  | none =>
    rw [hg] at hx
    have hx : ev L x = some (.pointer none) := hx
    simp [Runs, execOp, hK.ev hx, hK.ev hy, eqGuard, binOp, eq_pnn hu]
  | some v =>
    rw [hg] at hx
    have : ∃ b, v = bptr b := by
      have : (k, v) ∈ mbp E ∨ True := Or.inr trivial
      clear this
      have key : ∀ {E : List (MB κ)}, mget (mbp E) k = some v → ∃ b, v = bptr b := by
        intro E
        induction E with
        | nil => intro h; simp [mbp, mget] at h
        | cons e E ih =>
          intro h
          simp only [mbp, List.map_cons, mget] at h
          split at h
          · exact ⟨e.b, (Option.some.inj h).symm⟩
          · exact ih h
      exact key hg
    obtain ⟨b, rfl⟩ := this
    exact r_peq hu hK hx hy
end
end
end Go.Eng
end
