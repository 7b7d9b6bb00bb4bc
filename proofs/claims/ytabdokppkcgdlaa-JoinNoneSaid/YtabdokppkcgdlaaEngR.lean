/-
  The engine: regions that draw their order. Operations that only read may come up at any time; those that turn the memory stand in one row. One walk of a row of our choosing serves every order.
-/
import Derived.Test.YtabdokppkcgdlaaEng1
import Derived.StillTail
namespace Go.Eng
set_option linter.unusedVariables false
set_option linter.unusedSimpArgs false
section
variable {P : Program} {ops : Array Oper} {md : Region.Mode} {C : World → Prop} {Q : Exit → Act → World → Prop}

/-- Operation i comes up; what it leaves is a world of the class. -/
def parOp (P : Program) (ops : Array Oper) (C : World → Prop) (Q : Exit → Act → World → Prop) (i : Nat) (K : Act → World → Prop) (a : Act) (w : World) : Prop :=
  match ops[i]? with
  | none => K a w
  | some o => if Region.wanted o (yielded ops a.tmps) then o.wp P a w (fun a' w' => C w' ∧ K a' w') Q else K (a.put o.dst undef) w
def wpAnyP (P : Program) (md : Region.Mode) (ops : Array Oper) (C : World → Prop) (Q : Exit → Act → World → Prop) : Nat → Array Bool → Act → World → Prop
  | 0, listed, a, w => Region.ready md ops listed = [] ∧ Q .normal a w
  | f + 1, listed, a, w => (Region.ready md ops listed = [] → Q .normal a w) ∧ ∀ i ∈ Region.ready md ops listed, parOp P ops C Q i (wpAnyP P md ops C Q f (listed.setIfInBounds i true)) a w
theorem parOp_mono {i : Nat} {a : Act} {w : World} {K K' : Act → World → Prop} (h : ∀ a w, K a w → K' a w) (hh : parOp P ops C Q i K a w) : parOp P ops C Q i K' a w := by
  unfold parOp at *
  split
  · rename_i ho; simp only [ho] at hh; exact h _ _ hh
  · rename_i o ho
    simp only [ho] at hh
    split
    · rename_i hw; simp only [hw, if_true] at hh; exact Oper.wp_mono (fun a w ⟨h1, h2⟩ => ⟨h1, h _ _ h2⟩) hh
    · rename_i hw; simp only [hw] at hh; exact h _ _ hh
theorem wpOp_of_parOp {i : Nat} {a : Act} {w : World} {K K' : Act → World → Prop} (h : ∀ a w, K a w → K' a w) (hh : parOp P ops C Q i K a w) : wpOp P ops Q i K' a w := by
  unfold parOp at hh
  unfold wpOp
  split
  · rename_i ho; simp only [ho] at hh; exact h _ _ hh
  · rename_i o ho
    simp only [ho] at hh
    split
    · rename_i hw; simp only [hw, if_true] at hh; exact .inl (Oper.wp_mono (fun a w ⟨_, h2⟩ => h _ _ h2) hh)
    · rename_i hw; simp only [hw] at hh; exact h _ _ hh
theorem wpAny_of_par : ∀ (f : Nat) (listed : Array Bool) (a : Act) (w : World), wpAnyP P md ops C Q f listed a w → wpAny P md ops Q f listed a w
  | 0, _, _, _, h => h
  | f + 1, _, _, _, h => ⟨h.1, fun i hi => wpOp_of_parOp (fun a w h => wpAny_of_par f _ a w h) (h.2 i hi)⟩

/-- In every world of the class the operation yields this, and leaves the world alone. -/
def YieldsC (P : Program) (ops : Array Oper) (C : World → Prop) (o : Oper) (v : Value) (a : Act) : Prop :=
  (Region.wanted o (yielded ops a.tmps) = true ∧ ∀ w, C w → (execOp a.eval o).run P w = .ok (.value v) w) ∨ (Region.wanted o (yielded ops a.tmps) = false ∧ v = undef)
theorem YieldsC.parOp {i : Nat} {o : Oper} {v : Value} {a : Act} {w : World} (hi : ops[i]? = some o) (hy : YieldsC P ops C o v a) (hC : C w) {K : Act → World → Prop} (h : K (a.put o.dst v) w) : parOp P ops C Q i K a w := by
  unfold Eng.parOp
  simp only [hi]
  rcases hy with ⟨hw, hv⟩ | ⟨hw, rfl⟩
  · simp only [hw, if_true, Oper.wp, hv w hC, Oper.upon]; exact ⟨hC, h⟩
  · simp only [hw, Bool.false_eq_true, if_false]; exact h
theorem YieldsC.of_same {o : Oper} {v : Value} {a a' : Act} (hy : YieldsC P ops C o v a) (he : execOp a'.eval o = execOp a.eval o) (hw : Region.wanted o (yielded ops a'.tmps) = Region.wanted o (yielded ops a.tmps)) : YieldsC P ops C o v a' := by
  unfold YieldsC at *
  rw [he, hw]
  exact hy
theorem parOp_put {j : Nat} {oi oj : Oper} {v : Value} (hj : ops[j]? = some oj) (hap : oi.apart ops oj = true) (hsi : ∀ cs b, oi.op ≠ .select cs b) (hsj : ∀ cs b, oj.op ≠ .select cs b)
    (hQ : ∀ c a w, Q (.panic c) (a.put oi.dst v) w → Q (.panic c) a w) {K : Act → World → Prop} {a : Act} {w : World} (hC : C w)
    (hy : YieldsC P ops C oi v a) (h : parOp P ops C Q j K (a.put oi.dst v) w) : parOp P ops C Q j (fun a' w' => C w' ∧ YieldsC P ops C oi v a' ∧ K (a'.put oi.dst v) w') a w := by
  obtain ⟨h1, h2, h3⟩ := Oper.apart_spec hap
  have keep : ∀ (a : Act), YieldsC P ops C oi v a → ∀ u, YieldsC P ops C oi v (a.put oj.dst u) := fun a hy u => hy.of_same (execOp_put oi hsi a oj.dst u h3) (wanted_put oi a oj.dst u h3)
  have keepD : ∀ d, YieldsC P ops C oi v { a with defers := d :: a.defers } := fun d => hy.of_same rfl rfl
  unfold parOp at *
  simp only [hj] at *
  rw [wanted_put oj a oi.dst v h1] at h
  split
  · rename_i hw
    simp only [hw, if_true] at h
    unfold Oper.wp at *
    rw [execOp_put oj hsj a oi.dst v h1] at h
    generalize (execOp a.eval oj).run P w = r at *
    cases r with
    | ok n w' =>
      cases n <;> simp only [Oper.upon] at h ⊢
      case value u => exact ⟨h.1, h.1, keep a hy u, by rw [← Act.put_comm a v u h2]; exact h.2⟩
      case skip => exact ⟨h.1, h.1, keep a hy _, by rw [← Act.put_comm a v undef h2]; exact h.2⟩
      case defer d =>
        refine ⟨h.1, h.1, keep _ (keepD d) _, ?_⟩
        rw [← Act.put_comm _ v undef h2, ← Act.put_defers]
        exact h.2
      case enter f args =>
        refine Calls.mono h fun e w'' he => ?_
        cases e with
        | returned u => exact ⟨he.1, he.1, keep a hy u, by rw [← Act.put_comm a v u h2]; exact he.2⟩
        | panicked c => exact hQ _ _ _ he
        | outgrown => exact he
      case row row args => exact Rows.mono h fun u w'' he => ⟨he.1, he.1, keep a hy u, by rw [← Act.put_comm a v u h2]; exact he.2⟩
    | halt x w' =>
      cases x <;> simp only [Oper.upon] at h ⊢
      case panic u => exact hQ _ _ _ h
  · rename_i hw
    simp only [hw] at h
    exact ⟨hC, keep a hy _, by rw [← Act.put_comm a v undef h2]; exact h⟩
theorem wpAnyP_first {i : Nat} {oi : Oper} {v : Value} (hi : ops[i]? = some oi) (hsel : ∀ (j : Nat) (o : Oper) cs b, ops[j]? = some o → o.op ≠ .select cs b)
    (hQ : ∀ c a w, Q (.panic c) (a.put oi.dst v) w → Q (.panic c) a w) : ∀ (f : Nat) (listed : Array Bool) (a : Act) (w : World), C w →
      (∀ j oj, ops[j]? = some oj → j ≠ i → listed.getD j true = false → (∀ e ∈ oj.after, Region.binds md e = true → e.on ≠ i) → oi.apart ops oj = true) →
      i ∈ Region.ready md ops listed → YieldsC P ops C oi v a → wpAnyP P md ops C Q f (listed.setIfInBounds i true) (a.put oi.dst v) w → wpAnyP P md ops C Q (f + 1) listed a w := by
  intro f
  induction f with
  | zero =>
    intro listed a w hC _ hr hy H
    refine ⟨fun h => (by rw [h] at hr; cases hr), fun j hj => ?_⟩
    by_cases hji : j = i
    · subst hji; exact hy.parOp hi hC H
    · have := ready_mono hj hji
      rw [H.1] at this
      cases this
  | succ f ih =>
    intro listed a w hC hfree hr hy H
    refine ⟨fun h => (by rw [h] at hr; cases hr), fun j hj => ?_⟩
    by_cases hji : j = i
    · subst hji; exact hy.parOp hi hC H
    · have h1 := H.2 j (ready_mono hj hji)
      obtain ⟨hjun, oj, hoj, hall⟩ := mem_ready.1 hj
      have hnot : ∀ e ∈ oj.after, Region.binds md e = true → e.on ≠ i := fun e he hb heq => by
        have h1 := hall e he hb
        rw [heq, getD_both (mem_ready.1 hr).1] at h1
        cases h1
      have h2 := parOp_put hoj (hfree j oj hoj hji hjun hnot) (fun cs b => hsel i oi cs b hi) (fun cs b => hsel j oj cs b hoj) hQ hC hy h1
      have hfree' : ∀ k ok, ops[k]? = some ok → k ≠ i → (listed.setIfInBounds j true).getD k true = false → (∀ e ∈ ok.after, Region.binds md e = true → e.on ≠ i) → oi.apart ops ok = true := fun k ok hk hki hun hno => by
        refine hfree k ok hk hki ?_ hno
        by_cases hjk : j = k
        · subst hjk; exact hjun
        · rw [getD_set_ne true hjk] at hun; exact hun
      refine parOp_mono (fun a' w' h3 => ih (listed.setIfInBounds j true) a' w' h3.1 hfree' (ready_mono hr (Ne.symm hji)) h3.2.1 ?_) h2
      rw [Array.setIfInBounds_comm _ _ hji]
      exact h3.2.2

/-- A row of our choosing: each operation with a mark: true: it only reads. -/
def parB (md : Region.Mode) (ops : Array Oper) : List (Nat × Bool) → Array Bool → Bool
  | [], listed => (Region.ready md ops listed).isEmpty
  | (k, true) :: r, listed => (Region.ready md ops listed).contains k && Region.free md ops listed k && parB md ops r (listed.setIfInBounds k true)
  | (k, false) :: r, listed => decide (Region.ready md ops listed = [k]) && parB md ops r (listed.setIfInBounds k true)
def wpPar (P : Program) (ops : Array Oper) (C : World → Prop) (Q : Exit → Act → World → Prop) : List (Nat × Bool) → Act → World → Prop
  | [], a, w => Q .normal a w
  | (k, true) :: r, a, w => match ops[k]? with
    | none => False
    | some o => ∃ v, YieldsC P ops C o v a ∧ wpPar P ops C Q r (a.put o.dst v) w
  | (k, false) :: r, a, w => parOp P ops C Q k (fun a' w' => wpPar P ops C Q r a' w') a w
/-- No operation of the region but turns these slots. -/
theorem wpAnyP_par (hs : Region.noSelect ops = true) (hQ : ∀ (o : Oper), o ∈ ops → ∀ v c a w, Q (.panic c) (a.put o.dst v) w → Q (.panic c) a w) : ∀ (ord : List (Nat × Bool)) (listed : Array Bool) (a : Act) (w : World), C w →
    parB md ops ord listed = true → wpPar P ops C Q ord a w → wpAnyP P md ops C Q ord.length listed a w
  | [], _, _, _, _, hB, h => ⟨by simpa [parB] using hB, h⟩
  | (k, true) :: r, listed, a, w, hC, hB, h => by
    simp only [parB, Bool.and_eq_true] at hB
    obtain ⟨⟨hr, hf⟩, hB'⟩ := hB
    simp only [wpPar] at h
    cases h0 : ops[k]? with
    | none => simp only [h0] at h
    | some o =>
      simp only [h0] at h
      obtain ⟨v, hy, hK⟩ := h
      exact wpAnyP_first h0 (Region.noSelect_spec hs) (hQ o (Array.mem_of_getElem? h0) v) r.length listed a w hC (Region.free_spec h0 hf) (by simpa using hr) hy (wpAnyP_par hs hQ r _ _ _ hC hB' hK)
  | (k, false) :: r, listed, a, w, hC, hB, h => by
    simp only [parB, Bool.and_eq_true, decide_eq_true_eq] at hB
    refine ⟨fun h1 => (by rw [hB.1] at h1; cases h1), fun i hi => ?_⟩
    rw [hB.1] at hi
    have hik : i = k := by simpa using hi
    subst hik
    have h' : parOp P ops C Q i (fun a' w' => wpPar P ops C Q r a' w') a w := h
    unfold parOp at h' ⊢
    split
    · rename_i ho; simp only [ho] at h'; exact wpAnyP_par hs hQ r _ _ _ hC hB.2 h'
    · rename_i o ho
      simp only [ho] at h'
      split
      · rename_i hw; simp only [hw, if_true] at h'; exact Oper.wp_mono (fun a w ⟨h1, h2⟩ => ⟨h1, wpAnyP_par hs hQ r _ _ _ h1 hB.2 h2⟩) h'
      · rename_i hw; simp only [hw] at h'; exact wpAnyP_par hs hQ r _ _ _ hC hB.2 h'
theorem wp_region_par {id : Nat} {a : Act} {w : World} (ord : List (Nat × Bool)) (hm : P.follows .mixedOrders = true) (hB : (Region.noSelect ops && (ord.length == ops.size) && parB .any ops ord (Array.replicate ops.size false)) = true)
    (hQ : ∀ (o : Oper), o ∈ ops → ∀ v c a w, Q (.panic c) (a.put o.dst v) w → Q (.panic c) a w) (hC : C { w with drawn := w.drawn + 1 }) (h : wpPar P ops C Q ord a { w with drawn := w.drawn + 1 }) : (Code.region id ops true).wp P Q a w := by
  simp only [Bool.and_eq_true, beq_iff_eq] at hB
  refine wp_region_any hm (wpAny_of_par (C := C) _ _ _ _ ?_)
  rw [← hB.1.2]
  exact wpAnyP_par hB.1.1 hQ ord _ _ _ hC (by rw [hB.1.2]; exact hB.2) h
/-- .. that does not panic. -/
def NoP (Q : Exit → Act → World → Prop) : Exit → Act → World → Prop := fun e a w => match e with | .panic _ => False | e => Q e a w
theorem wp_region_parN {id : Nat} {a : Act} {w : World} (ord : List (Nat × Bool)) (hm : P.follows .mixedOrders = true) (hB : (Region.noSelect ops && (ord.length == ops.size) && parB .any ops ord (Array.replicate ops.size false)) = true)
    (hC : C { w with drawn := w.drawn + 1 }) (h : wpPar P ops C (NoP Q) ord a { w with drawn := w.drawn + 1 }) : (Code.region id ops true).wp P Q a w :=
  wp_mono (wp_region_par (C := C) ord hm hB (fun _ _ _ _ _ _ h => h.elim) hC h) fun e a w h => by
    cases e <;> first | exact h | exact h.elim

/-! .. and behind them some that wait for all that stand ahead, one for another. -/
def wpAnyT (P : Program) (md : Region.Mode) (ops : Array Oper) (C : World → Prop) (Q : Exit → Act → World → Prop) (n : Nat) (L : Array Bool → Act → World → Prop) : Nat → Array Bool → Act → World → Prop
  | 0, listed, a, w => L listed a w
  | f + 1, listed, a, w => Region.ready md ops listed ≠ [] ∧ ∀ i ∈ Region.ready md ops listed, i < n ∧ parOp P ops C Q i (wpAnyT P md ops C Q n L f (listed.setIfInBounds i true)) a w
theorem wpAny_of_headT {n g : Nat} {L : Array Bool → Act → World → Prop} (hL : ∀ listed a w, L listed a w → wpAny P md ops Q g listed a w) :
    ∀ (f : Nat) (listed : Array Bool) (a : Act) (w : World), wpAnyT P md ops C Q n L f listed a w → wpAny P md ops Q (f + g) listed a w
  | 0, listed, a, w, h => by rw [Nat.zero_add]; exact hL _ _ _ h
  | f + 1, listed, a, w, h => by
    rw [show f + 1 + g = (f + g) + 1 by omega]
    exact ⟨fun h0 => absurd h0 h.1, fun i hi => wpOp_of_parOp (fun a' w' h' => wpAny_of_headT hL f _ a' w' h') (h.2 i hi).2⟩
theorem wpAnyT_first {n i : Nat} {oi : Oper} {v : Value} {L : Array Bool → Act → World → Prop} (hi : ops[i]? = some oi) (hsel : ∀ (j : Nat) (o : Oper) cs b, ops[j]? = some o → o.op ≠ .select cs b)
    (hQ : ∀ c a w, Q (.panic c) (a.put oi.dst v) w → Q (.panic c) a w) (hs : Region.sinkB md ops n = true) (hc : Region.chainB md ops n = true) (hn : n < ops.size) (hin : i < n)
    (hdone : ∀ listed a w, L listed a w → ∀ j ∈ Region.ready md ops listed, n ≤ j) :
    ∀ (f : Nat) (listed : Array Bool) (a : Act) (w : World), C w → HeadInv md ops n listed →
      (∀ j oj, ops[j]? = some oj → j ≠ i → listed.getD j true = false → (∀ e ∈ oj.after, Region.binds md e = true → e.on ≠ i) → oi.apart ops oj = true) →
      i ∈ Region.ready md ops listed → YieldsC P ops C oi v a → wpAnyT P md ops C Q n L f (listed.setIfInBounds i true) (a.put oi.dst v) w → wpAnyT P md ops C Q n L (f + 1) listed a w := by
  intro f
  induction f with
  | zero =>
    intro listed a w hC inv _ hr hy H
    have hun := (mem_ready.1 hr).1
    refine ⟨fun h => (by rw [h] at hr; cases hr), fun j hj => ?_⟩
    have hjn : j < n := by
      rcases Nat.lt_or_ge j n with h | h
      · exact h
      · exact absurd hj (tail_waits hs hc hn inv _ i rfl hin hun j h)
    refine ⟨hjn, ?_⟩
    by_cases hji : j = i
    · subst hji; exact hy.parOp hi hC H
    · have := hdone _ _ _ H j (ready_mono hj hji)
      omega
  | succ f ih =>
    intro listed a w hC inv hfree hr hy H
    have hun := (mem_ready.1 hr).1
    refine ⟨fun h => (by rw [h] at hr; cases hr), fun j hj => ?_⟩
    have hjn : j < n := by
      rcases Nat.lt_or_ge j n with h | h
      · exact h
      · exact absurd hj (tail_waits hs hc hn inv _ i rfl hin hun j h)
    refine ⟨hjn, ?_⟩
    by_cases hji : j = i
    · subst hji; exact hy.parOp hi hC H
    · have h1 := (H.2 j (ready_mono hj hji)).2
      obtain ⟨hjun, oj, hoj, hall⟩ := mem_ready.1 hj
      have hnot : ∀ e ∈ oj.after, Region.binds md e = true → e.on ≠ i := fun e he hb heq => by
        have h1 := hall e he hb
        rw [heq, getD_both hun] at h1
        cases h1
      have h2 := parOp_put hoj (hfree j oj hoj hji hjun hnot) (fun cs b => hsel i oi cs b hi) (fun cs b => hsel j oj cs b hoj) hQ hC hy h1
      have hfree' : ∀ k ok, ops[k]? = some ok → k ≠ i → (listed.setIfInBounds j true).getD k true = false → (∀ e ∈ ok.after, Region.binds md e = true → e.on ≠ i) → oi.apart ops ok = true := fun k ok hk hki hun hno => by
        refine hfree k ok hk hki ?_ hno
        by_cases hjk : j = k
        · subst hjk; exact hjun
        · rw [getD_set_ne true hjk] at hun; exact hun
      refine parOp_mono (fun a' w' h3 => ih (listed.setIfInBounds j true) a' w' h3.1 (inv.set hj hjn) hfree' (ready_mono hr (Ne.symm hji)) h3.2.1 ?_) h2
      rw [Array.setIfInBounds_comm _ _ hji]
      exact h3.2.2
def parTB (md : Region.Mode) (ops : Array Oper) (n g : Nat) : List (Nat × Bool) → Array Bool → Bool
  | [], listed => Region.seqB md ops g n listed
  | (k, true) :: r, listed => decide (k < n) && (Region.ready md ops listed).contains k && Region.free md ops listed k && parTB md ops n g r (listed.setIfInBounds k true)
  | (k, false) :: r, listed => decide (k < n) && decide (Region.ready md ops listed = [k]) && parTB md ops n g r (listed.setIfInBounds k true)
theorem wpAnyT_par {n g : Nat} {Lq : Act → World → Prop} (hsel : Region.noSelect ops = true) (hs : Region.sinkB md ops n = true) (hc : Region.chainB md ops n = true) (hn : n < ops.size)
    (hQ : ∀ (o : Oper), o ∈ ops → ∀ v c a w, Q (.panic c) (a.put o.dst v) w → Q (.panic c) a w) : ∀ (ord : List (Nat × Bool)) (listed : Array Bool) (a : Act) (w : World), C w → HeadInv md ops n listed →
    parTB md ops n g ord listed = true → wpPar P ops C (fun e a w => match e with | .normal => Lq a w | e => Q e a w) ord a w → wpAnyT P md ops C Q n (fun listed' a' w' => Region.seqB md ops g n listed' = true ∧ Lq a' w') ord.length listed a w
  | [], _, _, _, _, _, hB, h => ⟨by simpa [parTB] using hB, h⟩
  | (k, true) :: r, listed, a, w, hC, inv, hB, h => by
    simp only [parTB, Bool.and_eq_true, decide_eq_true_eq] at hB
    obtain ⟨⟨⟨hkn, hr⟩, hf⟩, hB'⟩ := hB
    have hr' : k ∈ Region.ready md ops listed := by simpa using hr
    simp only [wpPar] at h
    cases h0 : ops[k]? with
    | none => simp only [h0] at h
    | some o =>
      simp only [h0] at h
      obtain ⟨v, hy, hK⟩ := h
      exact wpAnyT_first h0 (Region.noSelect_spec hsel) (hQ o (Array.mem_of_getElem? h0) v) hs hc hn hkn (fun listed' a' w' hL => seqB_ready hL.1) r.length listed a w hC inv (Region.free_spec h0 hf) hr' hy
        (wpAnyT_par hsel hs hc hn hQ r _ _ _ hC (inv.set hr' hkn) hB' hK)
  | (k, false) :: r, listed, a, w, hC, inv, hB, h => by
    simp only [parTB, Bool.and_eq_true, decide_eq_true_eq] at hB
    have hr' : k ∈ Region.ready md ops listed := by rw [hB.1.2]; simp
    refine ⟨fun h1 => (by rw [hB.1.2] at h1; cases h1), fun i hi => ?_⟩
    rw [hB.1.2] at hi
    have hik : i = k := by simpa using hi
    subst hik
    refine ⟨hB.1.1, ?_⟩
    have h' := h
    simp only [wpPar] at h'
    have inv' := inv.set hr' hB.1.1
    unfold parOp at h' ⊢
    cases ho : ops[i]? with
    | none => simp only [ho] at h' ⊢; exact wpAnyT_par hsel hs hc hn hQ r _ _ _ hC inv' hB.2 h'
    | some o =>
      simp only [ho] at h' ⊢
      split
      · rename_i hw
        simp only [hw, if_true] at h'
        unfold Oper.wp at *
        generalize (execOp a.eval o).run P w = x at *
        have fin : ∀ a w, (C w ∧ wpPar P ops C (fun e a w => match e with | .normal => Lq a w | e => Q e a w) r a w) → C w ∧ wpAnyT P md ops C Q n (fun listed' a' w' => Region.seqB md ops g n listed' = true ∧ Lq a' w') r.length (listed.setIfInBounds i true) a w := fun a w ⟨h1, h2⟩ => ⟨h1, wpAnyT_par hsel hs hc hn hQ r _ _ _ h1 inv' hB.2 h2⟩
        cases x with
        | ok m w' =>
          cases m <;> simp only [Oper.upon] at h' ⊢
          case enter f args =>
            refine Calls.mono h' fun e w'' he => ?_
            cases e with
            | returned u => exact fin _ _ he
            | panicked c => exact he
            | outgrown => exact he
          case row row args => exact Rows.mono h' fun u w'' he => fin _ _ he
          all_goals exact fin _ _ h'
        | halt x w' => cases x <;> simp only [Oper.upon] at h' ⊢ <;> exact h'
      · rename_i hw
        simp only [hw] at h'
        exact wpAnyT_par hsel hs hc hn hQ r _ _ _ hC inv' hB.2 h'
theorem wp_region_parT {id : Nat} {a : Act} {w : World} {l : List Oper} (n : Nat) (ord : List (Nat × Bool)) (hm : P.follows .mixedOrders = true)
    (hB : (Region.noSelect l.toArray && decide (n < l.toArray.size) && (ord.length == n) && Region.sinkB .any l.toArray n && Region.chainB .any l.toArray n && parTB .any l.toArray n (l.toArray.size - n) ord (Array.replicate l.toArray.size false)) = true)
    (hQ : ∀ (o : Oper), o ∈ l.toArray → ∀ v c a w, Q (.panic c) (a.put o.dst v) w → Q (.panic c) a w) (hC : C { w with drawn := w.drawn + 1 })
    (h : wpPar P l.toArray C (fun e a w => match e with | .normal => wpList P l.toArray Q (l.drop n) a w | e => Q e a w) ord a { w with drawn := w.drawn + 1 }) : (Code.region id l.toArray true).wp P Q a w := by
  simp only [Bool.and_eq_true, decide_eq_true_eq, beq_iff_eq] at hB
  obtain ⟨⟨⟨⟨⟨hsel, hn⟩, hl⟩, hs⟩, hc⟩, hlex⟩ := hB
  have hdl : (l.drop n).length = l.toArray.size - n := by simp
  have inv0 : HeadInv .any l.toArray n (Array.replicate l.toArray.size false) :=
    ⟨by simp, fun j oj _ hl => (by rw [getD_replicate_false] at hl; cases hl), fun t _ ht => getD_in (by simpa using ht) (getD_replicate_false _ _)⟩
  have H := wpAnyT_par (md := .any) (g := l.toArray.size - n) hsel hs hc hn hQ ord _ a _ hC inv0 hlex h
  refine wp_region_any hm ?_
  have := wpAny_of_headT (Q := Q) (g := l.toArray.size - n) (fun listed a' w' hL => by
    have := wpAny_of_seq (md := .any) (Q' := Q) (l.drop n) n listed a' w' (fun j => by simp [List.getElem?_drop]) (by rw [hdl]; exact hL.1) hL.2
    rwa [hdl] at this) _ _ _ _ H
  rw [hl, show n + (l.toArray.size - n) = l.toArray.size by omega] at this
  exact this
/-- The head's end: the rest one by one. -/
def thenL (P : Program) (l : List Oper) (n : Nat) (Q : Exit → Act → World → Prop) : Exit → Act → World → Prop := fun e a w => match e with | .normal => wpList P l.toArray Q (l.drop n) a w | e => Q e a w
theorem wp_region_parTN {id : Nat} {a : Act} {w : World} {l : List Oper} (n : Nat) (ord : List (Nat × Bool)) (hm : P.follows .mixedOrders = true)
    (hB : (Region.noSelect l.toArray && decide (n < l.toArray.size) && (ord.length == n) && Region.sinkB .any l.toArray n && Region.chainB .any l.toArray n && parTB .any l.toArray n (l.toArray.size - n) ord (Array.replicate l.toArray.size false)) = true)
    (hC : C { w with drawn := w.drawn + 1 }) (h : wpPar P l.toArray C (thenL P l n (NoP Q)) ord a { w with drawn := w.drawn + 1 }) : (Code.region id l.toArray true).wp P Q a w :=
  wp_mono (wp_region_parT (C := C) n ord hm hB (fun _ _ _ _ _ _ h => h.elim) hC h) fun e a w h => by
    cases e <;> first | exact h | exact h.elim
/-! Rows that fork: two operations that turn the memory, in either order. -/
inductive PT where
  | list (l : List (Nat × Bool))
  | br (l : List (Nat × Bool)) (i : Nat) (ti : PT) (j : Nat) (tj : PT)
  | br3 (l : List (Nat × Bool)) (i : Nat) (ti : PT) (j : Nat) (tj : PT) (k : Nat) (tk : PT)
def PT.len : PT → Nat
  | .list l => l.length
  | .br l _ ti _ _ => l.length + (ti.len + 1)
  | .br3 l _ ti _ _ _ _ => l.length + (ti.len + 1)
def parE (md : Region.Mode) (ops : Array Oper) (E : Array Bool → Bool) : List (Nat × Bool) → Array Bool → Bool
  | [], listed => E listed
  | (k, true) :: r, listed => (Region.ready md ops listed).contains k && Region.free md ops listed k && parE md ops E r (listed.setIfInBounds k true)
  | (k, false) :: r, listed => decide (Region.ready md ops listed = [k]) && parE md ops E r (listed.setIfInBounds k true)
def treeB (md : Region.Mode) (ops : Array Oper) : PT → Array Bool → Bool
  | .list l, listed => parE md ops (fun listed => (Region.ready md ops listed).isEmpty) l listed
  | .br l i ti j tj, listed => parE md ops (fun listed => decide (Region.ready md ops listed = [i, j]) && Nat.beq ti.len tj.len && treeB md ops ti (listed.setIfInBounds i true) && treeB md ops tj (listed.setIfInBounds j true)) l listed
  | .br3 l i ti j tj k tk, listed => parE md ops (fun listed => decide (Region.ready md ops listed = [i, j, k]) && Nat.beq ti.len tj.len && Nat.beq ti.len tk.len && treeB md ops ti (listed.setIfInBounds i true) && treeB md ops tj (listed.setIfInBounds j true) && treeB md ops tk (listed.setIfInBounds k true)) l listed
def thenT (K : Act → World → Prop) (Q : Exit → Act → World → Prop) : Exit → Act → World → Prop := fun e a w => match e with | .normal => K a w | e => Q e a w
def wpTree (P : Program) (ops : Array Oper) (C : World → Prop) (E : Exit → Act → World → Prop) : PT → Act → World → Prop
  | .list l, a, w => wpPar P ops C E l a w
  | .br l i ti j tj, a, w => wpPar P ops C (thenT (fun a w => parOp P ops C E i (wpTree P ops C E ti) a w ∧ parOp P ops C E j (wpTree P ops C E tj) a w) E) l a w
  | .br3 l i ti j tj k tk, a, w => wpPar P ops C (thenT (fun a w => parOp P ops C E i (wpTree P ops C E ti) a w ∧ parOp P ops C E j (wpTree P ops C E tj) a w ∧ parOp P ops C E k (wpTree P ops C E tk) a w) E) l a w
theorem thenT_self : thenT (Q .normal) Q = Q := by funext e a w; cases e <;> rfl
theorem parOp_thenT {K : Act → World → Prop} {i : Nat} {K1 K2 : Act → World → Prop} {a : Act} {w : World} (h : parOp P ops C (thenT K Q) i K1 a w) (hK : ∀ a w, C w → K1 a w → K2 a w) (h0 : ops[i]? = none → K1 a w → K2 a w) (h1 : K1 (a.put ((ops[i]?).bind (·.dst)) undef) w → K2 (a.put ((ops[i]?).bind (·.dst)) undef) w) : parOp P ops C Q i K2 a w := by
  unfold parOp at h ⊢
  cases ho : ops[i]? with
  | none => simp only [ho] at h ⊢; exact h0 ho h
  | some o =>
    simp only [ho, Option.bind_some] at h h1 ⊢
    split
    · rename_i hw
      simp only [hw, if_true] at h
      unfold Oper.wp at *
      generalize (execOp a.eval o).run P w = x at *
      have fin : ∀ a w, (C w ∧ K1 a w) → C w ∧ K2 a w := fun a w ⟨h1, h2⟩ => ⟨h1, hK _ _ h1 h2⟩
      cases x with
      | ok m w' =>
        cases m <;> simp only [Oper.upon] at h ⊢
        case enter f args =>
          refine Calls.mono h fun e w'' he => ?_
          cases e with
          | returned u => exact fin _ _ he
          | panicked c => exact he
          | outgrown => exact he
        case row row args => exact Rows.mono h fun u w'' he => fin _ _ he
        all_goals exact fin _ _ h
      | halt x w' => cases x <;> simp only [Oper.upon] at h ⊢ <;> exact h
    · rename_i hw
      simp only [hw] at h
      exact h1 h
theorem parOp_same {i : Nat} {K1 K2 : Act → World → Prop} {a : Act} {w : World} (hC : C w) (h : parOp P ops C Q i K1 a w) (hK : ∀ a w, C w → K1 a w → K2 a w) : parOp P ops C Q i K2 a w :=
  parOp_thenT (K := Q .normal) (by rw [thenT_self]; exact h) hK (fun _ h => hK _ _ hC h) (fun h => hK _ _ hC h)
theorem wpAnyP_parE {K : Act → World → Prop} {E : Array Bool → Bool} {f : Nat} (hs : Region.noSelect ops = true) (hQ : ∀ (o : Oper), o ∈ ops → ∀ v c a w, Q (.panic c) (a.put o.dst v) w → Q (.panic c) a w)
    (hE : ∀ listed a w, C w → E listed = true → K a w → wpAnyP P md ops C Q f listed a w) : ∀ (ord : List (Nat × Bool)) (listed : Array Bool) (a : Act) (w : World), C w →
    parE md ops E ord listed = true → wpPar P ops C (thenT K Q) ord a w → wpAnyP P md ops C Q (ord.length + f) listed a w
  | [], _, _, _, hC, hB, h => by simpa using hE _ _ _ hC hB h
  | (k, true) :: r, listed, a, w, hC, hB, h => by
    simp only [parE, Bool.and_eq_true] at hB
    obtain ⟨⟨hr, hf⟩, hB'⟩ := hB
    simp only [wpPar] at h
    cases h0 : ops[k]? with
    | none => simp only [h0] at h
    | some o =>
      simp only [h0] at h
      obtain ⟨v, hy, hK⟩ := h
      rw [show ((k, true) :: r).length + f = (r.length + f) + 1 from by simp only [List.length_cons]; omega]
      exact wpAnyP_first h0 (Region.noSelect_spec hs) (hQ o (Array.mem_of_getElem? h0) v) (r.length + f) listed a w hC (Region.free_spec h0 hf) (by simpa using hr) hy (wpAnyP_parE hs hQ hE r _ _ _ hC hB' hK)
  | (k, false) :: r, listed, a, w, hC, hB, h => by
    simp only [parE, Bool.and_eq_true, decide_eq_true_eq] at hB
    rw [show ((k, false) :: r).length + f = (r.length + f) + 1 from by simp only [List.length_cons]; omega]
    refine ⟨fun h1 => (by rw [hB.1] at h1; cases h1), fun i hi => ?_⟩
    rw [hB.1] at hi
    have hik : i = k := by simpa using hi
    subst hik
    have h' : parOp P ops C (thenT K Q) i (fun a' w' => wpPar P ops C (thenT K Q) r a' w') a w := h
    exact parOp_thenT h' (fun a w h1 h2 => wpAnyP_parE hs hQ hE r _ a w h1 hB.2 h2) (fun _ h2 => wpAnyP_parE hs hQ hE r _ _ _ hC hB.2 h2) (fun h2 => wpAnyP_parE hs hQ hE r _ _ _ hC hB.2 h2)
theorem wpAnyP_tree (hs : Region.noSelect ops = true) (hQ : ∀ (o : Oper), o ∈ ops → ∀ v c a w, Q (.panic c) (a.put o.dst v) w → Q (.panic c) a w) : ∀ (t : PT) (listed : Array Bool) (a : Act) (w : World), C w →
    treeB md ops t listed = true → wpTree P ops C Q t a w → wpAnyP P md ops C Q t.len listed a w
  | .list l, listed, a, w, hC, hB, h => by
    have h' : wpPar P ops C (thenT (Q .normal) Q) l a w := by rw [thenT_self]; exact h
    exact wpAnyP_parE (f := 0) hs hQ (fun listed a w _ hE hK => ⟨by simpa using hE, hK⟩) l listed a w hC hB h'
  | .br l i ti j tj, listed, a, w, hC, hB, h => by
    refine wpAnyP_parE (f := ti.len + 1) hs hQ (fun listed a w hC hE hK => ?_) l listed a w hC hB h
    simp only [Bool.and_eq_true, decide_eq_true_eq] at hE
    obtain ⟨⟨⟨hr, hl⟩, h1⟩, h2⟩ := hE
    have hl' : ti.len = tj.len := Nat.eq_of_beq_eq_true hl
    refine ⟨fun h1 => (by rw [hr] at h1; cases h1), fun q hq => ?_⟩
    rw [hr] at hq
    simp only [List.mem_cons, List.not_mem_nil, or_false] at hq
    rcases hq with rfl | rfl
    · exact parOp_same hC hK.1 fun a w hC' h3 => wpAnyP_tree hs hQ ti _ a w hC' h1 h3
    · rw [hl']
      exact parOp_same hC hK.2 fun a w hC' h3 => wpAnyP_tree hs hQ tj _ a w hC' h2 h3
  | .br3 l i ti j tj k tk, listed, a, w, hC, hB, h => by
    refine wpAnyP_parE (f := ti.len + 1) hs hQ (fun listed a w hC hE hK => ?_) l listed a w hC hB h
    simp only [Bool.and_eq_true, decide_eq_true_eq] at hE
    obtain ⟨⟨⟨⟨⟨hr, hl⟩, hlk⟩, h1⟩, h2⟩, h3'⟩ := hE
    have hl' : ti.len = tj.len := Nat.eq_of_beq_eq_true hl
    have hlk' : ti.len = tk.len := Nat.eq_of_beq_eq_true hlk
    refine ⟨fun h1 => (by rw [hr] at h1; cases h1), fun q hq => ?_⟩
    rw [hr] at hq
    simp only [List.mem_cons, List.not_mem_nil, or_false] at hq
    rcases hq with rfl | rfl | rfl
    · exact parOp_same hC hK.1 fun a w hC' h3 => wpAnyP_tree hs hQ ti _ a w hC' h1 h3
    · rw [hl']
      exact parOp_same hC hK.2.1 fun a w hC' h3 => wpAnyP_tree hs hQ tj _ a w hC' h2 h3
    · rw [hlk']
      exact parOp_same hC hK.2.2 fun a w hC' h3 => wpAnyP_tree hs hQ tk _ a w hC' h3' h3
theorem wp_region_treeN {id : Nat} {a : Act} {w : World} (t : PT) (hm : P.follows .mixedOrders = true) (hB : (Region.noSelect ops && Nat.beq t.len ops.size && treeB .any ops t (Array.replicate ops.size false)) = true)
    (hC : C { w with drawn := w.drawn + 1 }) (h : wpTree P ops C (NoP Q) t a { w with drawn := w.drawn + 1 }) : (Code.region id ops true).wp P Q a w := by
  simp only [Bool.and_eq_true] at hB
  refine wp_mono (Q := NoP Q) (wp_region_any hm (wpAny_of_par (C := C) _ _ _ _ ?_)) fun e a w h => by cases e <;> first | exact h | exact h.elim
  rw [← Nat.eq_of_beq_eq_true hB.1.2]
  exact wpAnyP_tree hB.1.1 (fun _ _ _ _ _ _ h => h.elim) t _ _ _ hC (by rw [Nat.eq_of_beq_eq_true hB.1.2]; exact hB.2) h
/-! .. with a tail. -/
def parTE (md : Region.Mode) (ops : Array Oper) (n : Nat) (E : Array Bool → Bool) : List (Nat × Bool) → Array Bool → Bool
  | [], listed => E listed
  | (k, true) :: r, listed => Nat.blt k n && (Region.ready md ops listed).contains k && Region.free md ops listed k && parTE md ops n E r (listed.setIfInBounds k true)
  | (k, false) :: r, listed => Nat.blt k n && decide (Region.ready md ops listed = [k]) && parTE md ops n E r (listed.setIfInBounds k true)
def treeTB (md : Region.Mode) (ops : Array Oper) (n g : Nat) : PT → Array Bool → Bool
  | .list l, listed => parTE md ops n (Region.seqB md ops g n) l listed
  | .br l i ti j tj, listed => parTE md ops n (fun listed => decide (Region.ready md ops listed = [i, j]) && Nat.blt i n && Nat.blt j n && Nat.beq ti.len tj.len && treeTB md ops n g ti (listed.setIfInBounds i true) && treeTB md ops n g tj (listed.setIfInBounds j true)) l listed
  | .br3 l i ti j tj k tk, listed => parTE md ops n (fun listed => decide (Region.ready md ops listed = [i, j, k]) && Nat.blt i n && Nat.blt j n && Nat.blt k n && Nat.beq ti.len tj.len && Nat.beq ti.len tk.len && treeTB md ops n g ti (listed.setIfInBounds i true) && treeTB md ops n g tj (listed.setIfInBounds j true) && treeTB md ops n g tk (listed.setIfInBounds k true)) l listed
section
variable {n : Nat} {LL : Array Bool → Act → World → Prop}
theorem wpAnyT_parE {K : Act → World → Prop} {E : Array Bool → Bool} {f : Nat} (hsel : Region.noSelect ops = true) (hs : Region.sinkB md ops n = true) (hc : Region.chainB md ops n = true) (hn : n < ops.size)
    (hQ : ∀ (o : Oper), o ∈ ops → ∀ v c a w, Q (.panic c) (a.put o.dst v) w → Q (.panic c) a w) (hdone : ∀ listed a w, LL listed a w → ∀ j ∈ Region.ready md ops listed, n ≤ j)
    (hE : ∀ listed a w, C w → HeadInv md ops n listed → E listed = true → K a w → wpAnyT P md ops C Q n LL f listed a w) : ∀ (ord : List (Nat × Bool)) (listed : Array Bool) (a : Act) (w : World), C w → HeadInv md ops n listed →
    parTE md ops n E ord listed = true → wpPar P ops C (thenT K Q) ord a w → wpAnyT P md ops C Q n LL (ord.length + f) listed a w
  | [], _, _, _, hC, inv, hB, h => by simpa using hE _ _ _ hC inv hB h
  | (k, true) :: r, listed, a, w, hC, inv, hB, h => by
    simp only [parTE, Bool.and_eq_true] at hB
    obtain ⟨⟨⟨hkn, hr⟩, hf⟩, hB'⟩ := hB
    have hkn : k < n := by simpa [Nat.blt_eq] using hkn
    have hr' : k ∈ Region.ready md ops listed := by simpa using hr
    simp only [wpPar] at h
    cases h0 : ops[k]? with
    | none => simp only [h0] at h
    | some o =>
      simp only [h0] at h
      obtain ⟨v, hy, hK⟩ := h
      rw [show ((k, true) :: r).length + f = (r.length + f) + 1 from by simp only [List.length_cons]; omega]
      exact wpAnyT_first h0 (Region.noSelect_spec hsel) (hQ o (Array.mem_of_getElem? h0) v) hs hc hn hkn hdone (r.length + f) listed a w hC inv (Region.free_spec h0 hf) hr' hy
        (wpAnyT_parE hsel hs hc hn hQ hdone hE r _ _ _ hC (inv.set hr' hkn) hB' hK)
  | (k, false) :: r, listed, a, w, hC, inv, hB, h => by
    simp only [parTE, Bool.and_eq_true, decide_eq_true_eq] at hB
    have hkn : k < n := by simpa [Nat.blt_eq] using hB.1.1
    have hr' : k ∈ Region.ready md ops listed := by rw [hB.1.2]; simp
    rw [show ((k, false) :: r).length + f = (r.length + f) + 1 from by simp only [List.length_cons]; omega]
    refine ⟨fun h1 => (by rw [hB.1.2] at h1; cases h1), fun i hi => ?_⟩
    rw [hB.1.2] at hi
    have hik : i = k := by simpa using hi
    subst hik
    refine ⟨hkn, ?_⟩
    have inv' := inv.set hr' hkn
    have h' : parOp P ops C (thenT K Q) i (fun a' w' => wpPar P ops C (thenT K Q) r a' w') a w := h
    exact parOp_thenT h' (fun a w h1 h2 => wpAnyT_parE hsel hs hc hn hQ hdone hE r _ a w h1 inv' hB.2 h2) (fun _ h2 => wpAnyT_parE hsel hs hc hn hQ hdone hE r _ _ _ hC inv' hB.2 h2) (fun h2 => wpAnyT_parE hsel hs hc hn hQ hdone hE r _ _ _ hC inv' hB.2 h2)
theorem wpAnyT_tree {g : Nat} (hsel : Region.noSelect ops = true) (hs : Region.sinkB md ops n = true) (hc : Region.chainB md ops n = true) (hn : n < ops.size)
    (hQ : ∀ (o : Oper), o ∈ ops → ∀ v c a w, Q (.panic c) (a.put o.dst v) w → Q (.panic c) a w) {Lq : Act → World → Prop} : ∀ (t : PT) (listed : Array Bool) (a : Act) (w : World), C w → HeadInv md ops n listed →
    treeTB md ops n g t listed = true → wpTree P ops C (thenT Lq Q) t a w → wpAnyT P md ops C Q n (fun listed' a' w' => Region.seqB md ops g n listed' = true ∧ Lq a' w') t.len listed a w
  | .list l, listed, a, w, hC, inv, hB, h => wpAnyT_parE (LL := fun listed' a' w' => Region.seqB md ops g n listed' = true ∧ Lq a' w') (f := 0) (E := Region.seqB md ops g n) (K := Lq) hsel hs hc hn hQ (fun _ _ _ hL => seqB_ready hL.1) (fun listed a w _ _ hE hK => ⟨hE, hK⟩) l listed a w hC inv hB h
  | .br l i ti j tj, listed, a, w, hC, inv, hB, h => by
    have e : thenT (fun a w => parOp P ops C (thenT Lq Q) i (wpTree P ops C (thenT Lq Q) ti) a w ∧ parOp P ops C (thenT Lq Q) j (wpTree P ops C (thenT Lq Q) tj) a w) (thenT Lq Q) = thenT (fun a w => parOp P ops C (thenT Lq Q) i (wpTree P ops C (thenT Lq Q) ti) a w ∧ parOp P ops C (thenT Lq Q) j (wpTree P ops C (thenT Lq Q) tj) a w) Q := by
      funext e a w; cases e <;> rfl
    simp only [wpTree] at h
    rw [e] at h
    refine wpAnyT_parE (f := ti.len + 1) hsel hs hc hn hQ (fun _ _ _ hL => seqB_ready hL.1) (fun listed a w hC inv hE hK => ?_) l listed a w hC inv hB h
    simp only [Bool.and_eq_true, decide_eq_true_eq] at hE
    obtain ⟨⟨⟨⟨⟨hr, hi⟩, hj⟩, hl⟩, h1⟩, h2⟩ := hE
    have hi : i < n := by simpa [Nat.blt_eq] using hi
    have hj : j < n := by simpa [Nat.blt_eq] using hj
    have hl' : ti.len = tj.len := Nat.eq_of_beq_eq_true hl
    have ri : i ∈ Region.ready md ops listed := by rw [hr]; simp
    have rj : j ∈ Region.ready md ops listed := by rw [hr]; simp
    refine ⟨fun h1 => (by rw [hr] at h1; cases h1), fun q hq => ?_⟩
    rw [hr] at hq
    simp only [List.mem_cons, List.not_mem_nil, or_false] at hq
    rcases hq with rfl | rfl
    · exact ⟨hi, parOp_thenT hK.1 (fun a w hC' h3 => wpAnyT_tree hsel hs hc hn hQ ti _ a w hC' (inv.set ri hi) h1 h3) (fun _ h3 => wpAnyT_tree hsel hs hc hn hQ ti _ _ _ hC (inv.set ri hi) h1 h3) (fun h3 => wpAnyT_tree hsel hs hc hn hQ ti _ _ _ hC (inv.set ri hi) h1 h3)⟩
    · rw [hl']
      exact ⟨hj, parOp_thenT hK.2 (fun a w hC' h3 => wpAnyT_tree hsel hs hc hn hQ tj _ a w hC' (inv.set rj hj) h2 h3) (fun _ h3 => wpAnyT_tree hsel hs hc hn hQ tj _ _ _ hC (inv.set rj hj) h2 h3) (fun h3 => wpAnyT_tree hsel hs hc hn hQ tj _ _ _ hC (inv.set rj hj) h2 h3)⟩
  | .br3 l i ti j tj k tk, listed, a, w, hC, inv, hB, h => by
    have e : thenT (fun a w => parOp P ops C (thenT Lq Q) i (wpTree P ops C (thenT Lq Q) ti) a w ∧ parOp P ops C (thenT Lq Q) j (wpTree P ops C (thenT Lq Q) tj) a w ∧ parOp P ops C (thenT Lq Q) k (wpTree P ops C (thenT Lq Q) tk) a w) (thenT Lq Q) = thenT (fun a w => parOp P ops C (thenT Lq Q) i (wpTree P ops C (thenT Lq Q) ti) a w ∧ parOp P ops C (thenT Lq Q) j (wpTree P ops C (thenT Lq Q) tj) a w ∧ parOp P ops C (thenT Lq Q) k (wpTree P ops C (thenT Lq Q) tk) a w) Q := by
      funext e a w; cases e <;> rfl
    simp only [wpTree] at h
    rw [e] at h
    refine wpAnyT_parE (f := ti.len + 1) hsel hs hc hn hQ (fun _ _ _ hL => seqB_ready hL.1) (fun listed a w hC inv hE hK => ?_) l listed a w hC inv hB h
    simp only [Bool.and_eq_true, decide_eq_true_eq] at hE
    obtain ⟨⟨⟨⟨⟨⟨⟨⟨hr, hi⟩, hj⟩, hk⟩, hl⟩, hlk⟩, h1⟩, h2⟩, h3'⟩ := hE
    have hi : i < n := by simpa [Nat.blt_eq] using hi
    have hj : j < n := by simpa [Nat.blt_eq] using hj
    have hk : k < n := by simpa [Nat.blt_eq] using hk
    have hl' : ti.len = tj.len := Nat.eq_of_beq_eq_true hl
    have hlk' : ti.len = tk.len := Nat.eq_of_beq_eq_true hlk
    have ri : i ∈ Region.ready md ops listed := by rw [hr]; simp
    have rj : j ∈ Region.ready md ops listed := by rw [hr]; simp
    have rk : k ∈ Region.ready md ops listed := by rw [hr]; simp
    refine ⟨fun h1 => (by rw [hr] at h1; cases h1), fun q hq => ?_⟩
    rw [hr] at hq
    simp only [List.mem_cons, List.not_mem_nil, or_false] at hq
    rcases hq with rfl | rfl | rfl
    · exact ⟨hi, parOp_thenT hK.1 (fun a w hC' h3 => wpAnyT_tree hsel hs hc hn hQ ti _ a w hC' (inv.set ri hi) h1 h3) (fun _ h3 => wpAnyT_tree hsel hs hc hn hQ ti _ _ _ hC (inv.set ri hi) h1 h3) (fun h3 => wpAnyT_tree hsel hs hc hn hQ ti _ _ _ hC (inv.set ri hi) h1 h3)⟩
    · rw [hl']
      exact ⟨hj, parOp_thenT hK.2.1 (fun a w hC' h3 => wpAnyT_tree hsel hs hc hn hQ tj _ a w hC' (inv.set rj hj) h2 h3) (fun _ h3 => wpAnyT_tree hsel hs hc hn hQ tj _ _ _ hC (inv.set rj hj) h2 h3) (fun h3 => wpAnyT_tree hsel hs hc hn hQ tj _ _ _ hC (inv.set rj hj) h2 h3)⟩
    · rw [hlk']
      exact ⟨hk, parOp_thenT hK.2.2 (fun a w hC' h3 => wpAnyT_tree hsel hs hc hn hQ tk _ a w hC' (inv.set rk hk) h3' h3) (fun _ h3 => wpAnyT_tree hsel hs hc hn hQ tk _ _ _ hC (inv.set rk hk) h3' h3) (fun h3 => wpAnyT_tree hsel hs hc hn hQ tk _ _ _ hC (inv.set rk hk) h3' h3)⟩
end
theorem wp_region_treeTN {id : Nat} {a : Act} {w : World} {l : List Oper} (n : Nat) (t : PT) (hm : P.follows .mixedOrders = true)
    (hB : (Region.noSelect l.toArray && decide (n < l.toArray.size) && Nat.beq t.len n && Region.sinkB .any l.toArray n && Region.chainB .any l.toArray n && treeTB .any l.toArray n (l.toArray.size - n) t (Array.replicate l.toArray.size false)) = true)
    (hC : C { w with drawn := w.drawn + 1 }) (h : wpTree P l.toArray C (thenL P l n (NoP Q)) t a { w with drawn := w.drawn + 1 }) : (Code.region id l.toArray true).wp P Q a w := by
  refine wp_mono (Q := NoP Q) ?_ fun e a w h => by cases e <;> first | exact h | exact h.elim
  simp only [Bool.and_eq_true, decide_eq_true_eq] at hB
  obtain ⟨⟨⟨⟨⟨hsel, hn⟩, hl⟩, hs⟩, hc⟩, hlex⟩ := hB
  have hl := Nat.eq_of_beq_eq_true hl
  have hdl : (l.drop n).length = l.toArray.size - n := by simp
  have inv0 : HeadInv .any l.toArray n (Array.replicate l.toArray.size false) :=
    ⟨by simp, fun j oj _ hl => (by rw [getD_replicate_false] at hl; cases hl), fun t _ ht => getD_in (by simpa using ht) (getD_replicate_false _ _)⟩
  have H := wpAnyT_tree (md := .any) (Q := NoP Q) (g := l.toArray.size - n) (Lq := fun a w => wpList P l.toArray (NoP Q) (l.drop n) a w) hsel hs hc hn (fun _ _ _ _ _ _ h => h.elim) t _ a _ hC inv0 hlex h
  refine wp_region_any hm ?_
  have := wpAny_of_headT (Q := NoP Q) (g := l.toArray.size - n) (fun listed a' w' hL => by
    have := wpAny_of_seq (md := .any) (Q' := NoP Q) (l.drop n) n listed a' w' (fun j => by simp [List.getElem?_drop]) (by rw [hdl]; exact hL.1) hL.2
    rwa [hdl] at this) _ _ _ _ H
  rw [hl, show n + (l.toArray.size - n) = l.toArray.size by omega] at this
  exact this
/-! .. whose class shrinks where one operation comes up: what is read of a place that is stored to behind the read. -/
def CL (s : Nat) (C0 C1 : World → Prop) (listed : Array Bool) (w : World) : Prop := (listed.getD s false = false → C0 w) ∧ (listed.getD s false = true → C1 w)
/-- i comes up ahead of j in any order. -/
def mustB (md : Region.Mode) (ops : Array Oper) (i : Nat) : Nat → Nat → Bool
  | 0, _ => false
  | f + 1, j => match ops[j]? with
    | none => false
    | some o => o.after.any fun e => Region.binds md e && (Nat.beq e.on i || mustB md ops i f e.on)
def Clo (md : Region.Mode) (ops : Array Oper) (listed : Array Bool) : Prop := ∀ j oj, ops[j]? = some oj → listed.getD j false = true → ∀ e ∈ oj.after, Region.binds md e = true → listed.getD e.on false = true
theorem must_listed {listed : Array Bool} {i : Nat} (hc : Clo md ops listed) : ∀ (f j : Nat), mustB md ops i f j = true → listed.getD j false = true → listed.getD i false = true
  | 0, _, h, _ => by cases h
  | f + 1, j, h, hl => by
    unfold mustB at h
    split at h
    · cases h
    · rename_i o ho
      rw [Array.any_eq_true'] at h
      obtain ⟨e, he, h⟩ := h
      simp only [Bool.and_eq_true, Bool.or_eq_true] at h
      have h1 := hc j o ho hl e he h.1
      rcases h.2 with h2 | h2
      · rw [← Nat.eq_of_beq_eq_true h2]; exact h1
      · exact must_listed hc f e.on h2 h1
theorem Clo.set {i : Nat} {listed : Array Bool} (hc : Clo md ops listed) (hi : i ∈ Region.ready md ops listed) : Clo md ops (listed.setIfInBounds i true) := by
  obtain ⟨_, oi, hoi, hall⟩ := mem_ready.1 hi
  intro j oj hj hl e he hb
  by_cases hij : i = j
  · subst hij
    have : oj = oi := Option.some.inj (hj.symm.trans hoi)
    subst this
    exact getD_set_true (hall e he hb)
  · rw [getD_set_ne false hij] at hl
    exact getD_set_true (hc j oj hj hl e he hb)
theorem Clo.none {m : Nat} : Clo md ops (Array.replicate m false) := fun j oj _ hl => (by rw [getD_replicate_false] at hl; cases hl)
variable {C0 C1 CY C' : World → Prop} {s : Nat}
theorem CL.set_ne {listed : Array Bool} {i : Nat} {w : World} (h : CL s C0 C1 listed w) (hi : i ≠ s) : CL s C0 C1 (listed.setIfInBounds i true) w := by
  unfold CL at *
  rw [getD_set_ne false hi]
  exact h
theorem getD_set_self {listed : Array Bool} {s : Nat} (h : s < listed.size) : (listed.setIfInBounds s true).getD s false = true := by simp [h]
theorem CL.set {listed : Array Bool} {i : Nat} {w : World} (h01 : ∀ w, C0 w → C1 w) (h : CL s C0 C1 listed w) : CL s C0 C1 (listed.setIfInBounds i true) w := by
  by_cases hi : i = s
  · subst hi
    rcases Nat.lt_or_ge i listed.size with hl | hl
    · refine ⟨fun h1 => (by rw [getD_set_self hl] at h1; cases h1), fun _ => ?_⟩
      cases hb : listed.getD i false with
      | true => exact h.2 hb
      | false => exact h01 _ (h.1 hb)
    · rw [Array.setIfInBounds_eq_of_size_le hl]; exact h
  · exact h.set_ne hi
theorem parOp_cls {i : Nat} {K : Act → World → Prop} {a : Act} {w : World} (h : ∀ w, C w → C' w) (hh : parOp P ops C Q i K a w) : parOp P ops C' Q i K a w := by
  unfold parOp at *
  split
  · rename_i ho; simp only [ho] at hh; exact hh
  · rename_i o ho
    simp only [ho] at hh
    split
    · rename_i hw; simp only [hw, if_true] at hh; exact Oper.wp_mono (fun a w ⟨h1, h2⟩ => ⟨h _ h1, h2⟩) hh
    · rename_i hw; simp only [hw] at hh; exact hh
theorem parOp_put2 {j : Nat} {oi oj : Oper} {v : Value} (hj : ops[j]? = some oj) (hap : oi.apart ops oj = true) (hsi : ∀ cs b, oi.op ≠ .select cs b) (hsj : ∀ cs b, oj.op ≠ .select cs b)
    (hQ : ∀ c a w, Q (.panic c) (a.put oi.dst v) w → Q (.panic c) a w) {K : Act → World → Prop} {a : Act} {w : World} (hC : C w)
    (hy : YieldsC P ops CY oi v a) (h : parOp P ops C Q j K (a.put oi.dst v) w) : parOp P ops C Q j (fun a' w' => C w' ∧ YieldsC P ops CY oi v a' ∧ K (a'.put oi.dst v) w') a w := by
  obtain ⟨h1, h2, h3⟩ := Oper.apart_spec hap
  have keep : ∀ (a : Act), YieldsC P ops CY oi v a → ∀ u, YieldsC P ops CY oi v (a.put oj.dst u) := fun a hy u => hy.of_same (execOp_put oi hsi a oj.dst u h3) (wanted_put oi a oj.dst u h3)
  have keepD : ∀ d, YieldsC P ops CY oi v { a with defers := d :: a.defers } := fun d => hy.of_same rfl rfl
  unfold parOp at *
  simp only [hj] at *
  rw [wanted_put oj a oi.dst v h1] at h
  split
  · rename_i hw
    simp only [hw, if_true] at h
    unfold Oper.wp at *
    rw [execOp_put oj hsj a oi.dst v h1] at h
    generalize (execOp a.eval oj).run P w = r at *
    cases r with
    | ok n w' =>
      cases n <;> simp only [Oper.upon] at h ⊢
      case value u => exact ⟨h.1, h.1, keep a hy u, by rw [← Act.put_comm a v u h2]; exact h.2⟩
      case skip => exact ⟨h.1, h.1, keep a hy _, by rw [← Act.put_comm a v undef h2]; exact h.2⟩
      case defer d =>
        refine ⟨h.1, h.1, keep _ (keepD d) _, ?_⟩
        rw [← Act.put_comm _ v undef h2, ← Act.put_defers]
        exact h.2
      case enter f args =>
        refine Calls.mono h fun e w'' he => ?_
        cases e with
        | returned u => exact ⟨he.1, he.1, keep a hy u, by rw [← Act.put_comm a v u h2]; exact he.2⟩
        | panicked c => exact hQ _ _ _ he
        | outgrown => exact he
      case row row args => exact Rows.mono h fun u w'' he => ⟨he.1, he.1, keep a hy u, by rw [← Act.put_comm a v u h2]; exact he.2⟩
    | halt x w' =>
      cases x <;> simp only [Oper.upon] at h ⊢
      case panic u => exact hQ _ _ _ h
  · rename_i hw
    simp only [hw] at h
    exact ⟨hC, keep a hy _, by rw [← Act.put_comm a v undef h2]; exact h⟩
/-- Ahead of the switch: 0: turns the memory; 1: reads what stays; 2: reads what stays till the switch. -/
def wpParS (P : Program) (ops : Array Oper) (C0 C1 : World → Prop) (Q : Exit → Act → World → Prop) (s : Nat) (t : PT) : List (Nat × Nat) → Act → World → Prop
  | [], a, w => parOp P ops C1 Q s (wpTree P ops C1 Q t) a w
  | (k, 0) :: r, a, w => parOp P ops C0 Q k (fun a' w' => wpParS P ops C0 C1 Q s t r a' w') a w
  | (k, 1) :: r, a, w => match ops[k]? with
    | none => False
    | some o => ∃ v, YieldsC P ops C1 o v a ∧ wpParS P ops C0 C1 Q s t r (a.put o.dst v) w
  | (k, _ + 2) :: r, a, w => match ops[k]? with
    | none => False
    | some o => ∃ v, YieldsC P ops C0 o v a ∧ wpParS P ops C0 C1 Q s t r (a.put o.dst v) w
section
variable {n : Nat} {L : Array Bool → Act → World → Prop}
def wpAnyTS (P : Program) (md : Region.Mode) (ops : Array Oper) (s : Nat) (C0 C1 : World → Prop) (Q : Exit → Act → World → Prop) (n : Nat) (L : Array Bool → Act → World → Prop) : Nat → Array Bool → Act → World → Prop
  | 0, listed, a, w => L listed a w
  | f + 1, listed, a, w => Region.ready md ops listed ≠ [] ∧ ∀ i ∈ Region.ready md ops listed, i < n ∧ parOp P ops (CL s C0 C1 (listed.setIfInBounds i true)) Q i (wpAnyTS P md ops s C0 C1 Q n L f (listed.setIfInBounds i true)) a w
theorem wpAny_of_headTS {g : Nat} (hL : ∀ listed a w, L listed a w → wpAny P md ops Q g listed a w) :
    ∀ (f : Nat) (listed : Array Bool) (a : Act) (w : World), wpAnyTS P md ops s C0 C1 Q n L f listed a w → wpAny P md ops Q (f + g) listed a w
  | 0, listed, a, w, h => by rw [Nat.zero_add]; exact hL _ _ _ h
  | f + 1, listed, a, w, h => by
    rw [show f + 1 + g = (f + g) + 1 by omega]
    exact ⟨fun h0 => absurd h0 h.1, fun i hi => wpOp_of_parOp (fun a' w' h' => wpAny_of_headTS hL f _ a' w' h') (h.2 i hi).2⟩
theorem wpAnyTS_of_T : ∀ (f : Nat) (listed : Array Bool) (a : Act) (w : World), listed.getD s false = true → wpAnyT P md ops C1 Q n L f listed a w → wpAnyTS P md ops s C0 C1 Q n L f listed a w
  | 0, _, _, _, _, h => h
  | f + 1, listed, a, w, hs, h => ⟨h.1, fun i hi => ⟨(h.2 i hi).1, parOp_mono (fun a w h => wpAnyTS_of_T f _ a w (getD_set_true hs) h)
      (parOp_cls (fun w hw => ⟨fun h0 => (by rw [getD_set_true hs] at h0; cases h0), fun _ => hw⟩) (h.2 i hi).2)⟩⟩
theorem wpAnyTS_first {i : Nat} {oi : Oper} {v : Value} (hi : ops[i]? = some oi) (hsel : ∀ (j : Nat) (o : Oper) cs b, ops[j]? = some o → o.op ≠ .select cs b)
    (hQ : ∀ c a w, Q (.panic c) (a.put oi.dst v) w → Q (.panic c) a w) (hs : Region.sinkB md ops n = true) (hc : Region.chainB md ops n = true) (hn : n < ops.size) (hin : i < n) (his : i ≠ s)
    (hdone : ∀ listed a w, L listed a w → ∀ j ∈ Region.ready md ops listed, n ≤ j) (h01 : ∀ w, C0 w → C1 w)
    (hY : ∀ listed w, Clo md ops listed → listed.getD i true = false → CL s C0 C1 listed w → CY w) :
    ∀ (f : Nat) (listed : Array Bool) (a : Act) (w : World), CL s C0 C1 listed w → HeadInv md ops n listed →
      (∀ j oj, ops[j]? = some oj → j ≠ i → listed.getD j true = false → (∀ e ∈ oj.after, Region.binds md e = true → e.on ≠ i) → oi.apart ops oj = true) →
      i ∈ Region.ready md ops listed → YieldsC P ops CY oi v a → wpAnyTS P md ops s C0 C1 Q n L f (listed.setIfInBounds i true) (a.put oi.dst v) w → wpAnyTS P md ops s C0 C1 Q n L (f + 1) listed a w := by
  have self : ∀ {listed : Array Bool} {a : Act} {w : World} {K : Act → World → Prop}, CL s C0 C1 listed w → HeadInv md ops n listed → i ∈ Region.ready md ops listed → YieldsC P ops CY oi v a → K (a.put oi.dst v) w → parOp P ops (CL s C0 C1 (listed.setIfInBounds i true)) Q i K a w := fun {listed a w K} hC inv hr hy H => by
    have hcy := hY listed w inv.closed (mem_ready.1 hr).1 hC
    unfold parOp
    simp only [hi]
    rcases hy with ⟨hw, hv⟩ | ⟨hw, rfl⟩
    · simp only [hw, if_true, Oper.wp, hv w hcy, Oper.upon]; exact ⟨hC.set_ne his, H⟩
    · simp only [hw, Bool.false_eq_true, if_false]; exact H
  intro f
  induction f with
  | zero =>
    intro listed a w hC inv _ hr hy H
    have hun := (mem_ready.1 hr).1
    refine ⟨fun h => (by rw [h] at hr; cases hr), fun j hj => ?_⟩
    have hjn : j < n := by
      rcases Nat.lt_or_ge j n with h | h
      · exact h
      · exact absurd hj (tail_waits hs hc hn inv _ i rfl hin hun j h)
    refine ⟨hjn, ?_⟩
    by_cases hji : j = i
    · subst hji; exact self hC inv hr hy H
    · have := hdone _ _ _ H j (ready_mono hj hji)
      omega
  | succ f ih =>
    intro listed a w hC inv hfree hr hy H
    have hun := (mem_ready.1 hr).1
    refine ⟨fun h => (by rw [h] at hr; cases hr), fun j hj => ?_⟩
    have hjn : j < n := by
      rcases Nat.lt_or_ge j n with h | h
      · exact h
      · exact absurd hj (tail_waits hs hc hn inv _ i rfl hin hun j h)
    refine ⟨hjn, ?_⟩
    by_cases hji : j = i
    · subst hji; exact self hC inv hr hy H
    · have h1 := (H.2 j (ready_mono hj hji)).2
      obtain ⟨hjun, oj, hoj, hall⟩ := mem_ready.1 hj
      have hnot : ∀ e ∈ oj.after, Region.binds md e = true → e.on ≠ i := fun e he hb heq => by
        have h1 := hall e he hb
        rw [heq, getD_both hun] at h1
        cases h1
      rw [Array.setIfInBounds_comm _ _ (Ne.symm hji)] at h1
      have h1' := parOp_cls (C' := CL s C0 C1 (listed.setIfInBounds j true)) (fun w hw => by
        unfold CL at hw ⊢; rw [getD_set_ne false his] at hw; exact hw) h1
      have h2 := parOp_put2 hoj (hfree j oj hoj hji hjun hnot) (fun cs b => hsel i oi cs b hi) (fun cs b => hsel j oj cs b hoj) hQ (hC.set h01) hy h1'
      have hfree' : ∀ k ok, ops[k]? = some ok → k ≠ i → (listed.setIfInBounds j true).getD k true = false → (∀ e ∈ ok.after, Region.binds md e = true → e.on ≠ i) → oi.apart ops ok = true := fun k ok hk hki hun hno => by
        refine hfree k ok hk hki ?_ hno
        by_cases hjk : j = k
        · subst hjk; exact hjun
        · rw [getD_set_ne true hjk] at hun; exact hun
      exact parOp_mono (fun a' w' h3 => ih (listed.setIfInBounds j true) a' w' h3.1 (inv.set hj hjn) hfree' (ready_mono hr (Ne.symm hji)) h3.2.1 h3.2.2) h2
def parSB (md : Region.Mode) (ops : Array Oper) (n g s : Nat) (t : PT) : List (Nat × Nat) → Array Bool → Bool
  | [], listed => Nat.blt s n && decide (Region.ready md ops listed = [s]) && treeTB md ops n g t (listed.setIfInBounds s true)
  | (k, 0) :: r, listed => Nat.blt k n && !Nat.beq k s && decide (Region.ready md ops listed = [k]) && parSB md ops n g s t r (listed.setIfInBounds k true)
  | (k, 1) :: r, listed => Nat.blt k n && !Nat.beq k s && (Region.ready md ops listed).contains k && Region.free md ops listed k && parSB md ops n g s t r (listed.setIfInBounds k true)
  | (k, _ + 2) :: r, listed => Nat.blt k n && !Nat.beq k s && (Region.ready md ops listed).contains k && Region.free md ops listed k && mustB md ops k ops.size s && parSB md ops n g s t r (listed.setIfInBounds k true)
def preLen (t : PT) : List (Nat × Nat) → Nat
  | [] => t.len + 1
  | _ :: r => preLen t r + 1
theorem ne_of_nbeq {a b : Nat} (h : (!Nat.beq a b) = true) : a ≠ b := fun e => by subst e; simp at h
theorem wpAnyTS_par {g : Nat} {Lq : Act → World → Prop} {t : PT} (hsel : Region.noSelect ops = true) (hs : Region.sinkB md ops n = true) (hc : Region.chainB md ops n = true) (hn : n < ops.size)
    (hQ : ∀ (o : Oper), o ∈ ops → ∀ v c a w, Q (.panic c) (a.put o.dst v) w → Q (.panic c) a w) (h01 : ∀ w, C0 w → C1 w) : ∀ (pre : List (Nat × Nat)) (listed : Array Bool) (a : Act) (w : World), C0 w → listed.getD s false = false → HeadInv md ops n listed →
    parSB md ops n g s t pre listed = true → wpParS P ops C0 C1 (thenT Lq Q) s t pre a w → wpAnyTS P md ops s C0 C1 Q n (fun listed' a' w' => Region.seqB md ops g n listed' = true ∧ Lq a' w') (preLen t pre) listed a w
  | [], listed, a, w, hC, hun, inv, hB, h => by
    simp only [parSB, Bool.and_eq_true, decide_eq_true_eq] at hB
    obtain ⟨⟨hsn, hr⟩, ht⟩ := hB
    have hsn : s < n := by simpa [Nat.blt_eq] using hsn
    have hr' : s ∈ Region.ready md ops listed := by rw [hr]; simp
    have hsz : s < listed.size := by rw [inv.size]; omega
    refine ⟨fun h1 => (by rw [hr] at h1; cases h1), fun i hi => ?_⟩
    rw [hr] at hi
    have hik : i = s := by simpa using hi
    subst hik
    refine ⟨hsn, ?_⟩
    have h' : parOp P ops C1 (thenT Lq Q) i (wpTree P ops C1 (thenT Lq Q) t) a w := h
    have inv' := inv.set hr' hsn
    exact parOp_cls (fun w hw => ⟨fun h0 => (by rw [getD_set_self hsz] at h0; cases h0), fun _ => hw⟩) (parOp_thenT h' (fun a w hc1 h2 => wpAnyTS_of_T _ _ a w (getD_set_self hsz) (wpAnyT_tree hsel hs hc hn hQ t _ a w hc1 inv' ht h2))
      (fun _ h2 => wpAnyTS_of_T _ _ _ _ (getD_set_self hsz) (wpAnyT_tree hsel hs hc hn hQ t _ _ _ (h01 _ hC) inv' ht h2)) (fun h2 => wpAnyTS_of_T _ _ _ _ (getD_set_self hsz) (wpAnyT_tree hsel hs hc hn hQ t _ _ _ (h01 _ hC) inv' ht h2)))
  | (k, 0) :: r, listed, a, w, hC, hun, inv, hB, h => by
    simp only [parSB, Bool.and_eq_true, decide_eq_true_eq] at hB
    obtain ⟨⟨⟨hkn, hks⟩, hr⟩, ht⟩ := hB
    have hkn : k < n := by simpa [Nat.blt_eq] using hkn
    have hks := ne_of_nbeq hks
    have hr' : k ∈ Region.ready md ops listed := by rw [hr]; simp
    have hun' : (listed.setIfInBounds k true).getD s false = false := by rw [getD_set_ne false hks]; exact hun
    refine ⟨fun h1 => (by rw [hr] at h1; cases h1), fun i hi => ?_⟩
    rw [hr] at hi
    have hik : i = k := by simpa using hi
    subst hik
    refine ⟨hkn, ?_⟩
    have h' : parOp P ops C0 (thenT Lq Q) i (fun a' w' => wpParS P ops C0 C1 (thenT Lq Q) s t r a' w') a w := h
    have inv' := inv.set hr' hkn
    exact parOp_cls (fun w hw => ⟨fun _ => hw, fun h0 => (by rw [hun'] at h0; cases h0)⟩) (parOp_thenT h' (fun a w hc0 h2 => wpAnyTS_par hsel hs hc hn hQ h01 r _ a w hc0 hun' inv' ht h2)
      (fun _ h2 => wpAnyTS_par hsel hs hc hn hQ h01 r _ _ _ hC hun' inv' ht h2) (fun h2 => wpAnyTS_par hsel hs hc hn hQ h01 r _ _ _ hC hun' inv' ht h2))
  | (k, 1) :: r, listed, a, w, hC, hun, inv, hB, h => by
    simp only [parSB, Bool.and_eq_true, decide_eq_true_eq] at hB
    obtain ⟨⟨⟨⟨hkn, hks⟩, hr⟩, hf⟩, ht⟩ := hB
    have hkn : k < n := by simpa [Nat.blt_eq] using hkn
    have hks := ne_of_nbeq hks
    have hr' : k ∈ Region.ready md ops listed := by simpa using hr
    have hun' : (listed.setIfInBounds k true).getD s false = false := by rw [getD_set_ne false hks]; exact hun
    simp only [wpParS] at h
    cases h0 : ops[k]? with
    | none => simp only [h0] at h
    | some o =>
      simp only [h0] at h
      obtain ⟨v, hy, hK⟩ := h
      exact wpAnyTS_first h0 (Region.noSelect_spec hsel) (hQ o (Array.mem_of_getElem? h0) v) hs hc hn hkn hks (fun listed' a' w' hL => seqB_ready hL.1) h01
        (fun listed w _ _ hCL => by
          cases hb : listed.getD s false with
          | true => exact hCL.2 hb
          | false => exact h01 _ (hCL.1 hb)) (preLen t r) listed a w ⟨fun _ => hC, fun h0 => (by rw [hun] at h0; cases h0)⟩ inv (Region.free_spec h0 hf) hr' hy
        (wpAnyTS_par hsel hs hc hn hQ h01 r _ _ _ hC hun' (inv.set hr' hkn) ht hK)
  | (k, m + 2) :: r, listed, a, w, hC, hun, inv, hB, h => by
    simp only [parSB, Bool.and_eq_true, decide_eq_true_eq] at hB
    obtain ⟨⟨⟨⟨⟨hkn, hks⟩, hr⟩, hf⟩, hmust⟩, ht⟩ := hB
    have hkn : k < n := by simpa [Nat.blt_eq] using hkn
    have hks := ne_of_nbeq hks
    have hr' : k ∈ Region.ready md ops listed := by simpa using hr
    have hun' : (listed.setIfInBounds k true).getD s false = false := by rw [getD_set_ne false hks]; exact hun
    simp only [wpParS] at h
    cases h0 : ops[k]? with
    | none => simp only [h0] at h
    | some o =>
      simp only [h0] at h
      obtain ⟨v, hy, hK⟩ := h
      exact wpAnyTS_first h0 (Region.noSelect_spec hsel) (hQ o (Array.mem_of_getElem? h0) v) hs hc hn hkn hks (fun listed' a' w' hL => seqB_ready hL.1) h01
        (fun listed w hclo hui hCL => by
          cases hb : listed.getD s false with
          | true => have := must_listed hclo _ _ hmust hb; rw [getD_both hui] at this; cases this
          | false => exact hCL.1 hb) (preLen t r) listed a w ⟨fun _ => hC, fun h0 => (by rw [hun] at h0; cases h0)⟩ inv (Region.free_spec h0 hf) hr' hy
        (wpAnyTS_par hsel hs hc hn hQ h01 r _ _ _ hC hun' (inv.set hr' hkn) ht hK)
end
def wpAnyS (P : Program) (md : Region.Mode) (ops : Array Oper) (s : Nat) (C0 C1 : World → Prop) (Q : Exit → Act → World → Prop) : Nat → Array Bool → Act → World → Prop
  | 0, listed, a, w => Region.ready md ops listed = [] ∧ Q .normal a w
  | f + 1, listed, a, w => (Region.ready md ops listed = [] → Q .normal a w) ∧ ∀ i ∈ Region.ready md ops listed, parOp P ops (CL s C0 C1 (listed.setIfInBounds i true)) Q i (wpAnyS P md ops s C0 C1 Q f (listed.setIfInBounds i true)) a w
theorem wpAny_of_S : ∀ (f : Nat) (listed : Array Bool) (a : Act) (w : World), wpAnyS P md ops s C0 C1 Q f listed a w → wpAny P md ops Q f listed a w
  | 0, _, _, _, h => h
  | f + 1, _, _, _, h => ⟨h.1, fun i hi => wpOp_of_parOp (fun a w h => wpAny_of_S f _ a w h) (h.2 i hi)⟩
theorem wpAnyS_of_P : ∀ (f : Nat) (listed : Array Bool) (a : Act) (w : World), listed.getD s false = true → wpAnyP P md ops C1 Q f listed a w → wpAnyS P md ops s C0 C1 Q f listed a w
  | 0, _, _, _, _, h => h
  | f + 1, listed, a, w, hs, h => ⟨h.1, fun i hi => parOp_mono (fun a w h => wpAnyS_of_P f _ a w (getD_set_true hs) h)
      (parOp_cls (fun w hw => ⟨fun h0 => (by rw [getD_set_true hs] at h0; cases h0), fun _ => hw⟩) (h.2 i hi))⟩
theorem wpAnyS_first {i : Nat} {oi : Oper} {v : Value} (hi : ops[i]? = some oi) (hsel : ∀ (j : Nat) (o : Oper) cs b, ops[j]? = some o → o.op ≠ .select cs b)
    (hQ : ∀ c a w, Q (.panic c) (a.put oi.dst v) w → Q (.panic c) a w) (his : i ≠ s) (h01 : ∀ w, C0 w → C1 w)
    (hY : ∀ listed w, Clo md ops listed → listed.getD i true = false → CL s C0 C1 listed w → CY w) :
    ∀ (f : Nat) (listed : Array Bool) (a : Act) (w : World), CL s C0 C1 listed w → Clo md ops listed →
      (∀ j oj, ops[j]? = some oj → j ≠ i → listed.getD j true = false → (∀ e ∈ oj.after, Region.binds md e = true → e.on ≠ i) → oi.apart ops oj = true) →
      i ∈ Region.ready md ops listed → YieldsC P ops CY oi v a → wpAnyS P md ops s C0 C1 Q f (listed.setIfInBounds i true) (a.put oi.dst v) w → wpAnyS P md ops s C0 C1 Q (f + 1) listed a w := by
  have self : ∀ {listed : Array Bool} {a : Act} {w : World} {K : Act → World → Prop}, CL s C0 C1 listed w → Clo md ops listed → i ∈ Region.ready md ops listed → YieldsC P ops CY oi v a → K (a.put oi.dst v) w → parOp P ops (CL s C0 C1 (listed.setIfInBounds i true)) Q i K a w := fun {listed a w K} hC inv hr hy H => by
    have hcy := hY listed w inv (mem_ready.1 hr).1 hC
    unfold parOp
    simp only [hi]
    rcases hy with ⟨hw, hv⟩ | ⟨hw, rfl⟩
    · simp only [hw, if_true, Oper.wp, hv w hcy, Oper.upon]; exact ⟨hC.set_ne his, H⟩
    · simp only [hw, Bool.false_eq_true, if_false]; exact H
  intro f
  induction f with
  | zero =>
    intro listed a w hC inv _ hr hy H
    refine ⟨fun h => (by rw [h] at hr; cases hr), fun j hj => ?_⟩
    by_cases hji : j = i
    · subst hji; exact self hC inv hr hy H
    · have := ready_mono hj hji
      rw [H.1] at this
      cases this
  | succ f ih =>
    intro listed a w hC inv hfree hr hy H
    have hun := (mem_ready.1 hr).1
    refine ⟨fun h => (by rw [h] at hr; cases hr), fun j hj => ?_⟩
    by_cases hji : j = i
    · subst hji; exact self hC inv hr hy H
    · have h1 := H.2 j (ready_mono hj hji)
      obtain ⟨hjun, oj, hoj, hall⟩ := mem_ready.1 hj
      have hnot : ∀ e ∈ oj.after, Region.binds md e = true → e.on ≠ i := fun e he hb heq => by
        have h1 := hall e he hb
        rw [heq, getD_both hun] at h1
        cases h1
      rw [Array.setIfInBounds_comm _ _ (Ne.symm hji)] at h1
      have h1' := parOp_cls (C' := CL s C0 C1 (listed.setIfInBounds j true)) (fun w hw => by
        unfold CL at hw ⊢; rw [getD_set_ne false his] at hw; exact hw) h1
      have h2 := parOp_put2 hoj (hfree j oj hoj hji hjun hnot) (fun cs b => hsel i oi cs b hi) (fun cs b => hsel j oj cs b hoj) hQ (hC.set h01) hy h1'
      have hfree' : ∀ k ok, ops[k]? = some ok → k ≠ i → (listed.setIfInBounds j true).getD k true = false → (∀ e ∈ ok.after, Region.binds md e = true → e.on ≠ i) → oi.apart ops ok = true := fun k ok hk hki hun hno => by
        refine hfree k ok hk hki ?_ hno
        by_cases hjk : j = k
        · subst hjk; exact hjun
        · rw [getD_set_ne true hjk] at hun; exact hun
      exact parOp_mono (fun a' w' h3 => ih (listed.setIfInBounds j true) a' w' h3.1 (inv.set hj) hfree' (ready_mono hr (Ne.symm hji)) h3.2.1 h3.2.2) h2
def parSP (md : Region.Mode) (ops : Array Oper) (s : Nat) (t : PT) : List (Nat × Nat) → Array Bool → Bool
  | [], listed => Nat.blt s listed.size && decide (Region.ready md ops listed = [s]) && treeB md ops t (listed.setIfInBounds s true)
  | (k, 0) :: r, listed => !Nat.beq k s && decide (Region.ready md ops listed = [k]) && parSP md ops s t r (listed.setIfInBounds k true)
  | (k, 1) :: r, listed => !Nat.beq k s && (Region.ready md ops listed).contains k && Region.free md ops listed k && parSP md ops s t r (listed.setIfInBounds k true)
  | (k, _ + 2) :: r, listed => !Nat.beq k s && (Region.ready md ops listed).contains k && Region.free md ops listed k && mustB md ops k ops.size s && parSP md ops s t r (listed.setIfInBounds k true)
theorem wpAnyS_par {t : PT} (hsel : Region.noSelect ops = true) (hQ : ∀ (o : Oper), o ∈ ops → ∀ v c a w, Q (.panic c) (a.put o.dst v) w → Q (.panic c) a w) (h01 : ∀ w, C0 w → C1 w) : ∀ (pre : List (Nat × Nat)) (listed : Array Bool) (a : Act) (w : World), C0 w → listed.getD s false = false → Clo md ops listed →
    parSP md ops s t pre listed = true → wpParS P ops C0 C1 Q s t pre a w → wpAnyS P md ops s C0 C1 Q (preLen t pre) listed a w
  | [], listed, a, w, hC, hun, inv, hB, h => by
    simp only [parSP, Bool.and_eq_true, decide_eq_true_eq] at hB
    obtain ⟨⟨hsn, hr⟩, ht⟩ := hB
    have hsz : s < listed.size := by simpa [Nat.blt_eq] using hsn
    refine ⟨fun h1 => (by rw [hr] at h1; cases h1), fun i hi => ?_⟩
    rw [hr] at hi
    have hik : i = s := by simpa using hi
    subst hik
    have h' : parOp P ops C1 Q i (wpTree P ops C1 Q t) a w := h
    have h'' : parOp P ops C1 (thenT (Q .normal) Q) i (wpTree P ops C1 Q t) a w := by rw [thenT_self]; exact h'
    exact parOp_cls (fun w hw => ⟨fun h0 => (by rw [getD_set_self hsz] at h0; cases h0), fun _ => hw⟩) (parOp_thenT h'' (fun a w hc1 h2 => wpAnyS_of_P _ _ a w (getD_set_self hsz) (wpAnyP_tree hsel hQ t _ a w hc1 ht h2))
      (fun _ h2 => wpAnyS_of_P _ _ _ _ (getD_set_self hsz) (wpAnyP_tree hsel hQ t _ _ _ (h01 _ hC) ht h2)) (fun h2 => wpAnyS_of_P _ _ _ _ (getD_set_self hsz) (wpAnyP_tree hsel hQ t _ _ _ (h01 _ hC) ht h2)))
  | (k, 0) :: r, listed, a, w, hC, hun, inv, hB, h => by
    simp only [parSP, Bool.and_eq_true, decide_eq_true_eq] at hB
    obtain ⟨⟨hks, hr⟩, ht⟩ := hB
    have hks := ne_of_nbeq hks
    have hr' : k ∈ Region.ready md ops listed := by rw [hr]; simp
    have hun' : (listed.setIfInBounds k true).getD s false = false := by rw [getD_set_ne false hks]; exact hun
    refine ⟨fun h1 => (by rw [hr] at h1; cases h1), fun i hi => ?_⟩
    rw [hr] at hi
    have hik : i = k := by simpa using hi
    subst hik
    have h' : parOp P ops C0 Q i (fun a' w' => wpParS P ops C0 C1 Q s t r a' w') a w := h
    have h'' : parOp P ops C0 (thenT (Q .normal) Q) i (fun a' w' => wpParS P ops C0 C1 Q s t r a' w') a w := by rw [thenT_self]; exact h'
    have inv' := inv.set hr'
    exact parOp_cls (fun w hw => ⟨fun _ => hw, fun h0 => (by rw [hun'] at h0; cases h0)⟩) (parOp_thenT h'' (fun a w hc0 h2 => wpAnyS_par hsel hQ h01 r _ a w hc0 hun' inv' ht h2)
      (fun _ h2 => wpAnyS_par hsel hQ h01 r _ _ _ hC hun' inv' ht h2) (fun h2 => wpAnyS_par hsel hQ h01 r _ _ _ hC hun' inv' ht h2))
  | (k, 1) :: r, listed, a, w, hC, hun, inv, hB, h => by
    simp only [parSP, Bool.and_eq_true, decide_eq_true_eq] at hB
    obtain ⟨⟨⟨hks, hr⟩, hf⟩, ht⟩ := hB
    have hks := ne_of_nbeq hks
    have hr' : k ∈ Region.ready md ops listed := by simpa using hr
    have hun' : (listed.setIfInBounds k true).getD s false = false := by rw [getD_set_ne false hks]; exact hun
    simp only [wpParS] at h
    cases h0 : ops[k]? with
    | none => simp only [h0] at h
    | some o =>
      simp only [h0] at h
      obtain ⟨v, hy, hK⟩ := h
      exact wpAnyS_first h0 (Region.noSelect_spec hsel) (hQ o (Array.mem_of_getElem? h0) v) hks h01
        (fun listed w _ _ hCL => by
          cases hb : listed.getD s false with
          | true => exact hCL.2 hb
          | false => exact h01 _ (hCL.1 hb)) (preLen t r) listed a w ⟨fun _ => hC, fun h0 => (by rw [hun] at h0; cases h0)⟩ inv (Region.free_spec h0 hf) hr' hy
        (wpAnyS_par hsel hQ h01 r _ _ _ hC hun' (inv.set hr') ht hK)
  | (k, m + 2) :: r, listed, a, w, hC, hun, inv, hB, h => by
    simp only [parSP, Bool.and_eq_true, decide_eq_true_eq] at hB
    obtain ⟨⟨⟨⟨hks, hr⟩, hf⟩, hmust⟩, ht⟩ := hB
    have hks := ne_of_nbeq hks
    have hr' : k ∈ Region.ready md ops listed := by simpa using hr
    have hun' : (listed.setIfInBounds k true).getD s false = false := by rw [getD_set_ne false hks]; exact hun
    simp only [wpParS] at h
    cases h0 : ops[k]? with
    | none => simp only [h0] at h
    | some o =>
      simp only [h0] at h
      obtain ⟨v, hy, hK⟩ := h
      exact wpAnyS_first h0 (Region.noSelect_spec hsel) (hQ o (Array.mem_of_getElem? h0) v) hks h01
        (fun listed w hclo hui hCL => by
          cases hb : listed.getD s false with
          | true => have := must_listed hclo _ _ hmust hb; rw [getD_both hui] at this; cases this
          | false => exact hCL.1 hb) (preLen t r) listed a w ⟨fun _ => hC, fun h0 => (by rw [hun] at h0; cases h0)⟩ inv (Region.free_spec h0 hf) hr' hy
        (wpAnyS_par hsel hQ h01 r _ _ _ hC hun' (inv.set hr') ht hK)
theorem wp_region_treeSN {id : Nat} {a : Act} {w : World} (s : Nat) (pre : List (Nat × Nat)) (t : PT) (hm : P.follows .mixedOrders = true) (hB : (Region.noSelect ops && Nat.beq (preLen t pre) ops.size && parSP .any ops s t pre (Array.replicate ops.size false)) = true)
    (h01 : ∀ w, C0 w → C1 w) (hC : C0 { w with drawn := w.drawn + 1 }) (h : wpParS P ops C0 C1 (NoP Q) s t pre a { w with drawn := w.drawn + 1 }) : (Code.region id ops true).wp P Q a w := by
  simp only [Bool.and_eq_true] at hB
  refine wp_mono (Q := NoP Q) (wp_region_any hm (wpAny_of_S (s := s) (C0 := C0) (C1 := C1) _ _ _ _ ?_)) fun e a w h => by cases e <;> first | exact h | exact h.elim
  rw [← Nat.eq_of_beq_eq_true hB.1.2]
  exact wpAnyS_par hB.1.1 (fun _ _ _ _ _ _ h => h.elim) h01 pre _ _ _ hC (getD_replicate_false _ _) Clo.none (by rw [Nat.eq_of_beq_eq_true hB.1.2]; exact hB.2) h
theorem wp_region_treeTSN {id : Nat} {a : Act} {w : World} {l : List Oper} (n s : Nat) (pre : List (Nat × Nat)) (t : PT) (hm : P.follows .mixedOrders = true)
    (hB : (Region.noSelect l.toArray && decide (n < l.toArray.size) && Nat.beq (preLen t pre) n && Region.sinkB .any l.toArray n && Region.chainB .any l.toArray n && parSB .any l.toArray n (l.toArray.size - n) s t pre (Array.replicate l.toArray.size false)) = true)
    (h01 : ∀ w, C0 w → C1 w) (hC : C0 { w with drawn := w.drawn + 1 }) (h : wpParS P l.toArray C0 C1 (thenL P l n (NoP Q)) s t pre a { w with drawn := w.drawn + 1 }) : (Code.region id l.toArray true).wp P Q a w := by
  refine wp_mono (Q := NoP Q) ?_ fun e a w h => by cases e <;> first | exact h | exact h.elim
  simp only [Bool.and_eq_true, decide_eq_true_eq] at hB
  obtain ⟨⟨⟨⟨⟨hsel, hn⟩, hl⟩, hs⟩, hc⟩, hlex⟩ := hB
  have hl := Nat.eq_of_beq_eq_true hl
  have hdl : (l.drop n).length = l.toArray.size - n := by simp
  have inv0 : HeadInv .any l.toArray n (Array.replicate l.toArray.size false) :=
    ⟨by simp, fun j oj _ hl => (by rw [getD_replicate_false] at hl; cases hl), fun t _ ht => getD_in (by simpa using ht) (getD_replicate_false _ _)⟩
  have H := wpAnyTS_par (md := .any) (Q := NoP Q) (g := l.toArray.size - n) (Lq := fun a w => wpList P l.toArray (NoP Q) (l.drop n) a w) hsel hs hc hn (fun _ _ _ _ _ _ h => h.elim) h01 pre _ a _ hC (getD_replicate_false _ _) inv0 hlex h
  refine wp_region_any hm ?_
  have := wpAny_of_headTS (Q := NoP Q) (g := l.toArray.size - n) (fun listed a' w' hL => by
    have := wpAny_of_seq (md := .any) (Q' := NoP Q) (l.drop n) n listed a' w' (fun j => by simp [List.getElem?_drop]) (by rw [hdl]; exact hL.1) hL.2
    rwa [hdl] at this) _ _ _ _ H
  rw [hl, show n + (l.toArray.size - n) = l.toArray.size by omega] at this
  exact this
section
variable {a : Act} {w : World} {n : Fr} {L : Sl} {t : PT} {r : List (Nat × Nat)} {k : Nat} {o : Oper}
theorem spS1 {d : Nat} {v : Value} (ho : ops[k]? = some o) (hK : Kn n a L) (hd : d < n.n) (hw : wantedL ops L o = some true) (hdst : o.dst = some d) (hr : ∀ w, C1 w → Runs P w a o v)
    (h : ∀ a, Kn n a ((d, v) :: L) → wpParS P ops C0 C1 Q s t r a w) : wpParS P ops C0 C1 Q s t ((k, 1) :: r) a w := by
  simp only [wpParS, ho]
  exact ⟨v, .inl ⟨wantedL_ok hK hw, hr⟩, by rw [hdst]; exact h _ (hK.put hd v)⟩
theorem spS2 {d : Nat} {v : Value} (ho : ops[k]? = some o) (hK : Kn n a L) (hd : d < n.n) (hw : wantedL ops L o = some true) (hdst : o.dst = some d) (hr : ∀ w, C0 w → Runs P w a o v)
    (h : ∀ a, Kn n a ((d, v) :: L) → wpParS P ops C0 C1 Q s t r a w) : wpParS P ops C0 C1 Q s t ((k, 2) :: r) a w := by
  simp only [wpParS, ho]
  exact ⟨v, .inl ⟨wantedL_ok hK hw, hr⟩, by rw [hdst]; exact h _ (hK.put hd v)⟩
theorem spS1_skip {d : Nat} (ho : ops[k]? = some o) (hK : Kn n a L) (hd : d < n.n) (hw : wantedL ops L o = some false) (hdst : o.dst = some d)
    (h : ∀ a, Kn n a ((d, undef) :: L) → wpParS P ops C0 C1 Q s t r a w) : wpParS P ops C0 C1 Q s t ((k, 1) :: r) a w := by
  simp only [wpParS, ho]
  exact ⟨undef, .inr ⟨wantedL_ok hK hw, rfl⟩, by rw [hdst]; exact h _ (hK.put hd _)⟩
theorem spS2_skip {d : Nat} (ho : ops[k]? = some o) (hK : Kn n a L) (hd : d < n.n) (hw : wantedL ops L o = some false) (hdst : o.dst = some d)
    (h : ∀ a, Kn n a ((d, undef) :: L) → wpParS P ops C0 C1 Q s t r a w) : wpParS P ops C0 C1 Q s t ((k, 2) :: r) a w := by
  simp only [wpParS, ho]
  exact ⟨undef, .inr ⟨wantedL_ok hK hw, rfl⟩, by rw [hdst]; exact h _ (hK.put hd _)⟩
end
section
variable {a : Act} {w : World} {n : Fr} {L : Sl} {r : List (Nat × Bool)} {k : Nat} {o : Oper}
/-- An operation that only reads. -/
theorem sp {d : Nat} {v : Value} (ho : ops[k]? = some o) (hK : Kn n a L) (hd : d < n.n) (hw : wantedL ops L o = some true) (hdst : o.dst = some d) (hr : ∀ w, C w → Runs P w a o v)
    (h : ∀ a, Kn n a ((d, v) :: L) → wpPar P ops C Q r a w) : wpPar P ops C Q ((k, true) :: r) a w := by
  simp only [wpPar, ho]
  exact ⟨v, .inl ⟨wantedL_ok hK hw, hr⟩, by rw [hdst]; exact h _ (hK.put hd v)⟩
theorem sp_skip {d : Nat} (ho : ops[k]? = some o) (hK : Kn n a L) (hd : d < n.n) (hw : wantedL ops L o = some false) (hdst : o.dst = some d)
    (h : ∀ a, Kn n a ((d, undef) :: L) → wpPar P ops C Q r a w) : wpPar P ops C Q ((k, true) :: r) a w := by
  simp only [wpPar, ho]
  exact ⟨undef, .inr ⟨wantedL_ok hK hw, rfl⟩, by rw [hdst]; exact h _ (hK.put hd _)⟩
/-- What is asked behind one that turns the memory. -/
def parK (P : Program) (ops : Array Oper) (C : World → Prop) (Q : Exit → Act → World → Prop) (r : List (Nat × Bool)) : Exit → Act → World → Prop := fun e a w => match e with | .normal => C w ∧ wpPar P ops C Q r a w | .outgrown => False | e => Q e a w
theorem spw {R : Exit → Act → World → Prop} (hR : R = parK P ops C Q r) (ho : ops[k]? = some o) (hC : C w) (h : wpList P ops R [o] a w) (hno : ¬ LetsOut Q → True := fun _ => trivial) : wpPar P ops C Q ((k, false) :: r) a w := by
  subst hR
  simp only [wpPar, parOp, ho]
  simp only [wpList] at h
  split
  · rename_i hw
    simp only [hw, if_true] at h
    rcases h with h | ⟨_, ⟨_, _, h⟩⟩
    · unfold Oper.wp at *
      generalize (execOp a.eval o).run P w = x at *
      cases x with
      | ok n w' =>
        cases n <;> simp only [Oper.upon] at h ⊢
        case enter f args =>
          refine Calls.mono h fun e w'' he => ?_
          cases e with
          | returned u => exact he
          | panicked c => exact he
          | outgrown => exact absurd he (fun ⟨_, _, h⟩ => h)
        all_goals exact h
      | halt x w' => cases x <;> simp only [Oper.upon] at h ⊢ <;> exact h
    · exact h.elim
  · rename_i hw
    simp only [hw] at h
    exact h.2
theorem parK_nil (hC : C w) (h : wpPar P ops C Q r a w) : wpList P ops (parK P ops C Q r) [] a w := ⟨hC, h⟩
theorem wpPar_nil (h : Q .normal a w) : wpPar P ops C Q [] a w := h
/-- At a fork. -/
def parKK (C : World → Prop) (Q : Exit → Act → World → Prop) (K : Act → World → Prop) : Exit → Act → World → Prop := fun e a w => match e with | .normal => C w ∧ K a w | .outgrown => False | e => Q e a w
theorem spwB {R : Exit → Act → World → Prop} {K : Act → World → Prop} (hR : R = parKK C Q K) (ho : ops[k]? = some o) (hC : C w) (h : wpList P ops R [o] a w) : parOp P ops C Q k K a w := by
  subst hR
  simp only [parOp, ho]
  simp only [wpList] at h
  split
  · rename_i hw
    simp only [hw, if_true] at h
    rcases h with h | ⟨_, ⟨_, _, h⟩⟩
    · unfold Oper.wp at *
      generalize (execOp a.eval o).run P w = x at *
      cases x with
      | ok n w' =>
        cases n <;> simp only [Oper.upon] at h ⊢
        case enter f args =>
          refine Calls.mono h fun e w'' he => ?_
          cases e with
          | returned u => exact he
          | panicked c => exact he
          | outgrown => exact absurd he (fun ⟨_, _, h⟩ => h)
        all_goals exact h
      | halt x w' => cases x <;> simp only [Oper.upon] at h ⊢ <;> exact h
    · exact h.elim
  · rename_i hw
    simp only [hw] at h
    exact h.2
theorem parS_nil {C0 C1 : World → Prop} {E : Exit → Act → World → Prop} {s : Nat} {t : PT} (h : parOp P ops C1 E s (wpTree P ops C1 E t) a w) : wpParS P ops C0 C1 E s t [] a w := h
theorem parS_cons {C0 C1 : World → Prop} {E : Exit → Act → World → Prop} {s : Nat} {t : PT} {k : Nat} {r : List (Nat × Nat)} (h : parOp P ops C0 E k (fun a' w' => wpParS P ops C0 C1 E s t r a' w') a w) : wpParS P ops C0 C1 E s t ((k, 0) :: r) a w := h
theorem parKK_nilS {C0 C1 C2 : World → Prop} {E : Exit → Act → World → Prop} {s : Nat} {t : PT} {r : List (Nat × Nat)} (hC : C2 w) (h : wpParS P ops C0 C1 E s t r a w) : wpList P ops (parKK C2 Q (fun a' w' => wpParS P ops C0 C1 E s t r a' w')) [] a w := ⟨hC, h⟩
theorem parKK_nil {E : Exit → Act → World → Prop} {t : PT} (hC : C w) (h : wpTree P ops C E t a w) : wpList P ops (parKK C Q (wpTree P ops C E t)) [] a w := ⟨hC, h⟩
theorem tree_br {E : Exit → Act → World → Prop} {i j : Nat} {ti tj : PT} (h1 : parOp P ops C E i (wpTree P ops C E ti) a w) (h2 : parOp P ops C E j (wpTree P ops C E tj) a w) : thenT (fun a w => parOp P ops C E i (wpTree P ops C E ti) a w ∧ parOp P ops C E j (wpTree P ops C E tj) a w) E .normal a w := ⟨h1, h2⟩
theorem tree_br3 {E : Exit → Act → World → Prop} {i j k : Nat} {ti tj tk : PT} (h1 : parOp P ops C E i (wpTree P ops C E ti) a w) (h2 : parOp P ops C E j (wpTree P ops C E tj) a w) (h3 : parOp P ops C E k (wpTree P ops C E tk) a w) : thenT (fun a w => parOp P ops C E i (wpTree P ops C E ti) a w ∧ parOp P ops C E j (wpTree P ops C E tj) a w ∧ parOp P ops C E k (wpTree P ops C E tk) a w) E .normal a w := ⟨h1, h2, h3⟩
theorem tree_list {E : Exit → Act → World → Prop} {l : List (Nat × Bool)} (h : wpPar P ops C E l a w) : wpTree P ops C E (.list l) a w := h
theorem tree_fork {E : Exit → Act → World → Prop} {l : List (Nat × Bool)} {i j : Nat} {ti tj : PT} (h : wpPar P ops C (thenT (fun a w => parOp P ops C E i (wpTree P ops C E ti) a w ∧ parOp P ops C E j (wpTree P ops C E tj) a w) E) l a w) : wpTree P ops C E (.br l i ti j tj) a w := h
theorem tree_fork3 {E : Exit → Act → World → Prop} {l : List (Nat × Bool)} {i j k : Nat} {ti tj tk : PT} (h : wpPar P ops C (thenT (fun a w => parOp P ops C E i (wpTree P ops C E ti) a w ∧ parOp P ops C E j (wpTree P ops C E tj) a w ∧ parOp P ops C E k (wpTree P ops C E tk) a w) E) l a w) : wpTree P ops C E (.br3 l i ti j tj k tk) a w := h
end
end
end Go.Eng
