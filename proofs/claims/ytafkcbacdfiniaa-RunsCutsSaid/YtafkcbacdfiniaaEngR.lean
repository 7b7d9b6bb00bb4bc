/-
  The engine: regions that draw their order. Operations that only read may come up at any time; those that turn the memory stand in one row. One walk of a row of our choosing serves every order.
-/
import Derived.Test.YtafkcbacdfiniaaEng1
import Derived.StillTail
namespace Go.Eng
set_option linter.unusedVariables false
set_option linter.unusedSimpArgs false
section
variable {P : Program} {ops : Array Oper} {md : Region.Mode} {C : World → Prop} {Q : Exit → Act → World → Prop}

/-- Operation i comes up; what it leaves is a world of the class. -/
def parOp (P : Program) (ops : Array Oper) (C : World → Prop) (Q : Exit → Act → World → Prop) (i : Nat) (K : Act → World → Prop) (a : Act) (w : World) : Prop :=
  match ops[i]? with
  | none => K a w
  | some o => if Region.wanted o (yielded ops a.tmps) then o.wp P a w (fun a' w' => C w' ∧ K a' w') Q else K (a.put o.dst undef) w
def wpAnyP (P : Program) (md : Region.Mode) (ops : Array Oper) (C : World → Prop) (Q : Exit → Act → World → Prop) : Nat → Array Bool → Act → World → Prop
  | 0, listed, a, w => Region.ready md ops listed = [] ∧ Q .normal a w
  | f + 1, listed, a, w => (Region.ready md ops listed = [] → Q .normal a w) ∧ ∀ i ∈ Region.ready md ops listed, parOp P ops C Q i (wpAnyP P md ops C Q f (listed.setIfInBounds i true)) a w
theorem parOp_mono {i : Nat} {a : Act} {w : World} {K K' : Act → World → Prop} (h : ∀ a w, K a w → K' a w) (hh : parOp P ops C Q i K a w) : parOp P ops C Q i K' a w := by
  unfold parOp at *
  split
  · rename_i ho; simp only [ho] at hh; exact h _ _ hh
  · rename_i o ho
    simp only [ho] at hh
    split
    · rename_i hw; simp only [hw, if_true] at hh; exact Oper.wp_mono (fun a w ⟨h1, h2⟩ => ⟨h1, h _ _ h2⟩) hh
    · rename_i hw; simp only [hw] at hh; exact h _ _ hh
theorem wpOp_of_parOp {i : Nat} {a : Act} {w : World} {K K' : Act → World → Prop} (h : ∀ a w, K a w → K' a w) (hh : parOp P ops C Q i K a w) : wpOp P ops Q i K' a w := by
  unfold parOp at hh
  unfold wpOp
  split
  · rename_i ho; simp only [ho] at hh; exact h _ _ hh
  · rename_i o ho
    simp only [ho] at hh
    split
    · rename_i hw; simp only [hw, if_true] at hh; exact .inl (Oper.wp_mono (fun a w ⟨_, h2⟩ => h _ _ h2) hh)
    · rename_i hw; simp only [hw] at hh; exact h _ _ hh
theorem wpAny_of_par : ∀ (f : Nat) (listed : Array Bool) (a : Act) (w : World), wpAnyP P md ops C Q f listed a w → wpAny P md ops Q f listed a w
  | 0, _, _, _, h => h
  | f + 1, _, _, _, h => ⟨h.1, fun i hi => wpOp_of_parOp (fun a w h => wpAny_of_par f _ a w h) (h.2 i hi)⟩

/-- In every world of the class the operation yields this, and leaves the world alone. -/
def YieldsC (P : Program) (ops : Array Oper) (C : World → Prop) (o : Oper) (v : Value) (a : Act) : Prop :=
  (Region.wanted o (yielded ops a.tmps) = true ∧ ∀ w, C w → (execOp a.eval o).run P w = .ok (.value v) w) ∨ (Region.wanted o (yielded ops a.tmps) = false ∧ v = undef)
theorem YieldsC.parOp {i : Nat} {o : Oper} {v : Value} {a : Act} {w : World} (hi : ops[i]? = some o) (hy : YieldsC P ops C o v a) (hC : C w) {K : Act → World → Prop} (h : K (a.put o.dst v) w) : parOp P ops C Q i K a w := by
  unfold Eng.parOp
  simp only [hi]
  rcases hy with ⟨hw, hv⟩ | ⟨hw, rfl⟩
  · simp only [hw, if_true, Oper.wp, hv w hC, Oper.upon]; exact ⟨hC, h⟩
  · simp only [hw, Bool.false_eq_true, if_false]; exact h
theorem YieldsC.of_same {o : Oper} {v : Value} {a a' : Act} (hy : YieldsC P ops C o v a) (he : execOp a'.eval o = execOp a.eval o) (hw : Region.wanted o (yielded ops a'.tmps) = Region.wanted o (yielded ops a.tmps)) : YieldsC P ops C o v a' := by
  unfold YieldsC at *
  rw [he, hw]
  exact hy
theorem parOp_put {j : Nat} {oi oj : Oper} {v : Value} (hj : ops[j]? = some oj) (hap : oi.apart ops oj = true) (hsi : ∀ cs b, oi.op ≠ .select cs b) (hsj : ∀ cs b, oj.op ≠ .select cs b)
    (hQ : ∀ c a w, Q (.panic c) (a.put oi.dst v) w → Q (.panic c) a w) {K : Act → World → Prop} {a : Act} {w : World} (hC : C w)
    (hy : YieldsC P ops C oi v a) (h : parOp P ops C Q j K (a.put oi.dst v) w) : parOp P ops C Q j (fun a' w' => C w' ∧ YieldsC P ops C oi v a' ∧ K (a'.put oi.dst v) w') a w := by
  obtain ⟨h1, h2, h3⟩ := Oper.apart_spec hap
  have keep : ∀ (a : Act), YieldsC P ops C oi v a → ∀ u, YieldsC P ops C oi v (a.put oj.dst u) := fun a hy u => hy.of_same (execOp_put oi hsi a oj.dst u h3) (wanted_put oi a oj.dst u h3)
  have keepD : ∀ d, YieldsC P ops C oi v { a with defers := d :: a.defers } := fun d => hy.of_same rfl rfl
  unfold parOp at *
  simp only [hj] at *
  rw [wanted_put oj a oi.dst v h1] at h
  split
  · rename_i hw
    simp only [hw, if_true] at h
    unfold Oper.wp at *
    rw [execOp_put oj hsj a oi.dst v h1] at h
    generalize (execOp a.eval oj).run P w = r at *
    cases r with
    | ok n w' =>
      cases n <;> simp only [Oper.upon] at h ⊢
      case value u => exact ⟨h.1, h.1, keep a hy u, by rw [← Act.put_comm a v u h2]; exact h.2⟩
      case skip => exact ⟨h.1, h.1, keep a hy _, by rw [← Act.put_comm a v undef h2]; exact h.2⟩
      case defer d =>
        refine ⟨h.1, h.1, keep _ (keepD d) _, ?_⟩
        rw [← Act.put_comm _ v undef h2, ← Act.put_defers]
        exact h.2
      case enter f args =>
        refine Calls.mono h fun e w'' he => ?_
        cases e with
        | returned u => exact ⟨he.1, he.1, keep a hy u, by rw [← Act.put_comm a v u h2]; exact he.2⟩
        | panicked c => exact hQ _ _ _ he
        | outgrown => exact he
      case row row args => exact Rows.mono h fun u w'' he => ⟨he.1, he.1, keep a hy u, by rw [← Act.put_comm a v u h2]; exact he.2⟩
    | halt x w' =>
      cases x <;> simp only [Oper.upon] at h ⊢
      case panic u => exact hQ _ _ _ h
  · rename_i hw
    simp only [hw] at h
    exact ⟨hC, keep a hy _, by rw [← Act.put_comm a v undef h2]; exact h⟩
theorem wpAnyP_first {i : Nat} {oi : Oper} {v : Value} (hi : ops[i]? = some oi) (hsel : ∀ (j : Nat) (o : Oper) cs b, ops[j]? = some o → o.op ≠ .select cs b)
    (hQ : ∀ c a w, Q (.panic c) (a.put oi.dst v) w → Q (.panic c) a w) : ∀ (f : Nat) (listed : Array Bool) (a : Act) (w : World), C w →
      (∀ j oj, ops[j]? = some oj → j ≠ i → listed.getD j true = false → (∀ e ∈ oj.after, Region.binds md e = true → e.on ≠ i) → oi.apart ops oj = true) →
      i ∈ Region.ready md ops listed → YieldsC P ops C oi v a → wpAnyP P md ops C Q f (listed.setIfInBounds i true) (a.put oi.dst v) w → wpAnyP P md ops C Q (f + 1) listed a w := by
  intro f
  induction f with
  | zero =>
    intro listed a w hC _ hr hy H
    refine ⟨fun h => (by rw [h] at hr; cases hr), fun j hj => ?_⟩
    by_cases hji : j = i
    · subst hji; exact hy.parOp hi hC H
    · have := ready_mono hj hji
      rw [H.1] at this
      cases this
  | succ f ih =>
    intro listed a w hC hfree hr hy H
    refine ⟨fun h => (by rw [h] at hr; cases hr), fun j hj => ?_⟩
    by_cases hji : j = i
    · subst hji; exact hy.parOp hi hC H
    · have h1 := H.2 j (ready_mono hj hji)
      obtain ⟨hjun, oj, hoj, hall⟩ := mem_ready.1 hj
      have hnot : ∀ e ∈ oj.after, Region.binds md e = true → e.on ≠ i := fun e he hb heq => by
        have h1 := hall e he hb
        rw [heq, getD_both (mem_ready.1 hr).1] at h1
        cases h1
      have h2 := parOp_put hoj (hfree j oj hoj hji hjun hnot) (fun cs b => hsel i oi cs b hi) (fun cs b => hsel j oj cs b hoj) hQ hC hy h1
      have hfree' : ∀ k ok, ops[k]? = some ok → k ≠ i → (listed.setIfInBounds j true).getD k true = false → (∀ e ∈ ok.after, Region.binds md e = true → e.on ≠ i) → oi.apart ops ok = true := fun k ok hk hki hun hno => by
        refine hfree k ok hk hki ?_ hno
        by_cases hjk : j = k
        · subst hjk; exact hjun
        · rw [getD_set_ne true hjk] at hun; exact hun
      refine parOp_mono (fun a' w' h3 => ih (listed.setIfInBounds j true) a' w' h3.1 hfree' (ready_mono hr (Ne.symm hji)) h3.2.1 ?_) h2
      rw [Array.setIfInBounds_comm _ _ hji]
      exact h3.2.2

/-- A row of our choosing: each operation with a mark: true: it only reads. -/
def parB (md : Region.Mode) (ops : Array Oper) : List (Nat × Bool) → Array Bool → Bool
  | [], listed => (Region.ready md ops listed).isEmpty
  | (k, true) :: r, listed => (Region.ready md ops listed).contains k && Region.free md ops listed k && parB md ops r (listed.setIfInBounds k true)
  | (k, false) :: r, listed => decide (Region.ready md ops listed = [k]) && parB md ops r (listed.setIfInBounds k true)
def wpPar (P : Program) (ops : Array Oper) (C : World → Prop) (Q : Exit → Act → World → Prop) : List (Nat × Bool) → Act → World → Prop
  | [], a, w => Q .normal a w
  | (k, true) :: r, a, w => match ops[k]? with
    | none => False
    | some o => ∃ v, YieldsC P ops C o v a ∧ wpPar P ops C Q r (a.put o.dst v) w
  | (k, false) :: r, a, w => parOp P ops C Q k (fun a' w' => wpPar P ops C Q r a' w') a w
/-- No operation of the region but turns these slots. -/
theorem wpAnyP_par (hs : Region.noSelect ops = true) (hQ : ∀ (o : Oper), o ∈ ops → ∀ v c a w, Q (.panic c) (a.put o.dst v) w → Q (.panic c) a w) : ∀ (ord : List (Nat × Bool)) (listed : Array Bool) (a : Act) (w : World), C w →
    parB md ops ord listed = true → wpPar P ops C Q ord a w → wpAnyP P md ops C Q ord.length listed a w
  | [], _, _, _, _, hB, h => ⟨by simpa [parB] using hB, h⟩
  | (k, true) :: r, listed, a, w, hC, hB, h => by
    simp only [parB, Bool.and_eq_true] at hB
    obtain ⟨⟨hr, hf⟩, hB'⟩ := hB
    simp only [wpPar] at h
    cases h0 : ops[k]? with
    | none => simp only [h0] at h
    | some o =>
      simp only [h0] at h
      obtain ⟨v, hy, hK⟩ := h
      exact wpAnyP_first h0 (Region.noSelect_spec hs) (hQ o (Array.mem_of_getElem? h0) v) r.length listed a w hC (Region.free_spec h0 hf) (by simpa using hr) hy (wpAnyP_par hs hQ r _ _ _ hC hB' hK)
  | (k, false) :: r, listed, a, w, hC, hB, h => by
    simp only [parB, Bool.and_eq_true, decide_eq_true_eq] at hB
    refine ⟨fun h1 => (by rw [hB.1] at h1; cases h1), fun i hi => ?_⟩
    rw [hB.1] at hi
    have hik : i = k := by simpa using hi
    subst hik
    have h' : parOp P ops C Q i (fun a' w' => wpPar P ops C Q r a' w') a w := h
    unfold parOp at h' ⊢
    split
    · rename_i ho; simp only [ho] at h'; exact wpAnyP_par hs hQ r _ _ _ hC hB.2 h'
    · rename_i o ho
      simp only [ho] at h'
      split
      · rename_i hw; simp only [hw, if_true] at h'; exact Oper.wp_mono (fun a w ⟨h1, h2⟩ => ⟨h1, wpAnyP_par hs hQ r _ _ _ h1 hB.2 h2⟩) h'
      · rename_i hw; simp only [hw] at h'; exact wpAnyP_par hs hQ r _ _ _ hC hB.2 h'
theorem wp_region_par {id : Nat} {a : Act} {w : World} (ord : List (Nat × Bool)) (hm : P.follows .mixedOrders = true) (hB : (Region.noSelect ops && (ord.length == ops.size) && parB .any ops ord (Array.replicate ops.size false)) = true)
    (hQ : ∀ (o : Oper), o ∈ ops → ∀ v c a w, Q (.panic c) (a.put o.dst v) w → Q (.panic c) a w) (hC : C { w with drawn := w.drawn + 1 }) (h : wpPar P ops C Q ord a { w with drawn := w.drawn + 1 }) : (Code.region id ops true).wp P Q a w := by
  simp only [Bool.and_eq_true, beq_iff_eq] at hB
  refine wp_region_any hm (wpAny_of_par (C := C) _ _ _ _ ?_)
  rw [← hB.1.2]
  exact wpAnyP_par hB.1.1 hQ ord _ _ _ hC (by rw [hB.1.2]; exact hB.2) h
/-- .. that does not panic. -/
def NoP (Q : Exit → Act → World → Prop) : Exit → Act → World → Prop := fun e a w => match e with | .panic _ => False | e => Q e a w
theorem wp_region_parN {id : Nat} {a : Act} {w : World} (ord : List (Nat × Bool)) (hm : P.follows .mixedOrders = true) (hB : (Region.noSelect ops && (ord.length == ops.size) && parB .any ops ord (Array.replicate ops.size false)) = true)
    (hC : C { w with drawn := w.drawn + 1 }) (h : wpPar P ops C (NoP Q) ord a { w with drawn := w.drawn + 1 }) : (Code.region id ops true).wp P Q a w :=
  wp_mono (wp_region_par (C := C) ord hm hB (fun _ _ _ _ _ _ h => h.elim) hC h) fun e a w h => by
    cases e <;> first | exact h | exact h.elim

/-! .. and behind them some that wait for all that stand ahead, one for another. -/
def wpAnyT (P : Program) (md : Region.Mode) (ops : Array Oper) (C : World → Prop) (Q : Exit → Act → World → Prop) (n : Nat) (L : Array Bool → Act → World → Prop) : Nat → Array Bool → Act → World → Prop
  | 0, listed, a, w => L listed a w
  | f + 1, listed, a, w => Region.ready md ops listed ≠ [] ∧ ∀ i ∈ Region.ready md ops listed, i < n ∧ parOp P ops C Q i (wpAnyT P md ops C Q n L f (listed.setIfInBounds i true)) a w
theorem wpAny_of_headT {n g : Nat} {L : Array Bool → Act → World → Prop} (hL : ∀ listed a w, L listed a w → wpAny P md ops Q g listed a w) :
    ∀ (f : Nat) (listed : Array Bool) (a : Act) (w : World), wpAnyT P md ops C Q n L f listed a w → wpAny P md ops Q (f + g) listed a w
  | 0, listed, a, w, h => by rw [Nat.zero_add]; exact hL _ _ _ h
  | f + 1, listed, a, w, h => by
    rw [show f + 1 + g = (f + g) + 1 by omega]
    exact ⟨fun h0 => absurd h0 h.1, fun i hi => wpOp_of_parOp (fun a' w' h' => wpAny_of_headT hL f _ a' w' h') (h.2 i hi).2⟩
theorem wpAnyT_first {n i : Nat} {oi : Oper} {v : Value} {L : Array Bool → Act → World → Prop} (hi : ops[i]? = some oi) (hsel : ∀ (j : Nat) (o : Oper) cs b, ops[j]? = some o → o.op ≠ .select cs b)
    (hQ : ∀ c a w, Q (.panic c) (a.put oi.dst v) w → Q (.panic c) a w) (hs : Region.sinkB md ops n = true) (hc : Region.chainB md ops n = true) (hn : n < ops.size) (hin : i < n)
    (hdone : ∀ listed a w, L listed a w → ∀ j ∈ Region.ready md ops listed, n ≤ j) :
    ∀ (f : Nat) (listed : Array Bool) (a : Act) (w : World), C w → HeadInv md ops n listed →
      (∀ j oj, ops[j]? = some oj → j ≠ i → listed.getD j true = false → (∀ e ∈ oj.after, Region.binds md e = true → e.on ≠ i) → oi.apart ops oj = true) →
      i ∈ Region.ready md ops listed → YieldsC P ops C oi v a → wpAnyT P md ops C Q n L f (listed.setIfInBounds i true) (a.put oi.dst v) w → wpAnyT P md ops C Q n L (f + 1) listed a w := by
  intro f
  induction f with
  | zero =>
    intro listed a w hC inv _ hr hy H
    have hun := (mem_ready.1 hr).1
    refine ⟨fun h => (by rw [h] at hr; cases hr), fun j hj => ?_⟩
    have hjn : j < n := by
      rcases Nat.lt_or_ge j n with h | h
      · exact h
      · exact absurd hj (tail_waits hs hc hn inv _ i rfl hin hun j h)
    refine ⟨hjn, ?_⟩
    by_cases hji : j = i
    · subst hji; exact hy.parOp hi hC H
    · have := hdone _ _ _ H j (ready_mono hj hji)
      omega
  | succ f ih =>
    intro listed a w hC inv hfree hr hy H
    have hun := (mem_ready.1 hr).1
    refine ⟨fun h => (by rw [h] at hr; cases hr), fun j hj => ?_⟩
    have hjn : j < n := by
      rcases Nat.lt_or_ge j n with h | h
      · exact h
      · exact absurd hj (tail_waits hs hc hn inv _ i rfl hin hun j h)
    refine ⟨hjn, ?_⟩
    by_cases hji : j = i
    · subst hji; exact hy.parOp hi hC H
    · have h1 := (H.2 j (ready_mono hj hji)).2
      obtain ⟨hjun, oj, hoj, hall⟩ := mem_ready.1 hj
      have hnot : ∀ e ∈ oj.after, Region.binds md e = true → e.on ≠ i := fun e he hb heq => by
        have h1 := hall e he hb
        rw [heq, getD_both hun] at h1
        cases h1
      have h2 := parOp_put hoj (hfree j oj hoj hji hjun hnot) (fun cs b => hsel i oi cs b hi) (fun cs b => hsel j oj cs b hoj) hQ hC hy h1
      have hfree' : ∀ k ok, ops[k]? = some ok → k ≠ i → (listed.setIfInBounds j true).getD k true = false → (∀ e ∈ ok.after, Region.binds md e = true → e.on ≠ i) → oi.apart ops ok = true := fun k ok hk hki hun hno => by
        refine hfree k ok hk hki ?_ hno
        by_cases hjk : j = k
        · subst hjk; exact hjun
        · rw [getD_set_ne true hjk] at hun; exact hun
      refine parOp_mono (fun a' w' h3 => ih (listed.setIfInBounds j true) a' w' h3.1 (inv.set hj hjn) hfree' (ready_mono hr (Ne.symm hji)) h3.2.1 ?_) h2
      rw [Array.setIfInBounds_comm _ _ hji]
      exact h3.2.2
def parTB (md : Region.Mode) (ops : Array Oper) (n g : Nat) : List (Nat × Bool) → Array Bool → Bool
  | [], listed => Region.seqB md ops g n listed
  | (k, true) :: r, listed => decide (k < n) && (Region.ready md ops listed).contains k && Region.free md ops listed k && parTB md ops n g r (listed.setIfInBounds k true)
  | (k, false) :: r, listed => decide (k < n) && decide (Region.ready md ops listed = [k]) && parTB md ops n g r (listed.setIfInBounds k true)
theorem wpAnyT_par {n g : Nat} {Lq : Act → World → Prop} (hsel : Region.noSelect ops = true) (hs : Region.sinkB md ops n = true) (hc : Region.chainB md ops n = true) (hn : n < ops.size)
    (hQ : ∀ (o : Oper), o ∈ ops → ∀ v c a w, Q (.panic c) (a.put o.dst v) w → Q (.panic c) a w) : ∀ (ord : List (Nat × Bool)) (listed : Array Bool) (a : Act) (w : World), C w → HeadInv md ops n listed →
    parTB md ops n g ord listed = true → wpPar P ops C (fun e a w => match e with | .normal => Lq a w | e => Q e a w) ord a w → wpAnyT P md ops C Q n (fun listed' a' w' => Region.seqB md ops g n listed' = true ∧ Lq a' w') ord.length listed a w
  | [], _, _, _, _, _, hB, h => ⟨by simpa [parTB] using hB, h⟩
  | (k, true) :: r, listed, a, w, hC, inv, hB, h => by
    simp only [parTB, Bool.and_eq_true, decide_eq_true_eq] at hB
    obtain ⟨⟨⟨hkn, hr⟩, hf⟩, hB'⟩ := hB
    have hr' : k ∈ Region.ready md ops listed := by simpa using hr
    simp only [wpPar] at h
    cases h0 : ops[k]? with
    | none => simp only [h0] at h
    | some o =>
      simp only [h0] at h
      obtain ⟨v, hy, hK⟩ := h
      exact wpAnyT_first h0 (Region.noSelect_spec hsel) (hQ o (Array.mem_of_getElem? h0) v) hs hc hn hkn (fun listed' a' w' hL => seqB_ready hL.1) r.length listed a w hC inv (Region.free_spec h0 hf) hr' hy
        (wpAnyT_par hsel hs hc hn hQ r _ _ _ hC (inv.set hr' hkn) hB' hK)
  | (k, false) :: r, listed, a, w, hC, inv, hB, h => by
    simp only [parTB, Bool.and_eq_true, decide_eq_true_eq] at hB
    have hr' : k ∈ Region.ready md ops listed := by rw [hB.1.2]; simp
    refine ⟨fun h1 => (by rw [hB.1.2] at h1; cases h1), fun i hi => ?_⟩
    rw [hB.1.2] at hi
    have hik : i = k := by simpa using hi
    subst hik
    refine ⟨hB.1.1, ?_⟩
    have h' := h
    simp only [wpPar] at h'
    have inv' := inv.set hr' hB.1.1
    unfold parOp at h' ⊢
    cases ho : ops[i]? with
    | none => simp only [ho] at h' ⊢; exact wpAnyT_par hsel hs hc hn hQ r _ _ _ hC inv' hB.2 h'
    | some o =>
      simp only [ho] at h' ⊢
      split
      · rename_i hw
        simp only [hw, if_true] at h'
        unfold Oper.wp at *
        generalize (execOp a.eval o).run P w = x at *
        have fin : ∀ a w, (C w ∧ wpPar P ops C (fun e a w => match e with | .normal => Lq a w | e => Q e a w) r a w) → C w ∧ wpAnyT P md ops C Q n (fun listed' a' w' => Region.seqB md ops g n listed' = true ∧ Lq a' w') r.length (listed.setIfInBounds i true) a w := fun a w ⟨h1, h2⟩ => ⟨h1, wpAnyT_par hsel hs hc hn hQ r _ _ _ h1 inv' hB.2 h2⟩
        cases x with
        | ok m w' =>
          cases m <;> simp only [Oper.upon] at h' ⊢
          case enter f args =>
            refine Calls.mono h' fun e w'' he => ?_
            cases e with
            | returned u => exact fin _ _ he
            | panicked c => exact he
            | outgrown => exact he
          case row row args => exact Rows.mono h' fun u w'' he => fin _ _ he
          all_goals exact fin _ _ h'
        | halt x w' => cases x <;> simp only [Oper.upon] at h' ⊢ <;> exact h'
      · rename_i hw
        simp only [hw] at h'
        exact wpAnyT_par hsel hs hc hn hQ r _ _ _ hC inv' hB.2 h'
theorem wp_region_parT {id : Nat} {a : Act} {w : World} {l : List Oper} (n : Nat) (ord : List (Nat × Bool)) (hm : P.follows .mixedOrders = true)
    (hB : (Region.noSelect l.toArray && decide (n < l.toArray.size) && (ord.length == n) && Region.sinkB .any l.toArray n && Region.chainB .any l.toArray n && parTB .any l.toArray n (l.toArray.size - n) ord (Array.replicate l.toArray.size false)) = true)
    (hQ : ∀ (o : Oper), o ∈ l.toArray → ∀ v c a w, Q (.panic c) (a.put o.dst v) w → Q (.panic c) a w) (hC : C { w with drawn := w.drawn + 1 })
    (h : wpPar P l.toArray C (fun e a w => match e with | .normal => wpList P l.toArray Q (l.drop n) a w | e => Q e a w) ord a { w with drawn := w.drawn + 1 }) : (Code.region id l.toArray true).wp P Q a w := by
  simp only [Bool.and_eq_true, decide_eq_true_eq, beq_iff_eq] at hB
  obtain ⟨⟨⟨⟨⟨hsel, hn⟩, hl⟩, hs⟩, hc⟩, hlex⟩ := hB
  have hdl : (l.drop n).length = l.toArray.size - n := by simp
  have inv0 : HeadInv .any l.toArray n (Array.replicate l.toArray.size false) :=
    ⟨by simp, fun j oj _ hl => (by rw [getD_replicate_false] at hl; cases hl), fun t _ ht => getD_in (by simpa using ht) (getD_replicate_false _ _)⟩
  have H := wpAnyT_par (md := .any) (g := l.toArray.size - n) hsel hs hc hn hQ ord _ a _ hC inv0 hlex h
  refine wp_region_any hm ?_
  have := wpAny_of_headT (Q := Q) (g := l.toArray.size - n) (fun listed a' w' hL => by
    have := wpAny_of_seq (md := .any) (Q' := Q) (l.drop n) n listed a' w' (fun j => by simp [List.getElem?_drop]) (by rw [hdl]; exact hL.1) hL.2
    rwa [hdl] at this) _ _ _ _ H
  rw [hl, show n + (l.toArray.size - n) = l.toArray.size by omega] at this
  exact this
/-- The head's end: the rest one by one. -/
def thenL (P : Program) (l : List Oper) (n : Nat) (Q : Exit → Act → World → Prop) : Exit → Act → World → Prop := fun e a w => match e with | .normal => wpList P l.toArray Q (l.drop n) a w | e => Q e a w
theorem wp_region_parTN {id : Nat} {a : Act} {w : World} {l : List Oper} (n : Nat) (ord : List (Nat × Bool)) (hm : P.follows .mixedOrders = true)
    (hB : (Region.noSelect l.toArray && decide (n < l.toArray.size) && (ord.length == n) && Region.sinkB .any l.toArray n && Region.chainB .any l.toArray n && parTB .any l.toArray n (l.toArray.size - n) ord (Array.replicate l.toArray.size false)) = true)
    (hC : C { w with drawn := w.drawn + 1 }) (h : wpPar P l.toArray C (thenL P l n (NoP Q)) ord a { w with drawn := w.drawn + 1 }) : (Code.region id l.toArray true).wp P Q a w :=
  wp_mono (wp_region_parT (C := C) n ord hm hB (fun _ _ _ _ _ _ h => h.elim) hC h) fun e a w h => by
    cases e <;> first | exact h | exact h.elim
section
variable {a : Act} {w : World} {n : Nat} {L : Sl} {r : List (Nat × Bool)} {k : Nat} {o : Oper}
/-- An operation that only reads. -/
theorem sp {d : Nat} {v : Value} (ho : ops[k]? = some o) (hK : Kn n a L) (hd : d < n) (hw : wantedL ops L o = some true) (hdst : o.dst = some d) (hr : ∀ w, C w → Runs P w a o v)
    (h : ∀ a, Kn n a ((d, v) :: L) → wpPar P ops C Q r a w) : wpPar P ops C Q ((k, true) :: r) a w := by
  simp only [wpPar, ho]
  exact ⟨v, .inl ⟨wantedL_ok hK hw, hr⟩, by rw [hdst]; exact h _ (hK.put hd v)⟩
theorem sp_skip {d : Nat} (ho : ops[k]? = some o) (hK : Kn n a L) (hd : d < n) (hw : wantedL ops L o = some false) (hdst : o.dst = some d)
    (h : ∀ a, Kn n a ((d, undef) :: L) → wpPar P ops C Q r a w) : wpPar P ops C Q ((k, true) :: r) a w := by
  simp only [wpPar, ho]
  exact ⟨undef, .inr ⟨wantedL_ok hK hw, rfl⟩, by rw [hdst]; exact h _ (hK.put hd _)⟩
/-- What is asked behind one that turns the memory. -/
def parK (P : Program) (ops : Array Oper) (C : World → Prop) (Q : Exit → Act → World → Prop) (r : List (Nat × Bool)) : Exit → Act → World → Prop := fun e a w => match e with | .normal => C w ∧ wpPar P ops C Q r a w | .outgrown => False | e => Q e a w
theorem spw {R : Exit → Act → World → Prop} (hR : R = parK P ops C Q r) (ho : ops[k]? = some o) (hC : C w) (h : wpList P ops R [o] a w) (hno : ¬ LetsOut Q → True := fun _ => trivial) : wpPar P ops C Q ((k, false) :: r) a w := by
  subst hR
  simp only [wpPar, parOp, ho]
  simp only [wpList] at h
  split
  · rename_i hw
    simp only [hw, if_true] at h
    rcases h with h | ⟨_, ⟨_, _, h⟩⟩
    · unfold Oper.wp at *
      generalize (execOp a.eval o).run P w = x at *
      cases x with
      | ok n w' =>
        cases n <;> simp only [Oper.upon] at h ⊢
        case enter f args =>
          refine Calls.mono h fun e w'' he => ?_
          cases e with
          | returned u => exact he
          | panicked c => exact he
          | outgrown => exact absurd he (fun ⟨_, _, h⟩ => h)
        all_goals exact h
      | halt x w' => cases x <;> simp only [Oper.upon] at h ⊢ <;> exact h
    · exact h.elim
  · rename_i hw
    simp only [hw] at h
    exact h.2
theorem parK_nil (hC : C w) (h : wpPar P ops C Q r a w) : wpList P ops (parK P ops C Q r) [] a w := ⟨hC, h⟩
theorem wpPar_nil (h : Q .normal a w) : wpPar P ops C Q [] a w := h
end
end
end Go.Eng
