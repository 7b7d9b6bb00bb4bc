/- The plain laws of layer 1 (value). -/
import Derived.Test.YtmohocmmelaeaaaDoorPure
import Derived.Test.YtmohocmmelaeaaaDoorPL01v
namespace Go.Proofs.YtmohocmmelaeaaaDoor.M
open Go Go.Eng Go.Proofs Go.RowKit
set_option maxRecDepth 100000
set_option linter.unusedVariables false
set_option linter.unusedSimpArgs false

theorem shown_ok : law01_shown = some true := by kernel_rfl
theorem cmpV_neg (a b : api_Value) : cmpV b a = - cmpV a b := cmpV_cmp.flip a b
def Rng {α : Type} (c : α → α → Int) : Prop := ∀ x y, c x y = -1 ∨ c x y = 0 ∨ c x y = 1
theorem ord3_rng : Rng ord3 := fun x y => by unfold ord3; split <;> (try split) <;> simp
theorem lexL_rng {α : Type} {c : α → α → Int} (h : Rng c) : Rng (lexL c)
  | [], [] => by simp [lexL]
  | [], _ :: _ => by simp [lexL]
  | _ :: _, [] => by simp [lexL]
  | x :: xs, y :: ys => by
    rw [lexL]
    split
    · exact lexL_rng h xs ys
    · exact h x y
theorem thenC_rng {α : Type} {c1 c2 : α → α → Int} (h1 : Rng c1) (h2 : Rng c2) : Rng (thenC c1 c2) := fun x y => by
  unfold thenC
  split
  · exact h2 x y
  · exact h1 x y
theorem onC_rng {α β : Type} {f : α → β} {c : β → β → Int} (h : Rng c) : Rng (onC f c) := fun x y => h _ _
theorem cmpV_rng : Rng cmpV := thenC_rng (onC_rng ord3_rng) (thenC_rng (onC_rng ord3_rng) (thenC_rng (onC_rng (lexL_rng ord3_rng)) (onC_rng (lexL_rng ord3_rng))))
theorem okS (v : api_Value) (h : ok_api_Value v) : v.S.size < 4611686018427387904 := by
  have := h.2.2.1
  simp only at this
  omega
def holdsS (k : Int) (a b : api_Value) : Bool := if (a.Kind != b.Kind) = true then false else if (k == 1) = true then cmpV a b == 0 else if (k == 2) = true then cmpV a b != 0 else if (k == 3) = true then decide (cmpV a b < 0) else if (k == 4) = true then decide (cmpV a b ≤ 0) else if (k == 5) = true then decide (cmpV a b > 0) else if (k == 6) = true then decide (cmpV a b ≥ 0) else false
theorem holds_eq (k : Int) (a b : api_Value) : value_Holds k a b = some (holdsS k a b) := by
  unfold value_Holds holdsS
  rw [cmpV_eq, Option.bind_some]
  simp only [apply_ite some]
theorem rholds_eq (k : Int) (a b : api_Value) (ha : a.S.size < 4611686018427387904) : ref01_Holds k a b = some (holdsS k a b) := by
  unfold ref01_Holds holdsS
  rw [refV_eq ha, Option.bind_some]
  simp only [apply_ite some]
theorem ValueOrder_pure (a : api_Value) (oa : ok_api_Value a) (b : api_Value) (ob : ok_api_Value b) (k : Int) (ok : (Lit.int .i64 k).wf = true) : law01_ValueOrder a b k = some true := by
  unfold law01_ValueOrder
  rw [shown_ok, Option.bind_some, if_pos rfl, cmpV_eq, Option.bind_some, refV_eq (okS a oa), Option.bind_some, if_pos (by simp), cmpV_eq, Option.bind_some, Option.bind_some, holds_eq, Option.bind_some, rholds_eq _ _ _ (okS a oa), Option.bind_some, cmpV_neg a b]
  have := cmpV_rng a b
  rw [w64 (by omega) (by omega), if_pos (by simp)]
  simp
theorem ValueChain_pure (a : api_Value) (oa : ok_api_Value a) (b : api_Value) (ob : ok_api_Value b) (c : api_Value) (oc : ok_api_Value c) : law01_ValueChain a b c = some true := by
  unfold law01_ValueChain law01_ValueChain.j0
  rw [shown_ok, Option.bind_some, cmpV_eq, Option.bind_some, cmpV_eq, Option.bind_some, cmpV_eq, Option.bind_some]
  have t1 := cmpV_cmp.trans a b c
  have t2 := cmpV_cmp.trans c b a
  have f1 := cmpV_neg a b
  have f2 := cmpV_neg b c
  have f3 := cmpV_neg a c
  have z1 : cmpV a b = 0 ↔ a = b := ⟨cmpV_zero a b, fun h => by rw [h]; exact cmpV_cmp.refl b⟩
  have z2 : cmpV b c = 0 ↔ b = c := ⟨cmpV_zero b c, fun h => by rw [h]; exact cmpV_cmp.refl c⟩
  have e1 : (cmpV a b == 0) = decide (a = b) := by rw [← decide_eq_decide.2 z1]; rfl
  have e2 : (cmpV b c == 0) = decide (b = c) := by rw [← decide_eq_decide.2 z2]; rfl
  rw [e1, e2]
  have main : (if true = true then (if (decide (a = b) == decide (a = b)) = true then (if decide (a = b) = true then (if decide (a = b) = true then some (decide (b = c) == decide (b = c)) else some (decide (b = c) == false)) else (if decide (a = b) = true then some (false == decide (b = c)) else some (false == false))) else some false) else some false) = some true := by
    by_cases h : a = b <;> simp [h]
  rw [f1, f2, f3] at t2
  by_cases h1 : cmpV a b ≤ 0 <;> by_cases h2 : cmpV b c ≤ 0 <;> by_cases h3 : cmpV a c > 0 <;> by_cases h4 : cmpV a b ≥ 0 <;> by_cases h5 : cmpV b c ≥ 0 <;> by_cases h6 : cmpV a c < 0 <;> first | omega | (simp only [h1, h2, h3, h4, h5, h6, decide_true, decide_false, if_true, if_false, Bool.false_eq_true]; exact main)
def addH (x y : Arr8) : Arr8 := ⟨IntKind.i64.wrap (x.a0 + y.a0), IntKind.i64.wrap (x.a1 + y.a1), IntKind.i64.wrap (x.a2 + y.a2), IntKind.i64.wrap (x.a3 + y.a3), IntKind.i64.wrap (x.a4 + y.a4), IntKind.i64.wrap (x.a5 + y.a5), IntKind.i64.wrap (x.a6 + y.a6), IntKind.i64.wrap (x.a7 + y.a7)⟩
theorem vadd_l1 (a b : api_Value) : value_Add.l1 a b 9 a.H 0 = some ((⟨a.Kind, a.N, a.S, addH a.H b.H⟩ : api_Value), 0) := by kernel_rfl
theorem radd_l1 (a b : api_Value) : ref01_Add.l1 a b 9 a.H 0 = some ((⟨a.Kind, IntKind.i64.wrap (a.N + b.N), a.S, addH a.H b.H⟩ : api_Value), 0) := by kernel_rfl
def addS (a b : api_Value) : api_Value × Int := if validS a = true ∧ validS b = true ∧ a.Kind = b.Kind ∧ (a.Kind = 1 ∨ a.Kind = 4) then (⟨a.Kind, IntKind.i64.wrap (a.N + b.N), ⟨#[]⟩, addH a.H b.H⟩, 0) else (⟨0, 0, ⟨#[]⟩, H0⟩, 10)
theorem valid1 {v : api_Value} (h : validS v = true) (k : v.Kind = 1) : v.S = ⟨#[]⟩ ∧ v.H = H0 := by unfold validS at h; rw [if_pos k] at h; simpa using h
theorem valid4 {v : api_Value} (h : validS v = true) (k : v.Kind = 4) : v.N = 0 ∧ v.S = ⟨#[]⟩ := by
  unfold validS at h
  rw [if_neg (by omega), if_neg (by omega), if_neg (by omega), if_pos k] at h
  simpa using h
theorem add_eq (a b : api_Value) : value_Add a b = some (addS a b) := by
  unfold value_Add value_Add.j0 value_OfInt addS
  rw [valid_eq, Option.bind_some, valid_eq]
  by_cases h1 : validS a = true
  · rw [if_neg (by simp [h1]), Option.bind_some]
    by_cases h2 : validS b = true
    · rw [if_neg (by simp [h2])]
      by_cases hk : a.Kind = b.Kind
      · rw [if_neg (by simp [hk])]
        by_cases k1 : a.Kind = 1
        · obtain ⟨e1, e2⟩ := valid1 h1 k1
          obtain ⟨e3, e4⟩ := valid1 h2 (by omega)
          rw [if_pos (by simpa using k1), if_pos ⟨h1, h2, hk, Or.inl k1⟩, e2, e4, k1]
          rfl
        · rw [if_neg (by simpa using k1)]
          by_cases k4 : a.Kind = 4
          · obtain ⟨e1, e2⟩ := valid4 h1 k4
            obtain ⟨e3, e4⟩ := valid4 h2 (by omega)
            rw [if_pos (by simpa using k4), if_pos ⟨h1, h2, hk, Or.inr k4⟩]
            refine Eq.trans (vadd_l1 a b) ?_
            rw [e1, e3, e2]
            rfl
          · rw [if_neg (by simpa using k4), if_neg (by omega)]; rfl
      · rw [if_pos (by simpa using hk), if_neg (fun h => hk h.2.2.1)]; rfl
    · rw [if_pos (by simpa using h2), if_pos rfl, if_neg (fun h => h2 h.2.1)]; rfl
  · rw [if_pos (by simpa using h1), if_pos rfl, if_neg (fun h => h1 h.1)]; rfl
theorem radd_eq (a b : api_Value) : ref01_Add a b = some (addS a b) := by
  unfold ref01_Add ref01_Add.j0 addS
  rw [rvalid_eq, Option.bind_some, rvalid_eq]
  by_cases h1 : validS a = true
  · rw [if_neg (by simp [h1]), Option.bind_some]
    by_cases h2 : validS b = true
    · rw [if_neg (by simp [h2])]
      by_cases hk : a.Kind = b.Kind
      · rw [if_neg (by simp [hk])]
        by_cases k1 : a.Kind = 1
        · obtain ⟨e1, e2⟩ := valid1 h1 k1
          rw [if_neg (by simp [k1]), if_neg (by decide), if_pos ⟨h1, h2, hk, Or.inl k1⟩]
          refine Eq.trans (radd_l1 a b) ?_
          rw [e1]
        · rw [if_pos (by simpa using k1)]
          by_cases k4 : a.Kind = 4
          · obtain ⟨e1, e2⟩ := valid4 h1 k4
            rw [if_neg (by simp [k4]), if_pos ⟨h1, h2, hk, Or.inr k4⟩]
            refine Eq.trans (radd_l1 a b) ?_
            rw [e2]
          · rw [if_pos (by simpa using k4), if_neg (by omega)]; rfl
      · rw [if_pos (by simpa using hk), if_pos rfl, if_neg (fun h => hk h.2.2.1)]; rfl
    · rw [if_pos (by simpa using h2), if_pos rfl, if_neg (fun h => h2 h.2.1)]; rfl
  · rw [if_pos (by simpa using h1), if_pos rfl, if_neg (fun h => h1 h.1)]; rfl
theorem addS_comm (a b : api_Value) : addS a b = addS b a := by
  unfold addS addH
  by_cases h : validS a = true ∧ validS b = true ∧ a.Kind = b.Kind ∧ (a.Kind = 1 ∨ a.Kind = 4)
  · obtain ⟨h1, h2, h3, h4⟩ := h
    rw [if_pos ⟨h1, h2, h3, h4⟩, if_pos ⟨h2, h1, h3.symm, by omega⟩, h3]
    simp only [Int.add_comm]
  · rw [if_neg h, if_neg (fun ⟨h1, h2, h3, h4⟩ => h ⟨h2, h1, h3.symm, by omega⟩)]
theorem ValueAdds_pure (a : api_Value) (oa : ok_api_Value a) (b : api_Value) (ob : ok_api_Value b) : law01_ValueAdds a b = some true := by
  unfold law01_ValueAdds
  rw [shown_ok, Option.bind_some, add_eq, Option.bind_some, radd_eq, Option.bind_some, add_eq, Option.bind_some, addS_comm b a]
  simp
theorem cuts64 (s : ByteArray) : ∃ t, cuts s 0 (min (s.size : Int) 64) = some t ∧ t.size ≤ 64 := by
  have hm : min (s.size : Int) 64 = ((min s.size 64 : Nat) : Int) := by omega
  unfold cuts
  rw [hm, if_pos (by omega), if_pos (by omega), if_pos (by omega)]
  refine ⟨_, rfl, ?_⟩
  rw [ByteArray.size_extract]
  omega
theorem ValueMakes_pure (n : Int) (on : (Lit.int .i64 n).wf = true) (s : ByteArray) (os : s.size ≤ 140737488351232) (b : Bool) (ob : True) : law01_ValueMakes n s b = some true := by
  obtain ⟨t, ht, hl⟩ := cuts64 s
  unfold law01_ValueMakes value_OfInt value_OfStr ref01_OfInt ref01_OfStr
  rw [shown_ok, Option.bind_some, Option.bind_some, ht]
  simp only [Option.bind_some, if_true, decide_true]
  have hv : value_Valid ⟨2, 0, t, (⟨0, 0, 0, 0, 0, 0, 0, 0⟩ : Arr8)⟩ = some true := by
    rw [valid_eq]
    unfold validS
    simp [hl]
    rfl
  cases b <;> simp [value_OfBool, ref01_OfBool, hv, valid_eq, validS, H0]
theorem holds_ne {a b : api_Value} (h : a.Kind ≠ b.Kind) (k : Int) : holdsS k a b = false := by unfold holdsS; rw [if_pos (by simpa using h)]
theorem ValueHow_pure (a : api_Value) (oa : ok_api_Value a) (b : api_Value) (ob : ok_api_Value b) : law01_ValueHow a b = some true := by
  unfold law01_ValueHow law01_ValueHow.j0
  simp only [shown_ok, Option.bind_some, holds_eq]
  by_cases h : a.Kind = b.Kind
  · rw [if_neg (by simp [h]), if_pos trivial]
    have hh : ∀ k, holdsS k a b = if (k == 1) = true then cmpV a b == 0 else if (k == 2) = true then cmpV a b != 0 else if (k == 3) = true then decide (cmpV a b < 0) else if (k == 4) = true then decide (cmpV a b ≤ 0) else if (k == 5) = true then decide (cmpV a b > 0) else if (k == 6) = true then decide (cmpV a b ≥ 0) else false := fun k => by unfold holdsS; rw [if_neg (by simp [h])]
    have hb : holdsS 3 b a = decide (- cmpV a b < 0) := by unfold holdsS; rw [if_neg (by simp [h]), cmpV_neg a b]; rfl
    rw [hh, hh, hh, hh, hh, hh, hb]
    rcases cmpV_rng a b with e | e | e <;> rw [e] <;> rfl
  · rw [if_pos (by simpa using h)]
    simp only [holds_ne h]
    rfl
theorem ValueNoughts_pure (n : Int) (on : (Lit.int .i64 n).wf = true) (h : Arr8) (oh : ok_Arr8 h) : law01_ValueNoughts n h = some true := by
  have hn := i64_range on
  unfold law01_ValueNoughts value_OfInt
  simp only [shown_ok, Option.bind_some, add_eq]
  have v1 : ∀ m : Int, validS ⟨1, m, ⟨#[]⟩, ⟨0, 0, 0, 0, 0, 0, 0, 0⟩⟩ = true := fun m => by simp [validS]; rfl
  have v4 : ∀ x : Arr8, validS ⟨4, 0, ⟨#[]⟩, x⟩ = true := fun x => by simp [validS]
  have a1 : addS ⟨1, n, ⟨#[]⟩, ⟨0, 0, 0, 0, 0, 0, 0, 0⟩⟩ ⟨1, 0, ⟨#[]⟩, ⟨0, 0, 0, 0, 0, 0, 0, 0⟩⟩ = (⟨1, n, ⟨#[]⟩, ⟨0, 0, 0, 0, 0, 0, 0, 0⟩⟩, 0) := by
    unfold addS
    rw [if_pos ⟨v1 _, v1 _, rfl, Or.inl rfl⟩]
    simp only [Int.add_zero]
    rw [w64 hn.1 hn.2]; rfl
  have a2 : addS ⟨1, n, ⟨#[]⟩, ⟨0, 0, 0, 0, 0, 0, 0, 0⟩⟩ ⟨1, IntKind.i64.wrap (0 - n), ⟨#[]⟩, ⟨0, 0, 0, 0, 0, 0, 0, 0⟩⟩ = (⟨1, 0, ⟨#[]⟩, ⟨0, 0, 0, 0, 0, 0, 0, 0⟩⟩, 0) := by
    unfold addS
    rw [if_pos ⟨v1 _, v1 _, rfl, Or.inl rfl⟩]
    simp only
    have : IntKind.i64.wrap (n + IntKind.i64.wrap (0 - n)) = 0 := by
      by_cases hm : n = -9223372036854775808
      · subst hm; decide
      · rw [w64 (x := 0 - n) (by omega) (by omega), w64 (by omega) (by omega)]; omega
    rw [this]; rfl
  have a3 : addS ⟨4, 0, ⟨#[]⟩, h⟩ ⟨4, 0, ⟨#[]⟩, ⟨0, 0, 0, 0, 0, 0, 0, 0⟩⟩ = (⟨4, 0, ⟨#[]⟩, h⟩, 0) := by
    unfold addS
    rw [if_pos ⟨v4 _, v4 _, rfl, Or.inr rfl⟩]
    obtain ⟨h0, h1, h2, h3, h4, h5, h6, h7⟩ := h
    have w : ∀ x ∈ [h0, h1, h2, h3, h4, h5, h6, h7], IntKind.i64.wrap x = x := fun x hx => by
      have := i64_range (oh x hx)
      exact w64 this.1 this.2
    simp only [List.mem_cons, List.not_mem_nil, or_false, forall_eq_or_imp, forall_eq] at w
    obtain ⟨w0, w1, w2, w3, w4, w5, w6, w7⟩ := w
    simp only [addH, Int.add_zero, w0, w1, w2, w3, w4, w5, w6, w7]
    rfl
  rw [a1, a2, a3]
  simp
/-! buckets -/
def unitA : Nat → Arr8
  | 0 => ⟨1, 0, 0, 0, 0, 0, 0, 0⟩
  | 1 => ⟨0, 1, 0, 0, 0, 0, 0, 0⟩
  | 2 => ⟨0, 0, 1, 0, 0, 0, 0, 0⟩
  | 3 => ⟨0, 0, 0, 1, 0, 0, 0, 0⟩
  | 4 => ⟨0, 0, 0, 0, 1, 0, 0, 0⟩
  | 5 => ⟨0, 0, 0, 0, 0, 1, 0, 0⟩
  | 6 => ⟨0, 0, 0, 0, 0, 0, 1, 0⟩
  | _ => ⟨0, 0, 0, 0, 0, 0, 0, 1⟩
def bi (n : Int) : Nat := if n ≥ 1 then (if n ≥ 10 then (if n ≥ 100 then (if n ≥ 1000 then (if n ≥ 10000 then (if n ≥ 100000 then (if n ≥ 1000000 then 7 else 6) else 5) else 4) else 3) else 2) else 1) else 0
def vB (i : Nat) : api_Value := ⟨4, 0, ⟨#[]⟩, unitA i⟩
theorem b_step (n : Int) (k : Nat) (i x : Int) (h : i < 7) : value_Bucket.l0 n (k + 1) i x = if decide (n ≥ x) = true then value_Bucket.l0 n k (IntKind.i64.wrap (i + 1)) (IntKind.i64.wrap (x * 10)) else ((Arr8.ix (⟨0, 0, 0, 0, 0, 0, 0, 0⟩ : Arr8) i).bind fun y_18 => ((Arr8.put (⟨0, 0, 0, 0, 0, 0, 0, 0⟩ : Arr8) i 1).bind fun y_20 => some (⟨4, 0, (⟨#[]⟩ : ByteArray), y_20⟩ : api_Value))) := by
  rw [value_Bucket.l0, if_pos (by simpa using h)]
  unfold value_Bucket.j1
  rfl
theorem b_end (n : Int) (x : Int) : value_Bucket.l0 n 1 7 x = some (vB 7) := by
  rw [value_Bucket.l0, if_neg (by decide)]
  rfl
theorem bucket_eq (n : Int) : value_Bucket n = some (vB (bi n)) := by
  have s0 : value_Bucket n = if decide (n ≥ 1) = true then value_Bucket.l0 n 7 1 10 else some (vB 0) := b_step n 7 0 1 (by decide)
  have s1 : value_Bucket.l0 n 7 1 10 = if decide (n ≥ 10) = true then value_Bucket.l0 n 6 2 100 else some (vB 1) := b_step n 6 1 10 (by decide)
  have s2 : value_Bucket.l0 n 6 2 100 = if decide (n ≥ 100) = true then value_Bucket.l0 n 5 3 1000 else some (vB 2) := b_step n 5 2 100 (by decide)
  have s3 : value_Bucket.l0 n 5 3 1000 = if decide (n ≥ 1000) = true then value_Bucket.l0 n 4 4 10000 else some (vB 3) := b_step n 4 3 1000 (by decide)
  have s4 : value_Bucket.l0 n 4 4 10000 = if decide (n ≥ 10000) = true then value_Bucket.l0 n 3 5 100000 else some (vB 4) := b_step n 3 4 10000 (by decide)
  have s5 : value_Bucket.l0 n 3 5 100000 = if decide (n ≥ 100000) = true then value_Bucket.l0 n 2 6 1000000 else some (vB 5) := b_step n 2 5 100000 (by decide)
  have s6 : value_Bucket.l0 n 2 6 1000000 = if decide (n ≥ 1000000) = true then value_Bucket.l0 n 1 7 10000000 else some (vB 6) := b_step n 1 6 1000000 (by decide)
  rw [s0, s1, s2, s3, s4, s5, s6, b_end]
  unfold bi
  simp only [decide_eq_true_eq]
  repeat (first | rfl | split)
theorem rbucket_eq (n : Int) : ref01_Bucket n = some (vB (bi n)) := by
  have st : ∀ (k : Nat) (i x : Int), ref01_Bucket.l0 n k i x = value_Bucket.l0 n k i x := by
    intro k
    induction k with
    | zero => intro i x; rfl
    | succ k ih =>
      intro i x
      rw [ref01_Bucket.l0, value_Bucket.l0]
      unfold ref01_Bucket.j1 value_Bucket.j1
      simp only [ih]
  unfold ref01_Bucket
  rw [st]
  exact bucket_eq n
theorem bi_le (n : Int) : bi n ≤ 7 := by unfold bi; repeat (first | omega | split)
theorem bi_mono {n m : Int} (h : n ≤ m) : bi n ≤ bi m := by
  unfold bi
  repeat (first | omega | split)
def uA (i k : Nat) : Int := if k = i then 1 else 0
theorem unitA_ix {i k : Nat} (hi : i < 8) (hk : k < 8) : Arr8.ix (vB i).H (k : Int) = some (uA i k) := by
  have : ∀ i : Fin 8, ∀ k : Fin 8, Arr8.ix (unitA i) ((k : Nat) : Int) = some (uA i k) := by decide +kernel
  exact this ⟨i, hi⟩ ⟨k, hk⟩
theorem buckets_l0 {n m : Int} {i j : Nat} (hi : i < 8) (hj : j < 8) (hn : bi n = i) (hij : n > m ∨ i ≤ j) : ∀ (d k fuel : Nat), k + d = 8 → d < fuel →
    law01_ValueBuckets.l0 n m true (vB i) (vB j) fuel (if i < k then (i : Int) else 0) (if j < k then (j : Int) else 0) (if i < k then 1 else 0) (k : Int) = some true
  | 0, k, fuel + 1, h, _ => by
    have hk : k = 8 := by omega
    subst hk
    rw [law01_ValueBuckets.l0, if_neg (by decide), if_pos rfl, rbucket_eq, Option.bind_some, hn, if_pos (by simp), if_pos (by rw [if_pos hi]; rfl)]
    by_cases h : n > m
    · rw [if_pos (by simpa using h)]
    · have := hij.resolve_left h
      rw [if_neg (by simpa using h), if_pos hi, if_pos hj]
      simp; omega
  | d + 1, k, fuel + 1, h, hf => by
    rw [law01_ValueBuckets.l0, if_pos (by simp; omega), unitA_ix hi (by omega), Option.bind_some, Option.bind_some]
    unfold law01_ValueBuckets.j1 law01_ValueBuckets.j2
    rw [unitA_ix hj (by omega), w64_nat k (by omega)]
    have ih := buckets_l0 hi hj hn hij d (k + 1) fuel (by omega) (by omega)
    have e1 : IntKind.i64.wrap ((if i < k then (1 : Int) else 0) + uA i k) = (if i < k + 1 then 1 else 0) := by
      unfold uA
      by_cases a : i < k
      · rw [if_pos a, if_neg (by omega), if_pos (by omega)]; rfl
      · by_cases b : k = i
        · rw [if_neg a, if_pos b, if_pos (by omega)]; rfl
        · rw [if_neg a, if_neg b, if_neg (by omega)]; rfl
    rw [← ih, e1]
    simp only [Option.bind_some, uA]
    by_cases a : k = i <;> by_cases b : k = j
    · subst a; subst b; simp
    · subst a
      have : (j < k ↔ j < k + 1) := by omega
      simp [b, this]
    · subst b
      have : (i < k ↔ i < k + 1) := by omega
      simp [a, this]
    · have t1 : (i < k ↔ i < k + 1) := by omega
      have t2 : (j < k ↔ j < k + 1) := by omega
      simp [a, b, t1, t2]
theorem ValueBuckets_pure (n : Int) (on : (Lit.int .i64 n).wf = true) (m : Int) (om : (Lit.int .i64 m).wf = true) : law01_ValueBuckets n m = some true := by
  unfold law01_ValueBuckets
  rw [shown_ok, Option.bind_some, bucket_eq, Option.bind_some, bucket_eq, Option.bind_some]
  have h1 := bi_le n
  have h2 := bi_le m
  have := buckets_l0 (n := n) (m := m) (i := bi n) (j := bi m) (by omega) (by omega) rfl (by
    rcases Int.lt_or_le m n with h | h
    · exact Or.inl h
    · exact Or.inr (bi_mono h)) 8 0 9 rfl (by decide)
  simpa using this
end Go.Proofs.YtmohocmmelaeaaaDoor.M
