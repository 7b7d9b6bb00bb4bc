/- The reference's reading of conditions: the code answers so. -/
import Derived.Test.YtjklfkiaebipnaaPure
import Derived.Test.YtjklfkiaebipnaaPL15e
namespace Go.Proofs.Ytjklfkiaebipnaa.M
open Go Go.Eng Go.Proofs Go.RowKit
set_option maxRecDepth 100000
set_option linter.unusedVariables false
set_option linter.unusedSimpArgs false

section
variable {L : TL} {kr : Rdr → Option (Int × Rdr)} {k : Nat}
theorem cmp_bad {p : api_Token × Rdr} {r : Rdr} (hb : bad r) : ∀ (fuel k : Nat), k ≤ 7 → 7 < k + fuel → ∃ i, ref12_reader_not.l0 p fuel r.L r.At r.Q r.E r.Depth 0 sgs (k : Int) = some (i, r)
  | 0, k, _, h => by omega
  | fuel + 1, k, h1, h2 => by
    rw [ref12_reader_not.l0]
    by_cases hk : k < 7
    · rw [if_pos (by simp; omega), show ((0 : Int) == 0) = true from rfl]
      unfold ref12_reader_not.j1
      have hsl : sgs.length = 7 := rfl
      obtain ⟨w, hw, _⟩ := getE (l := sgs) (i := k) (by omega)
      rw [if_pos rfl, ix_of hw, Option.bind_some]
      show ∃ i, ((ref12_reader_sees r w).bind _) = _
      rw [sees_bad hb, Option.bind_some]
      dsimp only
      rw [if_neg (show ¬ (false = true) by decide)]
      unfold ref12_reader_not.j2
      dsimp only
      rw [w64_nat k (by omega)]
      exact cmp_bad hb fuel (k + 1) (by omega) (by omega)
    · rw [if_neg (by simp; omega)]
      unfold ref12_reader_not.j1
      rw [if_neg (by decide), if_pos (show ((0 : Int) == 0) = true from rfl)]
      show ∃ i, ((ref12_reader_fail r).bind _) = _
      rw [fail_bad hb]; exact ⟨_, rfl⟩
theorem not_bad {r : Rdr} (hb : bad r) (n : Nat) : ref12_reader_not.r kr (n + 1) r = some (0, r) := by
  rw [ref12_reader_not.r]
  unfold ref12_reader_not.b
  rw [if_pos (by have h' : r.E ≠ 0 := hb; simpa using h')]
theorem depth_back {a d : Nat} {Q : List api_Node} (hd : d ≤ 1000) : (⟨L, (a : Int), Q, 0, IntKind.i64.wrap (((d + 1 : Nat) : Int) - 1)⟩ : Rdr) = rd L a Q d := by
  unfold rd
  rw [w64 (by omega) (by omega)]
  congr 1; omega
theorem sim_leaf {a d : Nat} {Q : List api_Node} (hL : L.length ≤ 1024) (hQ : Q.length ≤ 2000) (ha : a ≤ L.length) (h1 : isT (L.drop a) wNot = false) (h2 : isT (L.drop a) wOpen = false) :
    Ans L .n d Q a a ((ref12_reader_kind (rd L a Q d) 1).bind fun y_104 => ((ref12_reader_sees y_104.2 (⟨#[104, 97, 115]⟩ : ByteArray)).bind fun y_117 => (if y_117.1 = true then ((ref12_reader_kind y_117.2 3).bind fun y_130 => ((ref12_reader_lay y_130.2 (⟨15, y_104.1.S, 0, 0, 0, (⟨2, 0, y_130.1.S, (⟨0, 0, 0, 0, 0, 0, 0, 0⟩ : Arr8)⟩ : api_Value), [], [], []⟩ : api_Node)).bind fun y_142 => some (y_142.1, y_142.2))) else (ref12_reader_not.l0 y_104 (((7 : Int) - 1).toNat + 1) y_117.2.L y_117.2.At y_117.2.Q y_117.2.E y_117.2.Depth 0 [(⟨#[]⟩ : ByteArray), (⟨#[61]⟩ : ByteArray), (⟨#[33, 61]⟩ : ByteArray), (⟨#[60]⟩ : ByteArray), (⟨#[60, 61]⟩ : ByteArray), (⟨#[62]⟩ : ByteArray), (⟨#[62, 61]⟩ : ByteArray)] 1)))) := by
  by_cases hk : ∃ t, L[a]? = some t ∧ t.Kind = 1
  · obtain ⟨t, ht, hk⟩ := hk
    have hlt := (List.getElem?_eq_some_iff.1 ht).1
    have hP : P 1 .n d (L.drop a) = leafS (L.drop a) := by
      rw [P, if_neg (by rw [h1]; decide), if_neg (by rw [h2]; decide)]
    rw [drop_cons ht] at hP
    simp only [leafS, hk, if_true] at hP
    rw [← drop_cons ht] at hP
    rw [kind_t hL ht hk, Option.bind_some]
    dsimp only
    by_cases h3 : isT (L.drop (a + 1)) wHas = true
    · have hlt2 := isT_lt h3
      have hs := sees_t (Q := Q) (d := d) hL h3
      unfold wHas at hs
      rw [hs, Option.bind_some]
      dsimp only
      rw [if_pos rfl]
      rw [if_pos h3, tail_drop] at hP
      by_cases h4 : ∃ u, L[a + 1 + 1]? = some u ∧ u.Kind = 3
      · obtain ⟨u, hu, hk3⟩ := h4
        have hlt3 := (List.getElem?_eq_some_iff.1 hu).1
        rw [kind_t hL hu hk3, Option.bind_some]
        dsimp only
        rw [lay_ok hQ, Option.bind_some]
        rw [drop_cons hu] at hP
        simp only [hk3, if_true] at hP
        exact ⟨_, _, rfl, rfl, Or.inr ⟨1, _, a + 1 + 1 + 1, hP, by omega, by omega, rfl, by simp [Cn.sz], by simp only [Cn.sz]; omega⟩⟩
      · obtain ⟨u, r, e1, e2, e3⟩ := kind_f (L := L) (a := a + 1 + 1) (Q := Q) (d := d) (k := 3) (fun u hu hk => h4 ⟨u, hu, hk⟩)
        rw [e1, Option.bind_some]
        dsimp only
        obtain ⟨i, e⟩ := lay_bad (n := (⟨15, t.S, 0, 0, 0, (⟨2, 0, u.S, (⟨0, 0, 0, 0, 0, 0, 0, 0⟩ : Arr8)⟩ : api_Value), [], [], []⟩ : api_Node)) e2
        rw [e, Option.bind_some]
        exact ⟨_, _, rfl, e3, Or.inl e2⟩
    · have h3' := Bool.eq_false_iff.2 h3
      have hs := sees_f (Q := Q) (d := d) h3'
      unfold wHas at hs
      rw [hs, Option.bind_some]
      dsimp only
      rw [if_neg (show ¬ (false = true) by decide)]
      rw [if_neg h3] at hP
      obtain ⟨i, r, e1, e2, e3⟩ := cmp_l0 (L := L) (a1 := a + 1) (Q := Q) (d := d) (t := t) (p := (t, rd L (a + 1) Q d)) rfl hL hQ (by omega) (((7 : Int) - 1).toNat + 1) 1 (by omega) (by omega) (by omega) rfl
      refine ⟨i, r, e1, e2, ?_⟩
      rcases e3 with hb | ⟨o1, v, a', v1, v2, v3, rfl, rfl⟩
      · exact Or.inl hb
      · refine Or.inr ⟨1, .cmp t.S (opS (L.drop (a + 1)) : Int) v, a', ?_, by omega, v3, rfl, by simp [Cn.sz], by simp only [Cn.sz]; omega⟩
        rw [if_neg o1, tail_drop, v1] at hP
        exact hP
  · obtain ⟨t, r, e1, e2, e3⟩ := kind_f (L := L) (a := a) (Q := Q) (d := d) (k := 1) (fun t ht hk' => hk ⟨t, ht, hk'⟩)
    rw [e1, Option.bind_some]
    dsimp only
    rw [sees_bad e2, Option.bind_some]
    dsimp only
    rw [if_neg (show ¬ (false = true) by decide)]
    obtain ⟨i, e⟩ := cmp_bad (p := (t, r)) e2 (((7 : Int) - 1).toNat + 1) 1 (by omega) (by omega)
    exact ⟨i, r, e, e3, Or.inl e2⟩
theorem sim_not (hL : L.length ≤ 1024) (hkr : KrOkC L kr k) : ∀ (n a : Nat) (Q : List api_Node) (d : Nat), L.length < a + n → L.length < a + 1 + k → Q.length ≤ a → a ≤ L.length → d ≤ 16 → Ans L .n d Q a a (ref12_reader_not.r kr n (rd L a Q d))
  | 0, a, Q, d, h1, h2, h3, h4, h5 => by omega
  | n + 1, a, Q, d, h1, h2, h3, h4, h5 => by
    rw [ref12_reader_not.r]
    unfold ref12_reader_not.b
    rw [if_neg (show ¬ ((rd L a Q d).E != 0) = true from (show ¬ ((0 : Int) != 0) = true by decide))]
    by_cases c1 : isT (L.drop a) wNot = true
    · have hlt := isT_lt c1
      have hs := sees_t (Q := Q) (d := d) hL c1
      unfold wNot at hs
      rw [hs, Option.bind_some]
      dsimp only
      rw [if_pos rfl]
      by_cases hd : d < 16
      · rw [deeper_ok hd, Option.bind_some]
        obtain ⟨i, r, e1, e2, e3⟩ := sim_not hL hkr n (a + 1) Q (d + 1) (by omega) (by omega) (by omega) (by omega) (by omega)
        rw [e1, Option.bind_some]
        dsimp only
        rcases e3 with hb | ⟨f, c, a', p1, p2, p3, rfl, rfl, p4⟩
        · obtain ⟨j, e⟩ := lay_bad (r := ⟨r.L, r.At, r.Q, r.E, IntKind.i64.wrap (r.Depth - 1)⟩) (n := (⟨13, (⟨#[]⟩ : ByteArray), 0, 0, 0, (⟨0, 0, (⟨#[]⟩ : ByteArray), (⟨0, 0, 0, 0, 0, 0, 0, 0⟩ : Arr8)⟩ : api_Value), [i], [], []⟩ : api_Node)) hb
          rw [e, Option.bind_some]
          exact ⟨_, _, rfl, e2, Or.inl hb⟩
        · have hQl : (Q ++ c.fl Q.length).length = Q.length + c.sz := by rw [List.length_append, fl_len]
          have hl := lay_ok (L := L) (a := a') (d := d) (n := nNot (((Q.length + c.sz : Nat) : Int) - 1)) (Q := Q ++ c.fl Q.length) (by omega)
          rw [← depth_back (L := L) (a := a') (Q := Q ++ c.fl Q.length) (d := d) (by omega)] at hl
          refine ⟨((Q ++ c.fl Q.length).length : Int), _, ?_, rfl, Or.inr ⟨f + 1, .not c, a', ?_, by omega, p3, rfl, ?_, ?_⟩⟩
          · refine Eq.trans (congrArg (fun z => Option.bind z _) hl) ?_
            rw [Option.bind_some]
            dsimp only
            rw [Cn.fl, List.append_assoc]
          · rw [P, if_pos c1, if_neg (by omega), tail_drop, p1]; rfl
          · rw [hQl]; simp only [Cn.sz]; omega
          · simp only [Cn.sz]; omega
      · obtain ⟨r, e1, e2, e3⟩ := deeper_bad (L := L) (a := a + 1) (Q := Q) (d := d) (by omega)
        rw [e1, Option.bind_some]
        obtain ⟨m, rfl⟩ : ∃ m, n = m + 1 := ⟨n - 1, by omega⟩
        rw [not_bad e2, Option.bind_some]
        dsimp only
        obtain ⟨j, e⟩ := lay_bad (r := ⟨r.L, r.At, r.Q, r.E, IntKind.i64.wrap (r.Depth - 1)⟩) (n := (⟨13, (⟨#[]⟩ : ByteArray), 0, 0, 0, (⟨0, 0, (⟨#[]⟩ : ByteArray), (⟨0, 0, 0, 0, 0, 0, 0, 0⟩ : Arr8)⟩ : api_Value), [0], [], []⟩ : api_Node)) e2
        rw [e, Option.bind_some]
        exact ⟨_, _, rfl, e3, Or.inl e2⟩
    · have c1' := Bool.eq_false_iff.2 c1
      have hs := sees_f (Q := Q) (d := d) c1'
      unfold wNot at hs
      rw [hs, Option.bind_some]
      dsimp only
      rw [if_neg (show ¬ (false = true) by decide)]
      by_cases c2 : isT (L.drop a) wOpen = true
      · have hlt := isT_lt c2
        have hs := sees_t (Q := Q) (d := d) hL c2
        unfold wOpen at hs
        rw [hs, Option.bind_some]
        dsimp only
        rw [if_pos rfl]
        by_cases hd : d < 16
        · rw [deeper_ok hd, Option.bind_some]
          obtain ⟨i, r, e1, e2, e3⟩ := hkr.2 (a + 1) Q (d + 1) (by omega) (by omega) (by omega) (by omega)
          rw [e1, Option.bind_some]
          dsimp only
          rcases e3 with hb | ⟨f, c, a', p1, p2, p3, rfl, rfl, p4⟩
          · rw [wants_bad hb, Option.bind_some]
            exact ⟨_, _, rfl, e2, Or.inl hb⟩
          · by_cases c3 : isT (L.drop a') wClose = true
            · have hlt3 := isT_lt c3
              have hw := wants_t (Q := Q ++ c.fl Q.length) (d := d + 1) hL c3
              unfold wClose at hw
              rw [hw, Option.bind_some]
              refine ⟨_, _, rfl, rfl, Or.inr ⟨f + 1, c, a' + 1, ?_, by omega, by omega, ?_, rfl, by omega⟩⟩
              · rw [P, if_neg c1, if_pos c2, if_neg (by omega), tail_drop, p1, Option.bind_some]
                dsimp only
                rw [if_pos c3, tail_drop]
              · exact depth_back (by omega)
            · have c3' := Bool.eq_false_iff.2 c3
              obtain ⟨r2, w1, w2, w3⟩ := wants_f (Q := Q ++ c.fl Q.length) (d := d + 1) c3'
              unfold wClose at w1
              rw [w1, Option.bind_some]
              exact ⟨_, _, rfl, w3, Or.inl w2⟩
        · obtain ⟨r, e1, e2, e3⟩ := deeper_bad (L := L) (a := a + 1) (Q := Q) (d := d) (by omega)
          rw [e1, Option.bind_some, hkr.1 r e2 e3 (by omega), Option.bind_some]
          dsimp only
          rw [wants_bad e2, Option.bind_some]
          exact ⟨_, _, rfl, e3, Or.inl e2⟩
      · have c2' := Bool.eq_false_iff.2 c2
        have hs := sees_f (Q := Q) (d := d) c2'
        unfold wOpen at hs
        rw [hs, Option.bind_some]
        dsimp only
        rw [if_neg (show ¬ (false = true) by decide)]
        exact sim_leaf hL (by omega) h4 c1' c2'
theorem sim_n (Q : List api_Node) (a d : Nat) (hL : L.length ≤ 1024) (hkr : KrOkC L kr k) (h2 : L.length < a + 1 + k) (h3 : Q.length ≤ a) (h4 : a ≤ L.length) (h5 : d ≤ 16) : Ans L .n d Q a a (ref12_reader_not kr (rd L a Q d)) :=
  sim_not hL hkr (L.length + 2) a Q d (by omega) h2 h3 h4 h5
theorem n_bad {r : Rdr} (hb : bad r) : ref12_reader_not kr r = some (0, r) := not_bad hb _
theorem bl_bad {z r : Rdr} (hb : bad r) (i : Int) (n : Nat) : ref12_reader_both.l0 z kr (n + 1) r.L r.At r.Q r.E r.Depth i = some (i, r) := by
  rw [ref12_reader_both.l0]
  show ((ref12_reader_sees r _).bind _) = _
  rw [sees_bad hb, Option.bind_some]
  dsimp only
  rw [if_neg (show ¬ (false = true) by decide)]
theorem sim_bl (hL : L.length ≤ 1024) (hkr : KrOkC L kr k) {z : Rdr} {Q : List api_Node} {a0 d : Nat} (hQ : Q.length ≤ a0) (hd : d ≤ 16) : ∀ (fuel a1 : Nat) (x : Cn), L.length < a1 + fuel → L.length < a1 + 1 + k → a1 ≤ L.length → a0 + x.sz ≤ a1 →
    Ans L (.bl x) d Q a0 a1 (ref12_reader_both.l0 z kr fuel L (a1 : Int) (Q ++ x.fl Q.length) 0 (d : Int) (((Q.length + x.sz : Nat) : Int) - 1))
  | 0, a1, x, h1, h2, h3, h4 => by omega
  | fuel + 1, a1, x, h1, h2, h3, h4 => by
    rw [ref12_reader_both.l0]
    have hQl : (Q ++ x.fl Q.length).length = Q.length + x.sz := by rw [List.length_append, fl_len]
    show Ans L (.bl x) d Q a0 a1 ((ref12_reader_sees (rd L a1 (Q ++ x.fl Q.length) d) _).bind _)
    by_cases c1 : isT (L.drop a1) wAnd = true
    · have hlt := isT_lt c1
      have hs := sees_t (Q := Q ++ x.fl Q.length) (d := d) hL c1
      unfold wAnd at hs
      rw [hs, Option.bind_some]
      dsimp only
      rw [if_pos rfl]
      obtain ⟨i, r, e1, e2, e3⟩ := sim_n (Q ++ x.fl Q.length) (a1 + 1) d hL hkr (by omega) (by omega) (by omega) hd
      rw [e1, Option.bind_some]
      dsimp only
      rcases e3 with hb | ⟨f, y, a2, p1, p2, p3, rfl, rfl, p4⟩
      · obtain ⟨j, e⟩ := lay_bad (r := r) (n := (⟨11, (⟨#[]⟩ : ByteArray), 0, 0, 0, (⟨0, 0, (⟨#[]⟩ : ByteArray), (⟨0, 0, 0, 0, 0, 0, 0, 0⟩ : Arr8)⟩ : api_Value), [((Q.length + x.sz : Nat) : Int) - 1, i], [], []⟩ : api_Node)) hb
        rw [e, Option.bind_some]
        dsimp only
        obtain ⟨g, rfl⟩ : ∃ g, fuel = g + 1 := ⟨fuel - 1, by omega⟩
        rw [bl_bad hb]
        exact ⟨_, _, rfl, e2, Or.inl hb⟩
      · rw [hQl]
        have hQ2 : (Q ++ x.fl Q.length ++ y.fl (Q.length + x.sz)).length = Q.length + x.sz + y.sz := by rw [List.length_append, hQl, fl_len]
        have hl := lay_ok (L := L) (a := a2) (d := d) (n := nAnd (((Q.length + x.sz : Nat) : Int) - 1) (((Q.length + x.sz + y.sz : Nat) : Int) - 1)) (Q := Q ++ x.fl Q.length ++ y.fl (Q.length + x.sz)) (by omega)
        rw [hQ2] at hl
        have ef : Q ++ x.fl Q.length ++ y.fl (Q.length + x.sz) ++ [nAnd (((Q.length + x.sz : Nat) : Int) - 1) (((Q.length + x.sz + y.sz : Nat) : Int) - 1)] = Q ++ (Cn.and x y).fl Q.length := by rw [Cn.fl]; simp
        rw [ef] at hl
        have ei : ((Q.length + x.sz + y.sz : Nat) : Int) = ((Q.length + (Cn.and x y).sz : Nat) : Int) - 1 := by simp only [Cn.sz]; omega
        obtain ⟨j, r, q1, q2, q3⟩ := sim_bl hL hkr (z := z) hQ hd fuel a2 (Cn.and x y) (by omega) (by omega) p3 (by simp only [Cn.sz]; omega)
        refine ⟨j, r, ?_, q2, ?_⟩
        · refine Eq.trans (congrArg (fun w => Option.bind w _) hl) ?_
          rw [Option.bind_some, ei]
          exact q1
        · rcases q3 with hb | ⟨g, c, a', r1, r2, r3, r4, r5, r6⟩
          · exact Or.inl hb
          · refine Or.inr ⟨max f g + 1, c, a', ?_, by omega, r3, r4, r5, r6⟩
            rw [P, if_pos c1, tail_drop, P_mono _ _ _ _ _ p1 _ (Nat.le_max_left f g), Option.bind_some]
            exact P_mono _ _ _ _ _ r1 _ (Nat.le_max_right f g)
    · have c1' := Bool.eq_false_iff.2 c1
      have hs := sees_f (Q := Q ++ x.fl Q.length) (d := d) c1'
      unfold wAnd at hs
      rw [hs, Option.bind_some]
      dsimp only
      rw [if_neg (show ¬ (false = true) by decide)]
      exact ⟨_, _, rfl, rfl, Or.inr ⟨1, x, a1, by rw [P, if_neg c1], Nat.le_refl _, h3, rfl, rfl, h4⟩⟩
theorem b_bad {r : Rdr} (hb : bad r) : ref12_reader_both kr r = some (0, r) := by
  unfold ref12_reader_both
  rw [n_bad hb, Option.bind_some]
  dsimp only
  rw [bl_bad hb]
theorem sim_b (Q : List api_Node) (a d : Nat) (hL : L.length ≤ 1024) (hkr : KrOkC L kr k) (h2 : L.length < a + 1 + k) (h3 : Q.length ≤ a) (h4 : a ≤ L.length) (h5 : d ≤ 16) : Ans L .b d Q a a (ref12_reader_both kr (rd L a Q d)) := by
  unfold ref12_reader_both
  obtain ⟨i, r, e1, e2, e3⟩ := sim_n Q a d hL hkr h2 h3 h4 h5
  rw [e1, Option.bind_some]
  dsimp only
  rcases e3 with hb | ⟨f, x, a1, p1, p2, p3, rfl, rfl, p4⟩
  · rw [bl_bad hb]
    exact ⟨_, _, rfl, e2, Or.inl hb⟩
  · obtain ⟨j, r, q1, q2, q3⟩ := sim_bl hL hkr (z := rd L a Q d) (Q := Q) (a0 := a) (d := d) h3 h5 (L.length + 1) a1 x (by omega) (by omega) p3 p4
    refine ⟨j, r, q1, q2, ?_⟩
    rcases q3 with hb | ⟨g, c, a', r1, r2, r3, r4, r5, r6⟩
    · exact Or.inl hb
    · refine Or.inr ⟨max f g + 1, c, a', ?_, by omega, r3, r4, r5, r6⟩
      rw [P, P_mono _ _ _ _ _ p1 _ (Nat.le_max_left f g), Option.bind_some]
      exact P_mono _ _ _ _ _ r1 _ (Nat.le_max_right f g)
theorem cl_bad {z r : Rdr} (hb : bad r) (i : Int) (n : Nat) : ref12_reader_cond.l0 z kr (n + 1) r.L r.At r.Q r.E r.Depth i = some (i, r) := by
  rw [ref12_reader_cond.l0]
  show ((ref12_reader_sees r _).bind _) = _
  rw [sees_bad hb, Option.bind_some]
  dsimp only
  rw [if_neg (show ¬ (false = true) by decide)]
theorem sim_cl (hL : L.length ≤ 1024) (hkr : KrOkC L kr k) {z : Rdr} {Q : List api_Node} {a0 d : Nat} (hQ : Q.length ≤ a0) (hd : d ≤ 16) : ∀ (fuel a1 : Nat) (x : Cn), L.length < a1 + fuel → L.length < a1 + 1 + k → a1 ≤ L.length → a0 + x.sz ≤ a1 →
    Ans L (.cl x) d Q a0 a1 (ref12_reader_cond.l0 z kr fuel L (a1 : Int) (Q ++ x.fl Q.length) 0 (d : Int) (((Q.length + x.sz : Nat) : Int) - 1))
  | 0, a1, x, h1, h2, h3, h4 => by omega
  | fuel + 1, a1, x, h1, h2, h3, h4 => by
    rw [ref12_reader_cond.l0]
    have hQl : (Q ++ x.fl Q.length).length = Q.length + x.sz := by rw [List.length_append, fl_len]
    show Ans L (.cl x) d Q a0 a1 ((ref12_reader_sees (rd L a1 (Q ++ x.fl Q.length) d) _).bind _)
    by_cases c1 : isT (L.drop a1) wOr = true
    · have hlt := isT_lt c1
      have hs := sees_t (Q := Q ++ x.fl Q.length) (d := d) hL c1
      unfold wOr at hs
      rw [hs, Option.bind_some]
      dsimp only
      rw [if_pos rfl]
      obtain ⟨i, r, e1, e2, e3⟩ := sim_b (Q ++ x.fl Q.length) (a1 + 1) d hL hkr (by omega) (by omega) (by omega) hd
      rw [e1, Option.bind_some]
      dsimp only
      rcases e3 with hb | ⟨f, y, a2, p1, p2, p3, rfl, rfl, p4⟩
      · obtain ⟨j, e⟩ := lay_bad (r := r) (n := (⟨12, (⟨#[]⟩ : ByteArray), 0, 0, 0, (⟨0, 0, (⟨#[]⟩ : ByteArray), (⟨0, 0, 0, 0, 0, 0, 0, 0⟩ : Arr8)⟩ : api_Value), [((Q.length + x.sz : Nat) : Int) - 1, i], [], []⟩ : api_Node)) hb
        rw [e, Option.bind_some]
        dsimp only
        obtain ⟨g, rfl⟩ : ∃ g, fuel = g + 1 := ⟨fuel - 1, by omega⟩
        rw [cl_bad hb]
        exact ⟨_, _, rfl, e2, Or.inl hb⟩
      · rw [hQl]
        have hQ2 : (Q ++ x.fl Q.length ++ y.fl (Q.length + x.sz)).length = Q.length + x.sz + y.sz := by rw [List.length_append, hQl, fl_len]
        have hl := lay_ok (L := L) (a := a2) (d := d) (n := nOr (((Q.length + x.sz : Nat) : Int) - 1) (((Q.length + x.sz + y.sz : Nat) : Int) - 1)) (Q := Q ++ x.fl Q.length ++ y.fl (Q.length + x.sz)) (by omega)
        rw [hQ2] at hl
        have ef : Q ++ x.fl Q.length ++ y.fl (Q.length + x.sz) ++ [nOr (((Q.length + x.sz : Nat) : Int) - 1) (((Q.length + x.sz + y.sz : Nat) : Int) - 1)] = Q ++ (Cn.or x y).fl Q.length := by rw [Cn.fl]; simp
        rw [ef] at hl
        have ei : ((Q.length + x.sz + y.sz : Nat) : Int) = ((Q.length + (Cn.or x y).sz : Nat) : Int) - 1 := by simp only [Cn.sz]; omega
        obtain ⟨j, r, q1, q2, q3⟩ := sim_cl hL hkr (z := z) hQ hd fuel a2 (Cn.or x y) (by omega) (by omega) p3 (by simp only [Cn.sz]; omega)
        refine ⟨j, r, ?_, q2, ?_⟩
        · refine Eq.trans (congrArg (fun w => Option.bind w _) hl) ?_
          rw [Option.bind_some, ei]
          exact q1
        · rcases q3 with hb | ⟨g, c, a', r1, r2, r3, r4, r5, r6⟩
          · exact Or.inl hb
          · refine Or.inr ⟨max f g + 1, c, a', ?_, by omega, r3, r4, r5, r6⟩
            rw [P, if_pos c1, tail_drop, P_mono _ _ _ _ _ p1 _ (Nat.le_max_left f g), Option.bind_some]
            exact P_mono _ _ _ _ _ r1 _ (Nat.le_max_right f g)
    · have c1' := Bool.eq_false_iff.2 c1
      have hs := sees_f (Q := Q ++ x.fl Q.length) (d := d) c1'
      unfold wOr at hs
      rw [hs, Option.bind_some]
      dsimp only
      rw [if_neg (show ¬ (false = true) by decide)]
      exact ⟨_, _, rfl, rfl, Or.inr ⟨1, x, a1, by rw [P, if_neg c1], Nat.le_refl _, h3, rfl, rfl, h4⟩⟩
theorem sim_c : ∀ k, L.length ≤ 1024 → KrOkC L (ref12_reader_cond.r k) k
  | 0, hL => ⟨fun r hb hl h => by omega, fun a Q d h1 h2 h3 h4 => by omega⟩
  | k + 1, hL => by
    have hkr := sim_c k hL
    refine ⟨fun r hb hl h => ?_, fun a Q d h1 h2 h3 h4 => ?_⟩
    · rw [ref12_reader_cond.r]
      unfold ref12_reader_cond.b
      rw [b_bad hb, Option.bind_some]
      dsimp only
      rw [cl_bad hb]
    · rw [ref12_reader_cond.r]
      unfold ref12_reader_cond.b
      obtain ⟨i, r, e1, e2, e3⟩ := sim_b Q a d hL hkr (by omega) h2 h3 h4
      rw [e1, Option.bind_some]
      dsimp only
      rcases e3 with hb | ⟨f, x, a1, p1, p2, p3, rfl, rfl, p4⟩
      · rw [cl_bad hb]
        exact ⟨_, _, rfl, e2, Or.inl hb⟩
      · obtain ⟨j, r, q1, q2, q3⟩ := sim_cl hL hkr (z := rd L a Q d) (Q := Q) (a0 := a) (d := d) h2 h4 (L.length + 1) a1 x (by omega) (by omega) p3 p4
        refine ⟨j, r, q1, q2, ?_⟩
        rcases q3 with hb | ⟨g, c, a', r1, r2, r3, r4, r5, r6⟩
        · exact Or.inl hb
        · refine Or.inr ⟨max f g + 1, c, a', ?_, by omega, r3, r4, r5, r6⟩
          rw [P, P_mono _ _ _ _ _ p1 _ (Nat.le_max_left f g), Option.bind_some]
          exact P_mono _ _ _ _ _ r1 _ (Nat.le_max_right f g)
/-- What the reference makes of tokens. -/
theorem cond_ans (L : TL) : ∃ q x e, ref12_Cond L = some (q, x, e) ∧ (e = 0 → ∃ f c, P f .c 0 L = some (c, []) ∧ q = ⟨c.fl 0⟩ ∧ c.sz ≤ 128) := by
  unfold ref12_Cond
  by_cases hL : L.length > 1024
  · rw [if_pos (by simp; omega)]
    exact ⟨_, _, _, rfl, fun h => by cases h⟩
  · rw [if_neg (by simp; omega)]
    obtain ⟨i, r, e1, e2, e3⟩ := (sim_c (L := L) (L.length + 2) (by omega)).2 0 [] 0 (by omega) (by simp) (by omega) (by omega)
    have e1' : ref12_reader_cond (⟨L, 0, ([] : List api_Node), 0, 0⟩ : catchmentref12_reader) = some (i, r) := e1
    rw [e1', Option.bind_some]
    dsimp only
    have endbad : ∀ r : Rdr, bad r → ref12_reader_end.j1 r.L r.At r.Q r.E r.Depth = some ((⟨([] : List api_Node)⟩ : api_Query), r.At, r.E) := fun r hb => by
      unfold ref12_reader_end.j1
      rw [if_pos (by have h' : r.E ≠ 0 := hb; simpa using h')]
    unfold ref12_reader_end ref12_reader_end.j0
    rcases e3 with hb | ⟨f, c, a', p1, p2, p3, rfl, rfl, p4⟩
    · rw [if_neg (by have h' : r.E ≠ 0 := hb; simpa using h'), if_neg (by decide), endbad r hb, Option.bind_some]
      exact ⟨_, _, _, rfl, fun h => absurd h hb⟩
    · rw [if_pos (show ((rd L a' ([] ++ c.fl ([] : List api_Node).length) 0).E == 0) = true from rfl)]
      by_cases hlt : a' < L.length
      · rw [if_pos (by simp [rd]; omega)]
        obtain ⟨r2, f1, f2, f3⟩ := fail_ok (L := L) (a := a') (Q := [] ++ c.fl ([] : List api_Node).length) (d := 0)
        rw [f1, Option.bind_some, endbad r2 f2, Option.bind_some]
        exact ⟨_, _, _, rfl, fun h => absurd h f2⟩
      · rw [if_neg (by simp [rd]; omega)]
        unfold ref12_reader_end.j1
        rw [if_neg (show ¬ (((rd L a' ([] ++ c.fl ([] : List api_Node).length) 0).E != 0) = true) from (show ¬ (((0 : Int) != 0) = true) by decide))]
        have hq : (rd L a' ([] ++ c.fl ([] : List api_Node).length) 0).Q = c.fl 0 := rfl
        rw [hq]
        by_cases hs : (c.fl 0).length > 128
        · rw [if_pos (by simp; omega), Option.bind_some]
          exact ⟨_, _, _, rfl, fun h => by cases h⟩
        · rw [if_neg (by simp; omega), Option.bind_some]
          rw [fl_len] at hs
          rw [List.drop_zero, List.drop_eq_nil_of_le (by omega)] at p1
          exact ⟨_, _, _, rfl, fun _ => ⟨f, c, p1, rfl, by omega⟩⟩
end
end Go.Proofs.Ytjklfkiaebipnaa.M
