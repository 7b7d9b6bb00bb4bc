/- The plain law of three tables that are put together either way. -/
import Derived.Test.YtojfckndloelpaaPure
import Derived.Test.YtojfckndloelpaaPL02
namespace Go.Proofs.Ytojfckndloelpaa.M
open Go Go.Eng Go.Proofs Go.RowKit
set_option maxRecDepth 100000
set_option linter.unusedVariables false
set_option linter.unusedSimpArgs false

theorem three_j1 {kl0 : List Int → Int → Option Bool} {t : api_Table} (hl : t.Rows.length ≤ 200) {l : List Int} {i : Nat} {v : Int} (hn : l.length = 4) (hi : i < 2) (hv : 0 ≤ v) :
    law02_TableThree.j1 kl0 t l (i : Int) v = kl0 (l.set (i + 1) (v.tmod ((t.Rows.length : Int) + 1))) ((i + 1 : Nat) : Int) := by
  unfold law02_TableThree.j1
  have e : IntKind.i64.wrap ((t.Rows.length : Int) + 1) = (t.Rows.length : Int) + 1 := w64 (by omega) (by omega)
  rw [e, if_pos (by simp only [bne_iff_ne, ne_eq]; omega), w64_nat i (by omega)]
  obtain ⟨x, hx⟩ : ∃ x, l[i + 1]? = some x := ⟨l[i + 1]'(by omega), by simp⟩
  rw [ix_of hx, Option.bind_some]
  congr 1
theorem check_sub {t : api_Table} (h : checkS t = 0) {rs : List (List api_Value)} (hr : ∀ r ∈ rs, r ∈ t.Rows) : checkS ⟨t.Cols, rs⟩ = 0 :=
  checkS_zero.2 ⟨(checkS_zero.1 h).1, fun r hm => (checkS_zero.1 h).2 r (hr r hm)⟩
theorem three_j2 {t : api_Table} (ht : szT t) (h : checkS t = 0) (hl : t.Rows.length ≤ 200) {x y : Nat} (hxy : x ≤ y) (hy : y ≤ t.Rows.length) : law02_TableThree.j2 true t [0, (x : Int), (y : Int), (t.Rows.length : Int)] = some true := by
  have i1 : ix [0, (x : Int), (y : Int), (t.Rows.length : Int)] 1 = some (x : Int) := rfl
  have i2 : ix [0, (x : Int), (y : Int), (t.Rows.length : Int)] 2 = some (y : Int) := rfl
  have c1 : cut t.Rows 0 (x : Int) = some (t.Rows.take x) := by rw [cut_of (by omega) (by omega) (by omega)]; simp
  have c2 : cut t.Rows (x : Int) (y : Int) = some ((t.Rows.drop x).take (y - x)) := by rw [cut_of (by omega) (by omega) (by omega)]; simp
  have c3 : cut t.Rows (y : Int) (t.Rows.length : Int) = some (t.Rows.drop y) := by
    rw [cut_of (by omega) (by omega) (by omega), Int.toNat_natCast, Int.toNat_natCast, List.take_of_length_le (by simp)]
  have e3 : t.Rows.take x ++ ((t.Rows.drop x).take (y - x) ++ t.Rows.drop y) = t.Rows := by
    have : t.Rows.drop y = (t.Rows.drop x).drop (y - x) := by rw [List.drop_drop]; congr 1; omega
    rw [this, List.take_append_drop, List.take_append_drop]
  generalize hA : t.Rows.take x = A at *
  generalize hB : (t.Rows.drop x).take (y - x) = B at *
  generalize hC : t.Rows.drop y = C at *
  have mA : ∀ r ∈ A, r ∈ t.Rows := fun r hr => by rw [← e3]; simp [hr]
  have mB : ∀ r ∈ B, r ∈ t.Rows := fun r hr => by rw [← e3]; simp [hr]
  have mC : ∀ r ∈ C, r ∈ t.Rows := fun r hr => by rw [← e3]; simp [hr]
  have ls : A.length + (B.length + C.length) = t.Rows.length := by rw [← e3]; simp
  have lsub : ∀ {rs : List (List api_Value)}, rs.length ≤ t.Rows.length → (∀ r ∈ rs, r ∈ t.Rows) → szT ⟨t.Cols, rs⟩ := fun hn hm => ht.sub rfl hn hm
  have sA := lsub (rs := A) (by omega) mA
  have sB := lsub (rs := B) (by omega) mB
  have sC := lsub (rs := C) (by omega) mC
  have sAB := lsub (rs := A ++ B) (by simp; omega) (fun r hr => (List.mem_append.1 hr).elim (mA r) (mB r))
  have sBC := lsub (rs := B ++ C) (by simp; omega) (fun r hr => (List.mem_append.1 hr).elim (mB r) (mC r))
  have kA := check_sub h mA
  have kB := check_sub h mB
  have kC := check_sub h mC
  have kAB : checkS ⟨t.Cols, A ++ B⟩ = 0 := check_sub h (fun r hr => (List.mem_append.1 hr).elim (mA r) (mB r))
  have kBC : checkS ⟨t.Cols, B ++ C⟩ = 0 := check_sub h (fun r hr => (List.mem_append.1 hr).elim (mB r) (mC r))
  have pl : ∀ rs : List (List api_Value), (canonS ⟨t.Cols, rs⟩).Rows.length = rs.length := fun rs => by simp [canonS, sortC_len]
  have u1 : unionS ⟨t.Cols, A⟩ ⟨t.Cols, B⟩ = (canonS ⟨t.Cols, A ++ B⟩, 0) := union_of kA kB rfl
  have u2 : unionS ⟨t.Cols, B⟩ ⟨t.Cols, C⟩ = (canonS ⟨t.Cols, B ++ C⟩, 0) := union_of kB kC rfl
  have u3 : unionS (canonS ⟨t.Cols, A ++ B⟩) ⟨t.Cols, C⟩ = (canonS t, 0) := by
    have kz : checkS (canonS ⟨t.Cols, A ++ B⟩) = 0 := by rw [checkS_canon]; exact kAB
    rw [union_of kz kC rfl]
    congr 1
    refine canonS_perm rfl ?_
    have p1 : (sortC cmpR (A ++ B)).Perm (A ++ B) := sortC_perm _ _
    have : (sortC cmpR (A ++ B) ++ C).Perm (A ++ (B ++ C)) := by rw [← List.append_assoc]; exact p1.append_right C
    rw [e3] at this; exact this
  have u4 : unionS ⟨t.Cols, A⟩ (canonS ⟨t.Cols, B ++ C⟩) = (canonS t, 0) := by
    have kz : checkS (canonS ⟨t.Cols, B ++ C⟩) = 0 := by rw [checkS_canon]; exact kBC
    rw [union_of kA kz rfl]
    congr 1
    refine canonS_perm rfl ?_
    have p1 : (sortC cmpR (B ++ C)).Perm (B ++ C) := sortC_perm _ _
    have : (A ++ sortC cmpR (B ++ C)).Perm (A ++ (B ++ C)) := p1.append_left A
    rw [e3] at this; exact this
  have lAB := pl (A ++ B)
  have lBC := pl (B ++ C)
  simp only [List.length_append] at lAB lBC
  unfold law02_TableThree.j2
  simp only [i1, i2, Option.bind_some, c1, c2, c3]
  rw [union_eq sA sB (by show (A.length + B.length) * 24 ≤ _; omega), u1, Option.bind_some, union_eq sAB.canon sC (by show ((canonS _).Rows.length + C.length) * 24 ≤ _; omega), u3, Option.bind_some,
    union_eq sB sC (by show (B.length + C.length) * 24 ≤ _; omega), u2, Option.bind_some, union_eq sA sBC.canon (by show (A.length + (canonS _).Rows.length) * 24 ≤ _; omega), u4, Option.bind_some,
    rsame_eq ht.canon, Option.bind_some, rcanon_eq ht, Option.bind_some, rsame_eq ht.canon, Option.bind_some]
  simp
theorem tmod_nat {x : Int} {n : Nat} (hx : 0 ≤ x) : ∃ k : Nat, k ≤ n ∧ x.tmod ((n : Int) + 1) = (k : Int) := by
  have := tmod_range hx (n := n + 1) (by omega)
  refine ⟨(x.tmod ((n : Int) + 1)).toNat, ?_, ?_⟩
  · have h2 : (((n + 1 : Nat)) : Int) = (n : Int) + 1 := by omega
    rw [h2] at this; omega
  · have h2 : (((n + 1 : Nat)) : Int) = (n : Int) + 1 := by omega
    rw [h2] at this; omega
theorem three_round {t : api_Table} (hl : t.Rows.length ≤ 200) {a1 : Arr2} {fuel i : Nat} {l : List Int} {v : Int} (hn : l.length = 4) (hi : i < 2) (hv : a1.ix (i : Int) = some v) (hr : -9223372036854775808 ≤ v) :
    ∃ k : Nat, k ≤ t.Rows.length ∧ law02_TableThree.l0 a1 true t (fuel + 1) l (i : Int) = law02_TableThree.l0 a1 true t fuel (l.set (i + 1) (k : Int)) ((i + 1 : Nat) : Int) := by
  rw [law02_TableThree.l0, if_pos (by simp only [decide_eq_true_eq]; omega), hv, Option.bind_some]
  by_cases hneg : v < 0
  · have h0 := folded hr hneg
    rw [if_pos (by simpa using hneg), three_j1 hl hn hi h0]
    obtain ⟨k, hk, e⟩ := tmod_nat (n := t.Rows.length) h0
    exact ⟨k, hk, by rw [e]⟩
  · rw [if_neg (by simpa using hneg), three_j1 hl hn hi (by omega)]
    obtain ⟨k, hk, e⟩ := tmod_nat (x := v) (n := t.Rows.length) (by omega)
    exact ⟨k, hk, by rw [e]⟩
theorem TableThree_pure (t : api_Table) (ot : ok_api_Table t) (cuts : Arr2) (oc : ok_Arr2 cuts) : law02_TableThree t cuts = some true := by
  have h := (szT_of ot).cut
  have hl := cut_len t
  have r0 := (i64_range (oc cuts.a0 (by simp [Arr2.list]))).1
  have r1 := (i64_range (oc cuts.a1 (by simp [Arr2.list]))).1
  unfold law02_TableThree
  rw [shown_ok, Option.bind_some, cut_eq', Option.bind_some, rcheck_eq h.cols h.rows, Option.bind_some]
  by_cases hz : checkS (cutS t) = 0
  · rw [if_neg (by simpa using hz)]
    obtain ⟨k, hk, e⟩ := three_round (fuel := 2) (i := 0) (l := [0, 0, 0, ((cutS t).Rows.length : Int)]) (a1 := cuts) (v := cuts.a0) hl rfl (by omega) rfl r0
    obtain ⟨m, hm, e'⟩ := three_round (fuel := 1) (i := 1) (l := [0, (k : Int), 0, ((cutS t).Rows.length : Int)]) (a1 := cuts) (v := cuts.a1) hl rfl (by omega) rfl r1
    have ef : ((2 : Int) - 0).toNat + 1 = 2 + 1 := by decide
    rw [ef]
    refine Eq.trans e (Eq.trans e' ?_)
    show law02_TableThree.l0 cuts true (cutS t) 1 [0, (k : Int), (m : Int), ((cutS t).Rows.length : Int)] 2 = some true
    rw [law02_TableThree.l0, if_neg (by decide)]
    have i1 : ix [0, (k : Int), (m : Int), ((cutS t).Rows.length : Int)] 1 = some (k : Int) := rfl
    have i2 : ix [0, (k : Int), (m : Int), ((cutS t).Rows.length : Int)] 2 = some (m : Int) := rfl
    rw [i1, Option.bind_some, i2, Option.bind_some]
    by_cases hc : (k : Int) > (m : Int)
    · rw [if_pos (by simpa using hc), Option.bind_some, Option.bind_some, Option.bind_some]
      have e1 : upd [0, (k : Int), (m : Int), ((cutS t).Rows.length : Int)] 1 (m : Int) = [0, (m : Int), (m : Int), ((cutS t).Rows.length : Int)] := rfl
      have e2 : upd [0, (m : Int), (m : Int), ((cutS t).Rows.length : Int)] 2 (k : Int) = [0, (m : Int), (k : Int), ((cutS t).Rows.length : Int)] := rfl
      have e3 : ix [0, (m : Int), (m : Int), ((cutS t).Rows.length : Int)] 2 = some (m : Int) := rfl
      rw [e1, e3, Option.bind_some, e2]
      exact three_j2 h hz hl (by omega) hk
    · rw [if_neg (by simpa using hc)]
      exact three_j2 h hz hl (by omega) hm
  · rw [if_pos (by simpa using hz)]
end Go.Proofs.Ytojfckndloelpaa.M
