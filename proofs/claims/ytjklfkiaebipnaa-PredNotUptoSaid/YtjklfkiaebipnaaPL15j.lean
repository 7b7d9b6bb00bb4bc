/- Layer 15: the plain laws of opposites, of both and of either. -/
import Derived.Test.YtjklfkiaebipnaaPure
import Derived.Test.YtjklfkiaebipnaaPL15i
import Derived.Test.YtjklfkiaebipnaaPLHf
import Derived.Test.YtjklfkiaebipnaaPL15a
namespace Go.Proofs.Ytjklfkiaebipnaa.M
open Go Go.Eng Go.Proofs Go.RowKit
set_option maxRecDepth 100000
set_option linter.unusedVariables false
set_option linter.unusedSimpArgs false

theorem smallN_cn {c : Cn} {b : Nat} (h : c.sm 64) : smallN (c.fl b) := fun n hn => by
  have := fl_sm c b h n hn
  exact ⟨by omega, by omega⟩
def cnT (t : api_Table) (c : Cn) : api_Table := ⟨t.Cols, t.Rows.filter (c.ev t.Cols)⟩
theorem where_cn {t : api_Table} {c : Cn} {ns : List api_Node} : whereQ t ⟨c.fl 0 ++ ns⟩ ((c.sz : Int) - 1) = cnT t c := by
  unfold whereQ cnT
  congr 2
  funext r
  exact holds_cn
theorem where_cn0 {t : api_Table} {c : Cn} : whereQ t ⟨c.fl 0⟩ ((c.sz : Int) - 1) = cnT t c := by
  have := where_cn (t := t) (c := c) (ns := [])
  rwa [List.append_nil] at this
/-! not -/
theorem not_l2 {t : api_Table} {c : Cn} {p : api_Query × Int × Int} {b : Bool} (hp : p.1 = ⟨c.fl 0⟩) (ht : szT t) (hr : ∀ r ∈ t.Rows, smallR r) (hl : t.Rows.length ≤ 100) (hz : c.sz ≤ 128) (hs : c.sm 64) : ∀ (fuel k : Nat), k ≤ t.Rows.length → t.Rows.length < k + fuel →
    law15_PredNot.l2 true t p ((Cn.not c).fl 0) b fuel (k : Int) = some b
  | 0, k, _, h => by omega
  | fuel + 1, k, h1, h2 => by
    rw [law15_PredNot.l2]
    by_cases hk : k < t.Rows.length
    · obtain ⟨r, hx, _⟩ := getE hk
      have hm := List.mem_of_getElem? hx
      have hsN : smallN ((Cn.not c).fl 0) := smallN_cn (c := .not c) hs
      have hlN : ((Cn.not c).fl 0).length ≤ 1000000 := by rw [fl_len]; simp only [Cn.sz]; omega
      have hpl : (p.1.N.length : Int) = (c.sz : Int) := by rw [hp]; simp only [fl_len]
      rw [if_pos (dlt hk), ix_of hx, Option.bind_some, Option.bind_some, hpl, w64 (x := (c.sz : Int) - 1) (by omega) (by omega), pholds_eq (q := ⟨(Cn.not c).fl 0⟩) ht.cols.1 (hr r hm) hsN hlN, Option.bind_some, pholds_eq (q := ⟨(Cn.not c).fl 0⟩) ht.cols.1 (hr r hm) hsN hlN, Option.bind_some]
      have e1 : holdsQ ⟨(Cn.not c).fl 0⟩ ((c.sz : Int) - 1) t.Cols r = c.ev t.Cols r := holds_cn
      have e2 : holdsQ ⟨(Cn.not c).fl 0⟩ (c.sz : Int) t.Cols r = !c.ev t.Cols r := by
        have := holds_cn (c := .not c) (ns := []) (cols := t.Cols) (row := r)
        rw [List.append_nil, show (((Cn.not c).sz : Nat) : Int) - 1 = (c.sz : Int) by simp only [Cn.sz]; omega] at this
        exact this
      rw [e1, e2, if_neg (by cases c.ev t.Cols r <;> decide), w64_nat k (by omega)]
      exact not_l2 hp ht hr hl hz hs fuel (k + 1) (by omega) (by omega)
    · rw [if_neg (dnl (by omega)), if_pos rfl]
theorem PredNot_core {s : ByteArray} {t : api_Table} (ht : szT (cutS t)) (hr : ∀ r ∈ (cutS t).Rows, smallR r) : law15_PredNot s t = some true := by
  unfold law15_PredNot
  rw [shown_ok, Option.bind_some, cut_eq', Option.bind_some]
  have hl := cut_len t
  obtain ⟨T, x, e, q, y, e2, h1, h2, h3⟩ := both_ans s
  rw [h1, Option.bind_some, h2, Option.bind_some]
  dsimp only
  by_cases he : e = 0
  · rw [if_neg (by simpa using he)]
    by_cases he2 : e2 = 0
    · obtain ⟨c, hc, rfl, hz, hs⟩ := h3 he he2
      rw [show (e2 != 0) = false by simpa using he2]
      unfold law15_PredNot.j0
      have hsN : smallN ((Cn.not c).fl 0) := smallN_cn (c := .not c) hs
      have hlN : ((Cn.not c).fl 0).length ≤ 1000000 := by rw [fl_len]; simp only [Cn.sz]; omega
      have hfl : (c.fl 0).length = c.sz := fl_len c 0
      have en : c.fl 0 ++ [(⟨13, (⟨#[]⟩ : ByteArray), 0, 0, 0, (⟨0, 0, (⟨#[]⟩ : ByteArray), (⟨0, 0, 0, 0, 0, 0, 0, 0⟩ : Arr8)⟩ : api_Value), [(c.sz : Int) - 1], [], []⟩ : api_Node)] = (Cn.not c).fl 0 := by
        rw [Cn.fl, Nat.zero_add]; rfl
      dsimp only
      rw [if_neg (by decide), apd_of (by simp only [List.length_nil]; omega), Option.bind_some, List.nil_append, hfl, w64 (x := (c.sz : Int) - 1) (by omega) (by omega), apd_of (by simp only [List.length_singleton]; omega), Option.bind_some]
      rw [en, pwhere_eq (q := ⟨(Cn.not c).fl 0⟩) ht hr hsN hlN, Option.bind_some, pwhere_eq (q := ⟨(Cn.not c).fl 0⟩) ht hr hsN hlN, Option.bind_some]
      have w1 : whereQ (cutS t) ⟨(Cn.not c).fl 0⟩ ((c.sz : Int) - 1) = cnT (cutS t) c := where_cn
      have w2 : whereQ (cutS t) ⟨(Cn.not c).fl 0⟩ (c.sz : Int) = cnT (cutS t) (.not c) := by
        have := where_cn0 (t := cutS t) (c := .not c)
        rwa [show (((Cn.not c).sz : Nat) : Int) - 1 = (c.sz : Int) by simp only [Cn.sz]; omega] at this
      have l1 : (cnT (cutS t) c).Rows.length ≤ (cutS t).Rows.length := List.length_filter_le _ _
      have l2 : (cnT (cutS t) (.not c)).Rows.length ≤ (cutS t).Rows.length := List.length_filter_le _ _
      rw [w1, w2, apd_of (by simp only [List.length_nil]; omega), Option.bind_some, List.nil_append, apd_of (by omega), Option.bind_some]
      unfold law15_PredNot.j1
      have hperm : ((cnT (cutS t) c).Rows ++ (cnT (cutS t) (.not c)).Rows).Perm (cutS t).Rows := List.filter_append_perm (c.ev (cutS t).Cols) (cutS t).Rows
      have hsz : szT (⟨(cutS t).Cols, (cnT (cutS t) c).Rows ++ (cnT (cutS t) (.not c)).Rows⟩ : api_Table) := ht.sub rfl (Nat.le_of_eq hperm.length_eq) (fun r hr => hperm.mem_iff.1 hr)
      rw [rcanon_eq hsz, Option.bind_some, rcanon_eq ht, Option.bind_some, rsame_eq hsz.canon, Option.bind_some, fuel_nat]
      rw [show (0 : Int) = ((0 : Nat) : Int) from rfl, not_l2 (c := c) rfl ht hr hl hz hs _ 0 (Nat.zero_le _) (by omega)]
      congr 1
      exact decide_eq_true (canonS_perm rfl hperm)
    · rw [show (e2 != 0) = true by simpa using he2]; rfl
  · rw [if_pos (by simpa using he)]; rfl
/-! texts put together -/
theorem sbytes_append (a b : ByteArray) : sbytes (a ++ b) = sbytes a ++ sbytes b := by
  unfold sbytes
  rw [ByteArray.data_append, Array.toList_append, List.map_append]
def LX (l : List Int) (T : TL) : Prop := ∃ f, lexE f l = some T
theorem lx_nil : LX [] [] := ⟨1, rfl⟩
theorem lx_sp {z : List Int} {T : TL} (h : LX z T) : LX (32 :: z) T := by
  obtain ⟨f, h⟩ := h
  exact ⟨f + 1, by rw [lexE, if_pos (by decide)]; exact h⟩
theorem sgn_one {a : UInt8} (z : List Int) (hc : (a.toNat : Int) ∈ chS) (h1 : a ≠ 33) (h2 : a ≠ 60) (h3 : a ≠ 62) : sgnS ((a.toNat : Int) :: z) = bstr [(a.toNat : Int)] := by
  have ne : ∀ w : UInt8, a ≠ w → twS ((a.toNat : Int) :: z) (⟨#[w, 61]⟩ : ByteArray) = false := fun w hw => by
    unfold twS
    cases z with
    | nil => rfl
    | cons b z =>
      have : bstr (((a.toNat : Int) :: b :: z).take 2) ≠ (⟨#[w, 61]⟩ : ByteArray) := fun h => by
        have h2 := congrArg (fun b : ByteArray => b.data.toList) h
        simp [bstr] at h2
        exact hw h2.1
      rw [decide_eq_false this, Bool.and_false]
  unfold sgnS
  rw [ne 33 h1, ne 60 h2, ne 62 h3, if_neg (by decide), if_neg (by decide), if_neg (by decide), if_pos (by simpa using hc)]; rfl
theorem lx_sign {a : UInt8} {z : List Int} {T : TL} (h : LX z T) (hc : (a.toNat : Int) ∈ chS) (h1 : a ≠ 33) (h2 : a ≠ 60) (h3 : a ≠ 62) (hw : wsS (a.toNat : Int) = false) (k1 : lettS (a.toNat : Int) = false) (k2 : (a.toNat : Int) ≠ 34) (k3 : digS (a.toNat : Int) = false) (k4 : (a.toNat : Int) ≠ 45) : LX ((a.toNat : Int) :: z) (tk 4 (bstr [(a.toNat : Int)]) :: T) := by
  obtain ⟨f, h⟩ := h
  have e : oneS ((a.toNat : Int) :: z) = (tk 4 (bstr [(a.toNat : Int)]), 1) := by
    rw [one_cons, if_neg (by rw [k1]; decide), if_neg k2, if_neg (by rw [k3]; decide), if_neg (fun hh => k4 hh.1), sgn_one z hc h1 h2 h3]; rfl
  refine ⟨f + 1, ?_⟩
  rw [lexE, if_neg (by rw [hw]; decide), e, if_neg (show ¬ ((1 : Int) = 0) by decide)]
  show (lexE f z).map _ = _
  rw [h]; rfl
theorem lx_close {z : List Int} {T : TL} (h : LX z T) : LX (41 :: z) (tClose :: T) := lx_sign (a := 41) h (by decide) (by decide) (by decide) (by decide) (by decide) (by decide) (by decide) (by decide) (by decide)
theorem lx_open {z : List Int} {T : TL} (h : LX z T) : LX (40 :: z) (tOpen :: T) := lx_sign (a := 40) h (by decide) (by decide) (by decide) (by decide) (by decide) (by decide) (by decide) (by decide) (by decide)
theorem tw_all {p : Int → Bool} {l : List Int} (h : ∀ x ∈ l, p x = true) : l.takeWhile p = l := by
  rw [tw_eq (i := l.length) (fun x hx => h x (List.mem_of_mem_take hx)) (fun c hc => by rw [List.getElem?_eq_none (Nat.le_refl _)] at hc; cases hc), List.take_length]
theorem lx_word {c : Int} {r z : List Int} {T : TL} (h : LX (32 :: z) T) (hc : lettS c = true) (hw : wsS c = false) (hr : ∀ x ∈ c :: r, innS x = true) (hl : (c :: r).length ≤ 24) : LX (c :: r ++ 32 :: z) (tk 1 (bstr (c :: r)) :: T) := by
  obtain ⟨f, h⟩ := h
  have ew : (c :: r ++ 32 :: z).takeWhile innS = c :: r := by
    rw [tw_app (by decide), tw_all hr]
  have e : oneS (c :: r ++ 32 :: z) = (tk 1 (bstr (c :: r)), ((c :: r).length : Int)) := by
    show oneS (c :: (r ++ 32 :: z)) = _
    rw [one_cons, if_pos hc]
    show wordS (c :: r ++ 32 :: z) = _
    unfold wordS
    rw [ew, if_pos hl]; rfl
  refine ⟨f + 1, ?_⟩
  show lexE (f + 1) (c :: (r ++ 32 :: z)) = _
  have e' : oneS (c :: (r ++ 32 :: z)) = (tk 1 (bstr (c :: r)), ((c :: r).length : Int)) := e
  have ed : (c :: (r ++ 32 :: z)).drop (((c :: r).length : Int)).toNat = 32 :: z := by
    rw [Int.toNat_natCast, ← List.cons_append, List.drop_left]
  rw [lexE, if_neg (by rw [hw]; decide), e', if_neg (by simp only [List.length_cons]; omega), ed, h]; rfl
theorem lx_not {z : List Int} {T : TL} (h : LX (32 :: z) T) : LX (110 :: 111 :: 116 :: 32 :: z) (tNot :: T) := lx_word (c := 110) (r := [111, 116]) h (by decide) (by decide) (by decide) (by decide)
theorem lx_and {z : List Int} {T : TL} (h : LX (32 :: z) T) : LX (97 :: 110 :: 100 :: 32 :: z) (tAnd :: T) := lx_word (c := 97) (r := [110, 100]) h (by decide) (by decide) (by decide) (by decide)
theorem lx_or {z : List Int} {T : TL} (h : LX (32 :: z) T) : LX (111 :: 114 :: 32 :: z) (tOr :: T) := lx_word (c := 111) (r := [114]) h (by decide) (by decide) (by decide) (by decide)
theorem lx_in {l z : List Int} {T S : TL} (hl : LX l T) (h : LX (41 :: z) S) : LX (l ++ 41 :: z) (T ++ S) := by
  obtain ⟨f, hl⟩ := hl
  obtain ⟨g, h⟩ := h
  exact ⟨_, lexE_app h f l T hl⟩
theorem isC_D {s : ByteArray} {c : Cn} {T : TL} {x : Cn} (hc : IsC s c) (hT : LX (sbytes s) T) (hD : D .c 0 T (x, [])) : c = x := by
  obtain ⟨f, g, T2, a1, a2⟩ := hc
  obtain ⟨f2, b1⟩ := hT
  have := lexE_det a1 b1
  subst this
  have := hD g _ a2
  cases this; rfl
theorem alone_ans (s : ByteArray) : ∃ b, law15_alone s = some b ∧ (b = true → ∃ c, IsC s c) := by
  obtain ⟨T, x, e, q, y, e2, h1, h2, h3⟩ := both_ans s
  unfold law15_alone
  rw [h1, Option.bind_some, h2, Option.bind_some]
  dsimp only
  by_cases he : e = 0
  · rw [if_pos (by simpa using he)]
    refine ⟨_, rfl, fun hb => ?_⟩
    obtain ⟨c, hc, _⟩ := h3 he (by simpa using hb)
    exact ⟨c, hc⟩
  · rw [if_neg (by simpa using he)]
    exact ⟨_, rfl, fun h => by cases h⟩
/-- Both queries leave the same rows. -/
theorem same_cn {t : api_Table} (ht : szT t) {a b : Cn} (h : ∀ cols row, a.ev cols row = b.ev cols row) : ref02_Same (cnT t a) (cnT t b) = some true := by
  have e : cnT t a = cnT t b := by
    unfold cnT
    congr 2
    funext r; exact h _ r
  have hs : szT (cnT t a) := ht.sub rfl (List.length_filter_le _ _) (fun r hr => (List.mem_filter.1 hr).1)
  rw [rsame_eq hs, decide_eq_true e]
theorem pw_cn {t : api_Table} {c : Cn} (ht : szT t) (hr : ∀ r ∈ t.Rows, smallR r) (hz : c.sz ≤ 128) (hs : c.sm 64) : pred_Where t ⟨c.fl 0⟩ (IntKind.i64.wrap ((((c.fl 0).length : Nat) : Int) - 1)) = some (cnT t c) := by
  have hp := sz_pos c
  rw [fl_len, w64 (by omega) (by omega), pwhere_eq ht hr (smallN_cn hs) (by dsimp only; rw [fl_len]; omega), where_cn0]
theorem isz : ∀ (a : ByteArray), a.size ≤ 5000 → decide (a.size ≤ 9223372036854775807) = true := fun a h => decide_eq_true (by omega)
section
variable {s u : ByteArray} {t : api_Table}
theorem morgan_texts {c d : Cn} (hs : IsC s c) (hu : IsC u d) :
    (∀ a, IsC (((((⟨#[110, 111, 116, 32, 40]⟩ : ByteArray) ++ s) ++ (⟨#[41, 32, 111, 114, 32, 110, 111, 116, 32, 40]⟩ : ByteArray)) ++ u) ++ (⟨#[41]⟩ : ByteArray)) a → a = .or (.not c) (.not d)) ∧
    (∀ b, IsC (((((⟨#[110, 111, 116, 32, 110, 111, 116, 32, 110, 111, 116, 32, 40, 40]⟩ : ByteArray) ++ s) ++ (⟨#[41, 32, 97, 110, 100, 32, 40]⟩ : ByteArray)) ++ u) ++ (⟨#[41, 41]⟩ : ByteArray)) b → b = .not (.not (.not (.and c d)))) := by
  obtain ⟨f1, g1, T1, a1, a2⟩ := hs
  obtain ⟨f2, g2, T2, b1, b2⟩ := hu
  refine ⟨fun a ha => isC_D ha (T := tNot :: tOpen :: (T1 ++ tClose :: tOr :: tNot :: tOpen :: (T2 ++ tClose :: []))) ?_ ?_, fun b hb => isC_D hb (T := tNot :: tNot :: tNot :: tOpen :: tOpen :: (T1 ++ tClose :: tAnd :: tOpen :: (T2 ++ tClose :: tClose :: []))) ?_ ?_⟩
  · simp only [sbytes_append, List.append_assoc]
    exact lx_not (lx_sp (lx_open (lx_in ⟨f1, a1⟩ (lx_close (lx_sp (lx_or (lx_sp (lx_not (lx_sp (lx_open (lx_in ⟨f2, b1⟩ (lx_close lx_nil))))))))))))
  · exact D_c (D_b (D_not (D_br (D_in a2))) (D_bl (isT_cons (by decide)))) (D_clO (D_b (D_not (D_br (D_in b2))) (D_bl rfl)) (D_cl rfl))
  · simp only [sbytes_append, List.append_assoc]
    exact lx_not (lx_sp (lx_not (lx_sp (lx_not (lx_sp (lx_open (lx_open (lx_in ⟨f1, a1⟩ (lx_close (lx_sp (lx_and (lx_sp (lx_open (lx_in ⟨f2, b1⟩ (lx_close (lx_close lx_nil))))))))))))))))
  · exact D_c (D_b (D_not (D_not (D_not (D_br (D_c (D_b (D_br (D_in a2)) (D_blA (D_br (D_in b2)) (D_bl (isT_cons (by decide))))) (D_cl (isT_cons (by decide)))))))) (D_bl rfl)) (D_cl rfl)
theorem sides_texts {c d : Cn} (hs : IsC s c) (hu : IsC u d) :
    (∀ a, IsC (((((⟨#[40]⟩ : ByteArray) ++ s) ++ (⟨#[41, 32, 97, 110, 100, 32, 40]⟩ : ByteArray)) ++ u) ++ (⟨#[41]⟩ : ByteArray)) a → a = .and c d) ∧
    (∀ a, IsC (((((⟨#[40]⟩ : ByteArray) ++ s) ++ (⟨#[41, 32, 111, 114, 32, 40]⟩ : ByteArray)) ++ u) ++ (⟨#[41]⟩ : ByteArray)) a → a = .or c d) := by
  obtain ⟨f1, g1, T1, a1, a2⟩ := hs
  obtain ⟨f2, g2, T2, b1, b2⟩ := hu
  refine ⟨fun a ha => isC_D ha (T := tOpen :: (T1 ++ tClose :: tAnd :: tOpen :: (T2 ++ tClose :: []))) ?_ ?_, fun a ha => isC_D ha (T := tOpen :: (T1 ++ tClose :: tOr :: tOpen :: (T2 ++ tClose :: []))) ?_ ?_⟩
  · simp only [sbytes_append, List.append_assoc]
    exact lx_open (lx_in ⟨f1, a1⟩ (lx_close (lx_sp (lx_and (lx_sp (lx_open (lx_in ⟨f2, b1⟩ (lx_close lx_nil))))))))
  · exact D_c (D_b (D_br (D_in a2)) (D_blA (D_br (D_in b2)) (D_bl rfl))) (D_cl rfl)
  · simp only [sbytes_append, List.append_assoc]
    exact lx_open (lx_in ⟨f1, a1⟩ (lx_close (lx_sp (lx_or (lx_sp (lx_open (lx_in ⟨f2, b1⟩ (lx_close lx_nil))))))))
  · exact D_c (D_b (D_br (D_in a2)) (D_bl (isT_cons (by decide)))) (D_clO (D_b (D_br (D_in b2)) (D_bl rfl)) (D_cl rfl))
theorem sz_app (a b : ByteArray) : (a ++ b).size = a.size + b.size := ByteArray.size_append
theorem dz {a b m n : Nat} (h : a ≤ m) (h2 : b ≤ n) (hm : m + n ≤ 100000 := by decide) : decide (a + b ≤ 9223372036854775807) = true := decide_eq_true (by omega)
theorem le_app {a b : ByteArray} {m n : Nat} (h : a.size ≤ m) (h2 : b.size ≤ n) : (a ++ b).size ≤ m + n := by rw [sz_app]; omega
def lit20 (a : ByteArray) : Prop := a.size ≤ 20
theorem PredMorgan_core (ht : szT (cutS t)) (hr : ∀ r ∈ (cutS t).Rows, smallR r) : law15_PredMorgan s u t = some true := by
  unfold law15_PredMorgan
  rw [shown_ok, Option.bind_some, cut_eq', Option.bind_some]
  by_cases h1 : (s.size : Int) > 500
  · rw [if_pos (by simpa using h1)]; rfl
  · rw [if_neg (by simpa using h1)]
    by_cases h2 : (u.size : Int) > 500
    · rw [if_pos (by simpa using h2)]; rfl
    · rw [if_neg (by simpa using h2)]
      have hs : s.size ≤ 500 := by omega
      have hu : u.size ≤ 500 := by omega
      obtain ⟨b1, a1, c1⟩ := alone_ans s
      rw [a1, Option.bind_some]
      cases b1 with
      | false => rfl
      | true =>
        rw [if_neg (by decide)]
        obtain ⟨b2, a2, c2⟩ := alone_ans u
        rw [a2, Option.bind_some]
        cases b2 with
        | false => rfl
        | true =>
          obtain ⟨c, hc⟩ := c1 rfl
          obtain ⟨d, hd⟩ := c2 rfl
          obtain ⟨m1, m2⟩ := morgan_texts hc hd
          unfold law15_PredMorgan.j0
          have A1 : (⟨#[110, 111, 116, 32, 40]⟩ : ByteArray).size ≤ 20 := by decide
          have A2 : (⟨#[41, 32, 111, 114, 32, 110, 111, 116, 32, 40]⟩ : ByteArray).size ≤ 20 := by decide
          have A3 : (⟨#[41]⟩ : ByteArray).size ≤ 20 := by decide
          have C1 : (⟨#[110, 111, 116, 32, 110, 111, 116, 32, 110, 111, 116, 32, 40, 40]⟩ : ByteArray).size ≤ 20 := by decide
          have C2 : (⟨#[41, 32, 97, 110, 100, 32, 40]⟩ : ByteArray).size ≤ 20 := by decide
          have C3 : (⟨#[41, 41]⟩ : ByteArray).size ≤ 20 := by decide
          rw [if_neg (by decide), if_pos (dz A1 hs), if_pos (dz (le_app A1 hs) A2), if_pos (dz (le_app (le_app A1 hs) A2) hu), if_pos (dz (le_app (le_app (le_app A1 hs) A2) hu) A3)]
          obtain ⟨T, x, e, q, y, e2, p1, p2, p3⟩ := both_ans ((((((⟨#[110, 111, 116, 32, 40]⟩ : ByteArray) ++ s) ++ (⟨#[41, 32, 111, 114, 32, 110, 111, 116, 32, 40]⟩ : ByteArray)) ++ u) ++ (⟨#[41]⟩ : ByteArray)))
          rw [p1, Option.bind_some]
          dsimp only
          rw [p2, Option.bind_some]
          rw [if_pos (dz C1 hs), if_pos (dz (le_app C1 hs) C2), if_pos (dz (le_app (le_app C1 hs) C2) hu), if_pos (dz (le_app (le_app (le_app C1 hs) C2) hu) C3)]
          obtain ⟨T', x', e', q', y', e2', p1', p2', p3'⟩ := both_ans ((((((⟨#[110, 111, 116, 32, 110, 111, 116, 32, 110, 111, 116, 32, 40, 40]⟩ : ByteArray) ++ s) ++ (⟨#[41, 32, 97, 110, 100, 32, 40]⟩ : ByteArray)) ++ u) ++ (⟨#[41, 41]⟩ : ByteArray)))
          rw [p1', Option.bind_some]
          dsimp only
          rw [p2', Option.bind_some]
          dsimp only
          by_cases he : e = 0
          · rw [if_neg (by simpa using he)]
            by_cases he2 : e2 = 0
            · rw [if_neg (by simpa using he2)]
              by_cases he' : e' = 0
              · rw [if_neg (by simpa using he')]
                by_cases he2' : e2' = 0
                · rw [show (e2' != 0) = false by simpa using he2']
                  obtain ⟨ca, i1, rfl, i2, i3⟩ := p3 he he2
                  obtain ⟨cb, j1, rfl, j2, j3⟩ := p3' he' he2'
                  have ea := m1 ca i1
                  have eb := m2 cb j1
                  unfold law15_PredMorgan.j1
                  dsimp only
                  rw [if_neg (by decide), pw_cn ht hr i2 i3, Option.bind_some, pw_cn ht hr j2 j3, Option.bind_some, same_cn ht (fun cols row => ?_), Option.bind_some]
                  · rfl
                  · rw [ea, eb]
                    simp only [Cn.ev]
                    cases c.ev cols row <;> cases d.ev cols row <;> rfl
                · rw [show (e2' != 0) = true by simpa using he2']; rfl
              · rw [if_pos (by simpa using he')]; rfl
            · rw [if_pos (by simpa using he2)]; rfl
          · rw [if_pos (by simpa using he)]; rfl
theorem sides_j2 {kl1 : Int → Option Bool} {c d : Cn} {k : Nat} {w : ByteArray} (ht : szT (cutS t)) (hr : ∀ r ∈ (cutS t).Rows, smallR r) (hs : s.size ≤ 500) (hu : u.size ≤ 500) (hw : w.size ≤ 20) (hk : k < 10) (f : Cn → Cn → Cn) (hf : ∀ cols row, (f c d).ev cols row = (f d c).ev cols row)
    (m1 : ∀ a, IsC ((((((⟨#[40]⟩ : ByteArray) ++ s) ++ w) ++ u) ++ (⟨#[41]⟩ : ByteArray))) a → a = f c d) (m2 : ∀ a, IsC ((((((⟨#[40]⟩ : ByteArray) ++ u) ++ w) ++ s) ++ (⟨#[41]⟩ : ByteArray))) a → a = f d c) (hkl : kl1 ((k + 1 : Nat) : Int) = some true) : law15_PredSides.j2 kl1 s u true (cutS t) (k : Int) w = some true := by
  unfold law15_PredSides.j2
  have A1 : (⟨#[40]⟩ : ByteArray).size ≤ 20 := by decide
  have A3 : (⟨#[41]⟩ : ByteArray).size ≤ 20 := by decide
  rw [if_pos (dz A1 hs), if_pos (dz (le_app A1 hs) hw), if_pos (dz (le_app (le_app A1 hs) hw) hu), if_pos (dz (le_app (le_app (le_app A1 hs) hw) hu) A3)]
  obtain ⟨T, x, e, q, y, e2, p1, p2, p3⟩ := both_ans ((((((⟨#[40]⟩ : ByteArray) ++ s) ++ w) ++ u) ++ (⟨#[41]⟩ : ByteArray)))
  rw [p1, Option.bind_some]
  dsimp only
  rw [p2, Option.bind_some]
  rw [if_pos (dz A1 hu), if_pos (dz (le_app A1 hu) hw), if_pos (dz (le_app (le_app A1 hu) hw) hs), if_pos (dz (le_app (le_app (le_app A1 hu) hw) hs) A3)]
  obtain ⟨T', x', e', q', y', e2', p1', p2', p3'⟩ := both_ans ((((((⟨#[40]⟩ : ByteArray) ++ u) ++ w) ++ s) ++ (⟨#[41]⟩ : ByteArray)))
  rw [p1', Option.bind_some]
  dsimp only
  rw [p2', Option.bind_some]
  dsimp only
  by_cases he : e = 0
  · rw [if_neg (by simpa using he)]
    by_cases he2 : e2 = 0
    · rw [if_neg (by simpa using he2)]
      by_cases he' : e' = 0
      · rw [if_neg (by simpa using he')]
        by_cases he2' : e2' = 0
        · rw [show (e2' != 0) = false by simpa using he2']
          obtain ⟨ca, i1, rfl, i2, i3⟩ := p3 he he2
          obtain ⟨cb, j1, rfl, j2, j3⟩ := p3' he' he2'
          have ea := m1 ca i1
          have eb := m2 cb j1
          unfold law15_PredSides.j3
          dsimp only
          rw [if_neg (by decide), pw_cn ht hr i2 i3, Option.bind_some, pw_cn ht hr j2 j3, Option.bind_some, same_cn ht (fun cols row => ?_), Option.bind_some, if_neg (by decide), w64_nat k (by omega), hkl]
          rw [ea, eb]; exact hf cols row
        · rw [show (e2' != 0) = true by simpa using he2']; rfl
      · rw [if_pos (by simpa using he')]; rfl
    · rw [if_pos (by simpa using he2)]; rfl
  · rw [if_pos (by simpa using he)]; rfl
theorem PredSides_core (ht : szT (cutS t)) (hr : ∀ r ∈ (cutS t).Rows, smallR r) : law15_PredSides s u t = some true := by
  unfold law15_PredSides
  rw [shown_ok, Option.bind_some, cut_eq', Option.bind_some]
  by_cases h1 : (s.size : Int) > 500
  · rw [if_pos (by simpa using h1)]; rfl
  · rw [if_neg (by simpa using h1)]
    by_cases h2 : (u.size : Int) > 500
    · rw [if_pos (by simpa using h2)]; rfl
    · rw [if_neg (by simpa using h2)]
      have hs : s.size ≤ 500 := by omega
      have hu : u.size ≤ 500 := by omega
      obtain ⟨b1, a1, c1⟩ := alone_ans s
      rw [a1, Option.bind_some]
      cases b1 with
      | false => rfl
      | true =>
        rw [if_neg (by decide)]
        obtain ⟨b2, a2, c2⟩ := alone_ans u
        rw [a2, Option.bind_some]
        cases b2 with
        | false => rfl
        | true =>
          obtain ⟨c, hc⟩ := c1 rfl
          obtain ⟨d, hd⟩ := c2 rfl
          obtain ⟨m1, m2⟩ := sides_texts hc hd
          obtain ⟨m3, m4⟩ := sides_texts hd hc
          unfold law15_PredSides.j0
          rw [if_neg (by decide), show (((2 : Int) - 0).toNat + 1) = 1 + 1 + 1 from rfl, law15_PredSides.l1, if_pos (by decide), if_neg (by decide)]
          refine sides_j2 (k := 0) ht hr hs hu (by decide) (by omega) Cn.and (fun cols row => by simp only [Cn.ev]; exact Bool.and_comm _ _) m1 m3 ?_
          rw [law15_PredSides.l1, if_pos (by decide), if_pos (by decide)]
          refine sides_j2 (k := 1) ht hr hs hu (by decide) (by omega) Cn.or (fun cols row => by simp only [Cn.ev]; exact Bool.or_comm _ _) m2 m4 ?_
          rw [law15_PredSides.l1, if_neg (by decide)]
end
end Go.Proofs.Ytjklfkiaebipnaa.M
