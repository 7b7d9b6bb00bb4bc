/- Sums (crc): by folding; a bit that is turned turns the sum. (Turned from PL03.) -/
import Derived.Test.YtifijboegibchaaPure
import Derived.Test.YtifijboegibchaaEngQ
namespace Go.Proofs.Ytifijboegibchaa.M
open Go Go.Eng Go.Proofs Go.RowKit
set_option maxRecDepth 100000
set_option linter.unusedVariables false

/-! one bit -/
def st (x : Int) : Int := IntKind.u32.wrap (BitVec.ofInt 32 (x.fdiv (2 ^ (min (1 : Int).toNat 32))) ^^^ BitVec.ofInt 32 (IntKind.u32.wrap (BitVec.ofInt 32 2197175160 &&& BitVec.ofInt 32 (IntKind.u32.wrap (0 - (IntKind.u32.wrap (BitVec.ofInt 32 x &&& BitVec.ofInt 32 1).toNat)))).toNat)).toNat
def st8 (x : Int) : Int := st (st (st (st (st (st (st (st x)))))))
theorem turned_eq (x : Int) : crc_turned x = some (st8 x) := by kernel_rfl
def not32 (x : Int) : Int := IntKind.u32.wrap (BitVec.ofInt 32 4294967295 ^^^ BitVec.ofInt 32 x).toNat
def xor32 (r c : Int) : Int := IntKind.u32.wrap (BitVec.ofInt 32 r ^^^ BitVec.ofInt 32 (IntKind.u32.wrap c)).toNat
def F (r c : Int) : Int := st8 (xor32 r c)

theorem wrap_bv (b : BitVec 32) : IntKind.u32.wrap b.toNat = b.toNat := by
  have := b.isLt
  simp only [IntKind.wrap, IntKind.bits, IntKind.signed, Bool.false_and, Bool.false_eq_true, if_false]
  omega
theorem ofInt_toNat (b : BitVec 32) : BitVec.ofInt 32 (b.toNat : Int) = b := by simp
/-- Numbers of 32 bits. -/
def In32 (x : Int) : Prop := 0 ≤ x ∧ x < 4294967296
theorem in32_bv {x : Int} (h : In32 x) : x = ((BitVec.ofInt 32 x).toNat : Int) := by
  obtain ⟨h0, h1⟩ := h
  rw [BitVec.toNat_ofInt]
  simp
  omega
theorem bv_in32 (b : BitVec 32) : In32 (b.toNat : Int) := ⟨by omega, by have := b.isLt; omega⟩
theorem not32_bv (b : BitVec 32) : not32 b.toNat = ((~~~b).toNat : Int) := by
  unfold not32
  rw [wrap_bv, ofInt_toNat]
  congr 2
theorem u32_wrap (c : Int) (h : In32 c) : IntKind.u32.wrap c = c := by
  obtain ⟨h0, h1⟩ := h
  simp only [IntKind.wrap, IntKind.bits, IntKind.signed, Bool.false_and, Bool.false_eq_true, if_false]
  omega
theorem xor32_bv (b c : BitVec 32) : xor32 b.toNat c.toNat = ((b ^^^ c).toNat : Int) := by
  unfold xor32
  rw [wrap_bv, u32_wrap _ (bv_in32 c), ofInt_toNat, ofInt_toNat]
/-- One bit, of words. -/
def sb (b : BitVec 32) : BitVec 32 := (b >>> 1) ^^^ (BitVec.ofInt 32 2197175160 &&& (0 - (b &&& 1)))
theorem st_bv (b : BitVec 32) : st b.toNat = ((sb b).toNat : Int) := by
  unfold st sb
  rw [wrap_bv, wrap_bv, wrap_bv]
  congr 2
  have h1 : BitVec.ofInt 32 ((b.toNat : Int).fdiv (2 ^ (min (1 : Int).toNat 32))) = b >>> 1 := by
    have : ((b.toNat : Int).fdiv (2 ^ (min (1 : Int).toNat 32))) = ((b >>> 1).toNat : Int) := by
      have e : (2 : Int) ^ (min (1 : Int).toNat 32) = 2 := by decide
      rw [e, BitVec.toNat_ushiftRight, Nat.shiftRight_eq_div_pow, Int.fdiv_eq_ediv_of_nonneg _ (by decide)]
      simp
    rw [this, ofInt_toNat]
  have h2 : BitVec.ofInt 32 (IntKind.u32.wrap (0 - ((BitVec.ofInt 32 (b.toNat : Int) &&& BitVec.ofInt 32 1).toNat : Int))) = 0 - (b &&& 1) := by
    rw [ofInt_toNat]
    have e1 : BitVec.ofInt 32 1 = (1 : BitVec 32) := by decide
    rw [e1]
    generalize (b &&& 1) = z
    have : IntKind.u32.wrap (0 - (z.toNat : Int)) = ((0 - z).toNat : Int) := by
      simp only [IntKind.wrap, IntKind.bits, IntKind.signed, Bool.false_and, Bool.false_eq_true, if_false, BitVec.toNat_sub]
      have := z.isLt
      simp
      omega
    rw [this, ofInt_toNat]
  rw [h1, h2, ofInt_toNat]
def sb8 (b : BitVec 32) : BitVec 32 := sb (sb (sb (sb (sb (sb (sb (sb b)))))))
theorem st8_bv (b : BitVec 32) : st8 b.toNat = ((sb8 b).toNat : Int) := by
  unfold st8 sb8
  rw [st_bv, st_bv, st_bv, st_bv, st_bv, st_bv, st_bv, st_bv]
def FB (b c : BitVec 32) : BitVec 32 := sb8 (b ^^^ c)
theorem F_bv (b c : BitVec 32) : F b.toNat c.toNat = ((FB b c).toNat : Int) := by
  unfold F FB
  rw [xor32_bv, st8_bv]
theorem fold_bv (l : List (BitVec 32)) : ∀ b : BitVec 32, (l.map (fun c => (c.toNat : Int))).foldl F b.toNat = ((l.foldl FB b).toNat : Int) := by
  induction l with
  | nil => intro b; rfl
  | cons c r ih => intro b; rw [List.map_cons, List.foldl_cons, F_bv, ih]; rfl
/-- Bytes as words. -/
def Byt (l : List Int) : Prop := ∀ x ∈ l, 0 ≤ x ∧ x < 256
theorem bytes_map {l : List Int} (h : Byt l) : l = (l.map (fun x => BitVec.ofInt 32 x)).map (fun c => (c.toNat : Int)) := by
  rw [List.map_map]
  conv => lhs; rw [← List.map_id l]
  apply List.map_congr_left
  intro x hx
  obtain ⟨h0, h1⟩ := h x hx
  show x = _
  exact in32_bv ⟨h0, by omega⟩

/-! the program's loops -/
theorem wrap_i (i : Nat) (h : i < 140737488351232) : IntKind.i64.wrap ((i : Int) + 1) = ((i + 1 : Nat) : Int) := w64_nat i (by omega)
theorem more_loop (a : List Int) (ha : a.length ≤ 140737488351232) : ∀ (d i k : Nat) (x : Int), a.length - i = d → i ≤ a.length → d < k → crc_More.l0 a k x i = some (not32 ((a.drop i).foldl F x)) := by
  intro d
  induction d with
  | zero =>
    intro i k x hd hi hk
    obtain ⟨k, rfl⟩ : ∃ m, k = m + 1 := ⟨k - 1, by omega⟩
    rw [crc_More.l0, if_neg (by simp; omega)]
    rw [List.drop_of_length_le (by omega)]
    rfl
  | succ d ih =>
    intro i k x hd hi hk
    obtain ⟨k, rfl⟩ : ∃ m, k = m + 1 := ⟨k - 1, by omega⟩
    have hlt : i < a.length := by omega
    rw [crc_More.l0, if_pos (by simp; omega), ix_nat, List.getElem?_eq_getElem hlt]
    simp only [Option.bind_some, turned_eq]
    rw [wrap_i i (by omega), ih (i + 1) k _ (by omega) (by omega) (by omega), List.drop_eq_getElem_cons hlt, List.foldl_cons]
    rfl
def more (s : Int) (a : List Int) : Int := not32 (a.foldl F (not32 s))
theorem more_eq (s : Int) (a : List Int) (ha : a.length ≤ 140737488351232) : crc_More s a = some (more s a) := by
  unfold crc_More
  have := more_loop a ha a.length 0 (((a.length : Int) - 0).toNat + 1) (not32 s) (by omega) (by omega) (by omega)
  exact this
theorem sum_eq (a : List Int) (ha : a.length ≤ 140737488351232) : crc_Sum a = some (more 0 a) := by
  unfold crc_Sum
  rw [more_eq 0 a ha]; rfl
theorem not32_in (x : Int) : In32 (not32 x) := by
  unfold not32; rw [wrap_bv]; exact bv_in32 _
theorem more_in (s : Int) (a : List Int) : In32 (more s a) := not32_in _

/-! the document's -/
def rst (x : Int) : Int := if ((x.tmod 2) == 1) = true then IntKind.u32.wrap (BitVec.ofInt 32 (x.fdiv (2 ^ (min (1 : Int).toNat 32))) ^^^ BitVec.ofInt 32 2197175160).toNat else x.fdiv (2 ^ (min (1 : Int).toNat 32))
theorem rst_eq {x : Int} (h : In32 x) : rst x = st x := by
  rw [in32_bv h]
  generalize BitVec.ofInt 32 x = b
  rw [st_bv]
  have e : ((b.toNat : Int).fdiv (2 ^ (min (1 : Int).toNat 32))) = ((b >>> 1).toNat : Int) := by
    have e : (2 : Int) ^ (min (1 : Int).toNat 32) = 2 := by decide
    rw [e, BitVec.toNat_ushiftRight, Nat.shiftRight_eq_div_pow, Int.fdiv_eq_ediv_of_nonneg _ (by decide)]
    simp
  have hm : ((b.toNat : Int).tmod 2) = ((b.toNat % 2 : Nat) : Int) := by
    rw [Int.tmod_eq_emod_of_nonneg (by omega)]; omega
  have h1 : (b &&& 1).toNat = b.toNat % 2 := by
    rw [BitVec.toNat_and]; exact Nat.and_one_is_mod _
  unfold rst sb
  rw [e, hm]
  by_cases hb : b.toNat % 2 = 1
  · rw [if_pos (by simp [hb]), wrap_bv, ofInt_toNat]
    have : b &&& 1 = 1 := by apply BitVec.eq_of_toNat_eq; rw [h1, hb]; rfl
    rw [this]
    rfl
  · have h0 : b.toNat % 2 = 0 := by omega
    rw [if_neg (by simp [h0])]
    have : b &&& 1 = 0 := by apply BitVec.eq_of_toNat_eq; rw [h1, h0]; rfl
    rw [this]
    have e2 : (BitVec.ofInt 32 2197175160 &&& (0 - 0 : BitVec 32)) = 0 := by decide
    rw [e2]
    simp
theorem st_in (x : Int) : In32 (st x) := by unfold st; rw [wrap_bv]; exact bv_in32 _
theorem xor32_in (r c : Int) : In32 (xor32 r c) := by unfold xor32; rw [wrap_bv]; exact bv_in32 _
theorem ref_bits (kl0 : Int → Int → Option Int) (a : List Int) (p : Int) (x : Int) : ref03_More.l1 kl0 a p 9 x 0 = kl0 (rst (rst (rst (rst (rst (rst (rst (rst x)))))))) (IntKind.i64.wrap (p + 1)) := by
  have one : ∀ (k : Nat) (x : Int) (i : Int), i < 8 → ref03_More.l1 kl0 a p (k + 1) x i = ref03_More.l1 kl0 a p k (rst x) (IntKind.i64.wrap (i + 1)) := by
    intro k x i hi
    rw [ref03_More.l1, if_pos (by simpa using hi)]
    unfold rst ref03_More.j2
    split <;> rfl
  rw [one 8 _ 0 (by decide), one 7 _ _ (by decide), one 6 _ _ (by decide), one 5 _ _ (by decide), one 4 _ _ (by decide), one 3 _ _ (by decide), one 2 _ _ (by decide), one 1 _ _ (by decide)]
  rw [ref03_More.l1, if_neg (by decide)]
theorem rst8 {x : Int} (h : In32 x) : rst (rst (rst (rst (rst (rst (rst (rst x))))))) = st8 x := by
  unfold st8
  rw [rst_eq h, rst_eq (st_in _), rst_eq (st_in _), rst_eq (st_in _), rst_eq (st_in _), rst_eq (st_in _), rst_eq (st_in _), rst_eq (st_in _)]
theorem ref_loop (a : List Int) (ha : a.length ≤ 140737488351232) : ∀ (d i k : Nat) (x : Int), a.length - i = d → i ≤ a.length → d < k → ref03_More.l0 a k x i = some (not32 ((a.drop i).foldl F x)) := by
  intro d
  induction d with
  | zero =>
    intro i k x hd hi hk
    obtain ⟨k, rfl⟩ : ∃ m, k = m + 1 := ⟨k - 1, by omega⟩
    rw [ref03_More.l0, if_neg (by simp; omega)]
    rw [List.drop_of_length_le (by omega)]
    rfl
  | succ d ih =>
    intro i k x hd hi hk
    obtain ⟨k, rfl⟩ : ∃ m, k = m + 1 := ⟨k - 1, by omega⟩
    have hlt : i < a.length := by omega
    rw [ref03_More.l0, if_pos (by simp; omega), ix_nat, List.getElem?_eq_getElem hlt]
    simp only [Option.bind_some]
    have e9 : (((8 : Int) - 0).toNat + 1) = 9 := by decide
    rw [e9, ref_bits, wrap_i i (by omega), ih (i + 1) k _ (by omega) (by omega) (by omega), List.drop_eq_getElem_cons hlt, List.foldl_cons]
    have : xor32 x a[i] = IntKind.u32.wrap ((BitVec.ofInt 32 x ^^^ BitVec.ofInt 32 (IntKind.u32.wrap a[i])).toNat : Int) := rfl
    rw [← this, rst8 (xor32_in _ _)]
    rfl
theorem ref_more_eq (s : Int) (a : List Int) (ha : a.length ≤ 140737488351232) : ref03_More s a = some (more s a) := by
  unfold ref03_More
  have := ref_loop a ha a.length 0 (((a.length : Int) - 0).toNat + 1) (not32 s) (by omega) (by omega) (by omega)
  exact this
theorem ref_sum_eq (a : List Int) (ha : a.length ≤ 140737488351232) : ref03_Sum a = some (more 0 a) := by
  unfold ref03_Sum
  rw [ref_more_eq 0 a ha]; rfl
theorem sb_inj {x y : BitVec 32} (h : sb x = sb y) : x = y := by
  unfold sb at h
  have top : ∀ b : BitVec 32, ((b >>> 1) ^^^ (BitVec.ofInt 32 2197175160 &&& (0 - (b &&& 1)))).getLsbD 31 = b.getLsbD 0 := by
    intro b
    have hb : (b &&& 1) = 0 ∨ (b &&& 1) = 1 := by
      have h1 : (b &&& 1).toNat = b.toNat % 2 := by rw [BitVec.toNat_and]; exact Nat.and_one_is_mod _
      rcases Nat.mod_two_eq_zero_or_one b.toNat with h | h
      · left; apply BitVec.eq_of_toNat_eq; rw [h1, h]; rfl
      · right; apply BitVec.eq_of_toNat_eq; rw [h1, h]; rfl
    have hl : b.getLsbD 0 = (b &&& 1).getLsbD 0 := by simp
    rw [BitVec.getLsbD_xor, BitVec.getLsbD_ushiftRight, hl]
    have h32 : b.getLsbD (1 + 31) = false := BitVec.getLsbD_of_ge _ _ (by decide)
    rw [h32]
    rcases hb with e | e <;> rw [e] <;> decide
  have hlow : x.getLsbD 0 = y.getLsbD 0 := by rw [← top x, ← top y, h]
  have hand : (x &&& 1) = (y &&& 1) := by
    apply BitVec.eq_of_getLsbD_eq
    intro i hi
    rw [BitVec.getLsbD_and, BitVec.getLsbD_and]
    by_cases h0 : i = 0
    · subst h0; rw [hlow]
    · have : (1 : BitVec 32).getLsbD i = false := by
        have : (1 : BitVec 32) = BitVec.ofNat 32 1 := rfl
        rw [this]; simp [h0]
      rw [this]; simp
  rw [hand] at h
  have hs : x >>> 1 = y >>> 1 := by
    have := congrArg (fun z => z ^^^ (BitVec.ofInt 32 2197175160 &&& (0 - (y &&& 1)))) h
    simpa [BitVec.xor_assoc] using this
  apply BitVec.eq_of_getLsbD_eq
  intro i hi
  cases i with
  | zero => exact hlow
  | succ i =>
    have := congrArg (fun z => z.getLsbD i) hs
    simpa [BitVec.getLsbD_ushiftRight, Nat.add_comm] using this
theorem sb8_inj {x y : BitVec 32} (h : sb8 x = sb8 y) : x = y :=
  sb_inj (sb_inj (sb_inj (sb_inj (sb_inj (sb_inj (sb_inj (sb_inj h)))))))
theorem FB_inj1 {x y c : BitVec 32} (h : FB x c = FB y c) : x = y := by
  have := sb8_inj h
  have := congrArg (fun z => z ^^^ c) this
  simpa [BitVec.xor_assoc] using this
theorem FB_inj2 {x c e : BitVec 32} (h : FB x c = FB x e) : c = e := by
  have := sb8_inj h
  have := congrArg (fun z => x ^^^ z) this
  simpa [← BitVec.xor_assoc] using this
theorem foldl_inj (l : List (BitVec 32)) : ∀ x y : BitVec 32, l.foldl FB x = l.foldl FB y → x = y := by
  induction l with
  | nil => intro x y h; exact h
  | cons c r ih => intro x y h; exact FB_inj1 (ih _ _ h)
theorem sum_turned {a : List Int} (hb : Byt a) {i : Nat} (hi : i < a.length) {v : Int} (hv : 0 ≤ v ∧ v < 256) (hne : v ≠ a[i]) : more 0 (a.set i v) ≠ more 0 a := by
  intro h
  have hb' : Byt (a.set i v) := fun x hx => by
    rcases List.mem_or_eq_of_mem_set hx with h1 | h1
    · exact hb x h1
    · subst h1; exact hv
  unfold more at h
  have h0 : not32 0 = ((BitVec.allOnes 32).toNat : Int) := by decide
  have hm1 : a.foldl F (not32 0) = (((a.map (fun x => BitVec.ofInt 32 x)).foldl FB (BitVec.allOnes 32)).toNat : Int) := by
    conv => lhs; rw [bytes_map hb, h0, fold_bv]
  have hm2 : (a.set i v).foldl F (not32 0) = ((((a.set i v).map (fun x => BitVec.ofInt 32 x)).foldl FB (BitVec.allOnes 32)).toNat : Int) := by
    conv => lhs; rw [bytes_map hb', h0, fold_bv]
  rw [hm1, hm2, not32_bv, not32_bv] at h
  have h1 := BitVec.eq_of_toNat_eq (Int.ofNat_inj.1 h)
  have h2 := congrArg (fun z => ~~~z) h1
  simp only [BitVec.not_not] at h2
  rw [List.map_set] at h2
  have e1 : a.map (fun x => BitVec.ofInt 32 x) = (a.map (fun x => BitVec.ofInt 32 x)).take i ++ (BitVec.ofInt 32 a[i] :: (a.map (fun x => BitVec.ofInt 32 x)).drop (i + 1)) := by
    conv => lhs; rw [← List.take_append_drop i (a.map (fun x => BitVec.ofInt 32 x))]
    rw [List.drop_eq_getElem_cons (by simpa using hi)]
    simp
  have e2 : (a.map (fun x => BitVec.ofInt 32 x)).set i (BitVec.ofInt 32 v) = (a.map (fun x => BitVec.ofInt 32 x)).take i ++ (BitVec.ofInt 32 v :: (a.map (fun x => BitVec.ofInt 32 x)).drop (i + 1)) := by
    rw [List.set_eq_take_append_cons_drop, if_pos (by simpa using hi)]
  rw [e2] at h2
  conv at h2 => rhs; rw [e1]
  rw [List.foldl_append, List.foldl_append, List.foldl_cons, List.foldl_cons] at h2
  have h3 := FB_inj2 (foldl_inj _ _ _ h2)
  have h4 := hb a[i] (List.getElem_mem hi)
  apply hne
  have hv32 : In32 v := ⟨hv.1, by omega⟩
  have ha32 : In32 a[i] := ⟨h4.1, by omega⟩
  rw [in32_bv hv32, in32_bv ha32, h3]
theorem wrap_bv8 (b : BitVec 8) : IntKind.u8.wrap b.toNat = b.toNat := by
  have := b.isLt
  simp only [IntKind.wrap, IntKind.bits, IntKind.signed, Bool.false_and, Bool.false_eq_true, if_false]
  omega
/-- A byte with a bit turned is another byte. -/
theorem byte_turned {b : Int} (hb : 0 ≤ b ∧ b < 256) {j : Nat} (hj : j < 8) (v : Int) (hv : v = IntKind.u8.wrap (BitVec.ofInt 8 b ^^^ BitVec.ofInt 8 (IntKind.u8.wrap (1 * 2 ^ (min j 8)))).toNat) : (0 ≤ v ∧ v < 256) ∧ v ≠ b := by
  have hp : ∀ j, j < 8 → BitVec.ofInt 8 (IntKind.u8.wrap (1 * 2 ^ (min j 8))) ≠ 0 := by decide
  have hP := hp j hj
  rw [wrap_bv8] at hv
  generalize BitVec.ofInt 8 (IntKind.u8.wrap (1 * 2 ^ (min j 8))) = P at hP hv
  have e : b = ((BitVec.ofInt 8 b).toNat : Int) := by
    rw [BitVec.toNat_ofInt]; simp; omega
  refine ⟨⟨by omega, by have := (BitVec.ofInt 8 b ^^^ P).isLt; omega⟩, fun h => hP ?_⟩
  rw [hv] at h
  generalize BitVec.ofInt 8 b = B at h e
  rw [e] at h
  have h1 := BitVec.eq_of_toNat_eq (Int.ofNat_inj.1 h)
  have h2 := congrArg (fun z => B ^^^ z) h1
  simpa [← BitVec.xor_assoc] using h2
end Go.Proofs.Ytifijboegibchaa.M
