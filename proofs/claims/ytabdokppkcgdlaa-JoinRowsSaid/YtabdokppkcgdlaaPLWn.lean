/- Numbers as bytes. -/
import Derived.Test.YtabdokppkcgdlaaPure
import Derived.Test.YtabdokppkcgdlaaEngQ
namespace Go.Proofs.Ytabdokppkcgdlaa.M
open Go Go.Eng Go.Proofs Go.RowKit
set_option maxRecDepth 100000
set_option linter.unusedVariables false
set_option linter.unusedSimpArgs false

def Byts (l : List Int) : Prop := ∀ x ∈ l, 0 ≤ x ∧ x < 256
theorem Byts.cons {c : Int} {l : List Int} : Byts (c :: l) ↔ (0 ≤ c ∧ c < 256) ∧ Byts l := by simp [Byts]
theorem Byts.append {a b : List Int} : Byts (a ++ b) ↔ Byts a ∧ Byts b := by
  simp only [Byts, List.mem_append]
  exact ⟨fun h => ⟨fun x hx => h x (Or.inl hx), fun x hx => h x (Or.inr hx)⟩, fun h x hx => hx.elim (h.1 x) (h.2 x)⟩
theorem Byts.drop {l : List Int} (h : Byts l) (k : Nat) : Byts (l.drop k) := fun x hx => h x (List.mem_of_mem_drop hx)
theorem Byts.take {l : List Int} (h : Byts l) (k : Nat) : Byts (l.take k) := fun x hx => h x (List.mem_of_mem_take hx)
theorem byts_sbytes (s : ByteArray) : Byts (sbytes s) := fun x hx => sbytes_range hx
theorem bstr_sbytes (s : ByteArray) : bstr (sbytes s) = s := by
  obtain ⟨⟨l⟩⟩ := s
  unfold bstr sbytes
  simp only [List.map_map]
  congr 2
  conv => rhs; rw [← List.map_id l]
  apply List.map_congr_left
  intro x hx
  show UInt8.ofNat ((x.toNat : Int)).toNat = x
  simp
theorem sbytes_bstr {l : List Int} (h : Byts l) : sbytes (bstr l) = l := by
  unfold bstr sbytes
  simp only [List.map_map]
  conv => rhs; rw [← List.map_id l]
  apply List.map_congr_left
  intro x hx
  obtain ⟨h0, h1⟩ := h x hx
  show ((UInt8.ofNat x.toNat).toNat : Int) = x
  rw [UInt8.toNat_ofNat']
  omega
theorem bstr_size (l : List Int) : (bstr l).size = l.length := by simp [bstr, ByteArray.size]
theorem bstr_inj {a b : List Int} (ha : Byts a) (hb : Byts b) (h : bstr a = bstr b) : a = b := by rw [← sbytes_bstr ha, ← sbytes_bstr hb, h]
theorem bstr_beq {a b : List Int} (ha : Byts a) (hb : Byts b) : ((bstr a).toList == (bstr b).toList) = decide (a = b) := by
  rw [beq_bytes]
  by_cases h : a = b
  · simp [h]
  · have : bstr a ≠ bstr b := fun e => h (bstr_inj ha hb e)
    simp [h, this]

/-! big ends -/
def pw (k : Nat) : Int := 256 ^ k
theorem pw_succ (k : Nat) : pw (k + 1) = 256 * pw k := by unfold pw; rw [Int.pow_succ]; omega
theorem pw_pos (k : Nat) : 0 < pw k := by
  induction k with
  | zero => decide
  | succ k ih => rw [pw_succ]; omega
theorem pw_mono {k : Nat} : ∀ {m : Nat}, k ≤ m → pw k ≤ pw m
  | 0, h => by have : k = 0 := by omega
               subst this; exact Int.le_refl _
  | m + 1, h => by
    by_cases e : k = m + 1
    · subst e; exact Int.le_refl _
    · have := pw_mono (k := k) (m := m) (by omega)
      have := pw_pos m
      rw [pw_succ]; omega
def byteAt (n : Int) (i : Nat) : Int := n / pw i % 256
def bigS (n : Int) : Nat → List Int
  | 0 => []
  | k + 1 => byteAt n k :: bigS n k
theorem bigS_len (n : Int) : ∀ k, (bigS n k).length = k
  | 0 => rfl
  | k + 1 => by rw [bigS, List.length_cons, bigS_len n k]
theorem byteAt_range (n : Int) (i : Nat) : 0 ≤ byteAt n i ∧ byteAt n i < 256 := by unfold byteAt; omega
theorem byts_bigS (n : Int) : ∀ k, Byts (bigS n k)
  | 0 => by intro x hx; cases hx
  | k + 1 => by rw [bigS]; exact Byts.cons.2 ⟨byteAt_range _ _, byts_bigS n k⟩
def natV : List Int → Int
  | [] => 0
  | c :: r => c * pw r.length + natV r
theorem natV_range : ∀ {l : List Int}, Byts l → 0 ≤ natV l ∧ natV l < pw l.length
  | [], _ => by simp [natV, pw]
  | c :: r, h => by
    obtain ⟨h0, h1⟩ := Byts.cons.1 h
    obtain ⟨h2, h3⟩ := natV_range h1
    rw [natV, List.length_cons, pw_succ]
    have hp := pw_pos r.length
    generalize pw r.length = p at *
    have : c * p ≤ 255 * p := Int.mul_le_mul_of_nonneg_right (by omega) (by omega)
    have : 0 ≤ c * p := Int.mul_nonneg (by omega) (by omega)
    omega
theorem bigS_mod (v : Int) : ∀ (k : Nat) (m : Int), bigS (m * pw k + v) k = bigS v k
  | 0, m => rfl
  | k + 1, m => by
    rw [bigS, bigS]
    have e : m * pw (k + 1) + v = (m * 256) * pw k + v := by rw [pw_succ, ← Int.mul_assoc]
    rw [e, bigS_mod v k (m * 256)]
    congr 1
    unfold byteAt
    rw [Int.add_comm, Int.add_mul_ediv_right _ _ (by have := pw_pos k; omega)]
    omega
theorem bigS_natV : ∀ {l : List Int}, Byts l → bigS (natV l) l.length = l
  | [], _ => rfl
  | c :: r, h => by
    obtain ⟨h0, h1⟩ := Byts.cons.1 h
    obtain ⟨h2, h3⟩ := natV_range h1
    rw [natV, List.length_cons, bigS, bigS_mod, bigS_natV h1]
    congr 1
    unfold byteAt
    rw [Int.add_comm, Int.add_mul_ediv_right _ _ (by have := pw_pos r.length; omega), Int.ediv_eq_zero_of_lt h2 h3]
    omega
theorem natV_bigS (n : Int) : ∀ k, natV (bigS n k) = n % pw k
  | 0 => by simp [natV, bigS, pw, Int.emod_one]
  | k + 1 => by
    rw [bigS, natV, bigS_len, natV_bigS n k, pw_succ]
    unfold byteAt
    have hp := pw_pos k
    generalize pw k = p at *
    have e1 := Int.mul_ediv_add_emod n p
    have e2 := Int.mul_ediv_add_emod (n / p) 256
    have e3 := Int.emod_nonneg n (show p ≠ 0 by omega)
    have e4 := Int.emod_lt_of_pos n hp
    have e5 := Int.emod_nonneg (n / p) (show (256 : Int) ≠ 0 by omega)
    have e6 := Int.emod_lt_of_pos (n / p) (show (0 : Int) < 256 by omega)
    generalize n / p % 256 = r1 at *
    generalize n % p = r0 at *
    generalize n / p / 256 = q at *
    generalize n / p = d at *
    have hn : n = (r1 * p + r0) + (256 * p) * q := by
      rw [← e1, ← e2, Int.mul_add, Int.mul_comm p r1, Int.mul_comm 256 p, Int.mul_assoc]
      omega
    have hlo : 0 ≤ r1 * p := Int.mul_nonneg e5 (by omega)
    have hhi : r1 * p ≤ 255 * p := Int.mul_le_mul_of_nonneg_right (by omega) (by omega)
    rw [hn, Int.add_mul_emod_self_left, Int.emod_eq_of_lt (by omega) (by omega)]
/-! numbers that wrap -/
theorem w64_def (x : Int) : IntKind.i64.wrap x = if 9223372036854775808 ≤ x % 18446744073709551616 then x % 18446744073709551616 - 18446744073709551616 else x % 18446744073709551616 := by
  simp only [IntKind.wrap, IntKind.bits, IntKind.signed, Bool.true_and]
  split
  · rename_i h; simp at h; rw [if_pos (by omega)]; omega
  · rename_i h; simp at h; rw [if_neg (by omega)]; omega
theorem w64_add (x m : Int) : IntKind.i64.wrap (x + 18446744073709551616 * m) = IntKind.i64.wrap x := by
  rw [w64_def, w64_def, show (x + 18446744073709551616 * m) % 18446744073709551616 = x % 18446744073709551616 by omega]
theorem w64_mod (x : Int) : ∃ m, IntKind.i64.wrap x = x + 18446744073709551616 * m := by
  rw [w64_def]
  split
  · exact ⟨-(x / 18446744073709551616) - 1, by omega⟩
  · exact ⟨-(x / 18446744073709551616), by omega⟩
theorem w64_in (x p y : Int) : IntKind.i64.wrap (IntKind.i64.wrap x * p + y) = IntKind.i64.wrap (x * p + y) := by
  obtain ⟨m, h⟩ := w64_mod x
  rw [h, show (x + 18446744073709551616 * m) * p + y = (x * p + y) + 18446744073709551616 * (m * p) by rw [Int.add_mul, Int.mul_assoc]; omega, w64_add]
theorem w64_bv (b : BitVec 64) : IntKind.i64.wrap b.toNat = b.toInt := by
  have := b.isLt
  rw [BitVec.toInt_eq_toNat_cond, w64_def]
  by_cases h : 2 * b.toNat < 2 ^ 64
  · rw [if_pos h, if_neg (by omega)]; omega
  · rw [if_neg h, if_pos (by omega)]; omega
theorem toInt_w (x : Int) : (BitVec.ofInt 64 x).toInt = IntKind.i64.wrap x := by
  rw [← w64_bv, BitVec.toNat_ofInt]
  obtain ⟨m, h⟩ := w64_mod x
  have : ((x % ((2 ^ 64 : Nat) : Int)).toNat : Int) = x % 18446744073709551616 := by
    show ((x % 18446744073709551616).toNat : Int) = _
    omega
  rw [this]
  have e : x % 18446744073709551616 = x + 18446744073709551616 * (-(x / 18446744073709551616)) := by omega
  rw [e, w64_add]
/-- n<<8 | c -/
def shl8 (n c : Int) : Int := IntKind.i64.wrap (BitVec.ofInt 64 (IntKind.i64.wrap (n * 2 ^ (min (8 : Int).toNat 64))) ||| BitVec.ofInt 64 (IntKind.i64.wrap c)).toNat
theorem ofInt_w (x : Int) : BitVec.ofInt 64 (IntKind.i64.wrap x) = BitVec.ofInt 64 x := by
  apply BitVec.toInt_inj.1
  rw [toInt_w, toInt_w, w64 (w64_range x).1 (w64_range x).2]
theorem shl8_eq (n : Int) {c : Int} (h0 : 0 ≤ c) (h1 : c < 256) : shl8 n c = IntKind.i64.wrap (n * 256 + c) := by
  unfold shl8
  rw [ofInt_w, ofInt_w, show n * 2 ^ (min (8 : Int).toNat 64) = n * 256 from rfl]
  have hand : BitVec.ofInt 64 (n * 256) &&& BitVec.ofInt 64 c = 0#64 := by
    have hx : BitVec.ofInt 64 (n * 256) = BitVec.ofInt 64 n <<< 8 := by
      rw [BitVec.shiftLeft_eq_mul_twoPow]
      rw [BitVec.ofInt_mul]
      rfl
    have hc : BitVec.ofInt 64 c = (BitVec.ofNat 8 c.toNat).setWidth 64 := by
      apply BitVec.eq_of_toNat_eq
      rw [BitVec.toNat_ofInt, BitVec.toNat_setWidth, BitVec.toNat_ofNat]
      show (c % 18446744073709551616).toNat = c.toNat % 256 % 18446744073709551616
      omega
    rw [hx, hc]
    apply BitVec.eq_of_getLsbD_eq
    intro i hi
    simp only [BitVec.getLsbD_and, BitVec.getLsbD_shiftLeft, BitVec.getLsbD_setWidth, BitVec.getLsbD_zero]
    by_cases h : i < 8
    · simp [h]
    · have : (BitVec.ofNat 8 c.toNat).getLsbD i = false := BitVec.getLsbD_of_ge _ _ (by omega)
      simp [this]
  rw [← BitVec.add_eq_or_of_and_eq_zero _ _ hand, ← BitVec.ofInt_add, w64_bv, toInt_w]
def smallS (b : List Int) : Int := b.foldl shl8 0
theorem small_fold : ∀ (l : List Int) (a : Int), Byts l → IntKind.i64.wrap a = a → l.foldl shl8 a = IntKind.i64.wrap (a * pw l.length + natV l)
  | [], a, _, ha => by simp [natV, pw, ha]
  | c :: r, a, h, ha => by
    obtain ⟨⟨h0, h1⟩, h2⟩ := Byts.cons.1 h
    rw [List.foldl_cons, shl8_eq a h0 h1, small_fold r _ h2 (w64 (w64_range _).1 (w64_range _).2), w64_in, natV, List.length_cons, pw_succ]
    congr 1
    rw [Int.add_mul, Int.mul_assoc]
    omega
theorem small_eq {l : List Int} (h : Byts l) : smallS l = IntKind.i64.wrap (natV l) := by
  unfold smallS
  rw [small_fold l 0 h (by decide)]
  congr 1; omega
theorem small_nat {l : List Int} (h : Byts l) (hl : l.length ≤ 7) : smallS l = natV l := by
  obtain ⟨h2, h3⟩ := natV_range h
  rw [small_eq h]
  have : pw l.length ≤ pw 7 := pw_mono hl
  have e : pw 7 = 72057594037927936 := by decide
  exact w64 (by omega) (by omega)
theorem small_big8 {n : Int} (h0 : -9223372036854775808 ≤ n) (h1 : n ≤ 9223372036854775807) : smallS (bigS n 8) = n := by
  rw [small_eq (byts_bigS n 8), natV_bigS]
  have e : pw 8 = 18446744073709551616 := by decide
  rw [e]
  have : n % 18446744073709551616 = n + 18446744073709551616 * (-(n / 18446744073709551616)) := by omega
  rw [this, w64_add, w64 h0 h1]
theorem big_small8 {l : List Int} (h : Byts l) (hl : l.length = 8) : bigS (smallS l) 8 = l := by
  obtain ⟨m, e⟩ := w64_mod (natV l)
  rw [small_eq h, e]
  have e8 : pw 8 = 18446744073709551616 := by decide
  have := bigS_mod (natV l) 8 m
  rw [e8, Int.mul_comm, Int.add_comm] at this
  rw [this, ← hl, bigS_natV h]
theorem small_big {n : Int} {k : Nat} (hk : k ≤ 7) (h0 : 0 ≤ n) (h1 : n < pw k) : smallS (bigS n k) = n := by
  rw [small_nat (byts_bigS n k) (by rw [bigS_len]; exact hk), natV_bigS, Int.emod_eq_of_lt h0 h1]
theorem big_small {l : List Int} (h : Byts l) (hl : l.length ≤ 7) : bigS (smallS l) l.length = l := by rw [small_nat h hl, bigS_natV h]
theorem small_range {l : List Int} (h : Byts l) (hl : l.length ≤ 7) : 0 ≤ smallS l ∧ smallS l < pw l.length := by rw [small_nat h hl]; exact natV_range h
theorem small_i64 {l : List Int} (h : Byts l) : -9223372036854775808 ≤ smallS l ∧ smallS l ≤ 9223372036854775807 := by rw [small_eq h]; exact w64_range _
end Go.Proofs.Ytabdokppkcgdlaa.M
