/- The functions that the laws come to, as plain Lean functions over numbers and lists (none: Go would panic, or the bound on rounds is used up). Printed by wip/eng/gen.py. -/
import Derived.Test.YtmohocmmelaeaaaDoorEngL
import Derived.Shelf.Strconv.Itoa3
import Derived.Shelf.Strings.OnBuilder
import Derived.Shelf.Strings.Replace
namespace Go.Proofs.YtmohocmmelaeaaaDoor.M
open Go Go.Eng Go.Proofs Go.RowKit
set_option linter.unusedVariables false
set_option maxRecDepth 100000
noncomputable section

structure api_Value where
  Kind : Int
  N : Int
  S : ByteArray
  H : Arr8
  deriving DecidableEq
def ty_api_Value : Ty api_Value := Ty.flat 11 (fun x => [.int .i64 x.Kind, .int .i64 x.N, .string x.S, .int .i64 x.H.a0, .int .i64 x.H.a1, .int .i64 x.H.a2, .int .i64 x.H.a3, .int .i64 x.H.a4, .int .i64 x.H.a5, .int .i64 x.H.a6, .int .i64 x.H.a7]) (fun _ => rfl) (fun _ => all_cons rfl (all_cons rfl (all_cons rfl (all_cons rfl (all_cons rfl (all_cons rfl (all_cons rfl (all_cons rfl (all_cons rfl (all_cons rfl (all_cons rfl (all_nil))))))))))))
def ok_api_Value (x : api_Value) : Prop := (fun x => (Lit.int .i64 x).wf = true) x.Kind ∧ (fun x => (Lit.int .i64 x).wf = true) x.N ∧ (fun s => s.size ≤ 140737488351232) x.S ∧ ok_Arr8 x.H

/-! ### catchment/value.OfInt -/
def value_OfInt (a0 : Int) : Option api_Value :=
  some (⟨1, a0, (⟨#[]⟩ : ByteArray), (⟨0, 0, 0, 0, 0, 0, 0, 0⟩ : Arr8)⟩ : api_Value)

/-! ### catchment/value.OfStr -/
def value_OfStr (a0 : ByteArray) : Option api_Value :=
  ((cuts a0 0 (min (a0.size : Int) 64)).bind fun y_2 => some (⟨2, 0, y_2, (⟨0, 0, 0, 0, 0, 0, 0, 0⟩ : Arr8)⟩ : api_Value))

/-! ### catchment/value.Valid -/
def value_Valid.j0 (x_59 : Int) (x_60 : ByteArray) (x_61 : Arr8) (x_62 : Bool) : Option Bool :=
  (if x_62 = true then some (decide ((⟨0, x_59, x_60, x_61⟩ : api_Value) = (⟨0, 0, (⟨#[]⟩ : ByteArray), (⟨0, 0, 0, 0, 0, 0, 0, 0⟩ : Arr8)⟩ : api_Value))) else some false)

def value_Valid.j1 (x_90 : Int) (x_91 : ByteArray) (x_92 : Arr8) (x_93 : Bool) : Option Bool :=
  (value_Valid.j0 x_90 x_91 x_92 x_93)

def value_Valid.j2 (a0 : api_Value) (x_106 : Int) (x_107 : Arr8) (x_108 : Bool) : Option Bool :=
  (value_Valid.j1 x_106 a0.S x_107 x_108)

def value_Valid.j3 (a0 : api_Value) (x_112 : Bool) : Option Bool :=
  (value_Valid.j2 a0 0 a0.H x_112)

def value_Valid.j4 (a0 : api_Value) (x_116 : Arr8) (x_117 : Bool) : Option Bool :=
  (value_Valid.j2 a0 a0.N x_116 x_117)

def value_Valid (a0 : api_Value) : Option Bool :=
  (if (a0.Kind == 1) = true then (value_Valid.j0 0 a0.S a0.H true) else (if (a0.Kind == 2) = true then (value_Valid.j1 a0.N (⟨#[]⟩ : ByteArray) a0.H (decide ((a0.S.size : Int) ≤ 64))) else (if (a0.Kind == 3) = true then (if (a0.N == 0) = true then (value_Valid.j3 a0 true) else (value_Valid.j3 a0 (a0.N == 1))) else (if (a0.Kind == 4) = true then (value_Valid.j4 a0 (⟨0, 0, 0, 0, 0, 0, 0, 0⟩ : Arr8) true) else (value_Valid.j4 a0 a0.H false)))))

/-! ### catchment/value.Add -/
def value_Add.l1 (a0 : api_Value) (a1 : api_Value) : Nat → Arr8 → Int → Option (api_Value × Int)
  | 0, _, _ => none
  | k + 1, x_24, x_25 => (if (decide (x_25 < 8)) = true then ((Arr8.ix x_24 x_25).bind fun y_53 => ((Arr8.ix a1.H x_25).bind fun y_55 => ((Arr8.ix x_24 x_25).bind fun y_57 => ((Arr8.put x_24 x_25 (IntKind.i64.wrap (y_53 + y_55))).bind fun y_59 => (value_Add.l1 a0 a1 k y_59 (IntKind.i64.wrap (x_25 + 1))))))) else some ((⟨a0.Kind, a0.N, a0.S, x_24⟩ : api_Value), 0))

def value_Add.j0 (a0 : api_Value) (a1 : api_Value) (x_10 : Bool) : Option (api_Value × Int) :=
  (if x_10 = true then some ((⟨0, 0, (⟨#[]⟩ : ByteArray), (⟨0, 0, 0, 0, 0, 0, 0, 0⟩ : Arr8)⟩ : api_Value), 10) else (if (a0.Kind == 1) = true then ((value_OfInt (IntKind.i64.wrap (a0.N + a1.N))).bind fun y_20 => some (y_20, 0)) else (if (a0.Kind == 4) = true then (value_Add.l1 a0 a1 (((8 : Int) - 0).toNat + 1) a0.H 0) else some ((⟨0, 0, (⟨#[]⟩ : ByteArray), (⟨0, 0, 0, 0, 0, 0, 0, 0⟩ : Arr8)⟩ : api_Value), 10))))

def value_Add (a0 : api_Value) (a1 : api_Value) : Option (api_Value × Int) :=
  ((value_Valid a0).bind fun y_12 => (if (!y_12) = true then (value_Add.j0 a0 a1 true) else ((value_Valid a1).bind fun y_15 => (if (!y_15) = true then (value_Add.j0 a0 a1 true) else (value_Add.j0 a0 a1 (a0.Kind != a1.Kind))))))

/-! ### cmp.isNaN[int] -/
def cmp_isNaN_int (a0 : Int) : Option Bool :=
  some (a0 != a0)

/-! ### cmp.Compare[int] -/
def cmp_Compare_int (a0 : Int) (a1 : Int) : Option Int :=
  ((cmp_isNaN_int a0).bind fun y_1 => ((cmp_isNaN_int a1).bind fun y_3 => (if y_1 = true then (if y_3 = true then some 0 else some (-1)) else (if y_3 = true then some 1 else (if (decide (a0 < a1)) = true then some (-1) else (if (decide (a0 > a1)) = true then some 1 else some 0))))))

/-! ### internal/bytealg.CompareString -/
def internal_bytealg_CompareString (a0 : ByteArray) (a1 : ByteArray) : Option Int :=
  some (Lib.compareBytes a0.data.toList a1.data.toList)

/-! ### strings.Compare -/
def strings_Compare (a0 : ByteArray) (a1 : ByteArray) : Option Int :=
  ((internal_bytealg_CompareString a0 a1).bind fun y_1 => some y_1)

/-! ### slices.Compare[[]int,int] -/
def slices_Compare_int_int.l0 (a0 : List Int) (a1 : List Int) : Nat → Int → Option Int
  | 0, _ => none
  | k + 1, x_25 => (if (decide (x_25 < (a0.length : Int))) = true then ((ix a0 x_25).bind fun y_51 => (if (decide (x_25 ≥ (a1.length : Int))) = true then some 1 else ((ix a1 x_25).bind fun y_61 => ((cmp_Compare_int y_51 y_61).bind fun y_70 => (if (y_70 != 0) = true then some y_70 else (slices_Compare_int_int.l0 a0 a1 k (IntKind.i64.wrap (x_25 + 1)))))))) else (if (decide ((a0.length : Int) < (a1.length : Int))) = true then some (-1) else some 0))

def slices_Compare_int_int (a0 : List Int) (a1 : List Int) : Option Int :=
  (slices_Compare_int_int.l0 a0 a1 (((a0.length : Int) - 0).toNat + 1) 0)

/-! ### cmp.Or[int] -/
def cmp_Or_int.l0 (a0 : List Int) : Nat → Int → Option Int
  | 0, _ => none
  | k + 1, x_13 => (if (decide (x_13 < (a0.length : Int))) = true then ((ix a0 x_13).bind fun y_27 => (if (y_27 != 0) = true then some y_27 else (cmp_Or_int.l0 a0 k (IntKind.i64.wrap (x_13 + 1))))) else some 0)

def cmp_Or_int (a0 : List Int) : Option Int :=
  (cmp_Or_int.l0 a0 (((a0.length : Int) - 0).toNat + 1) 0)

/-! ### catchment/value.Compare -/
def value_Compare (a0 : api_Value) (a1 : api_Value) : Option Int :=
  ((cmp_Compare_int a0.Kind a1.Kind).bind fun y_14 => ((cmp_Compare_int a0.N a1.N).bind fun y_16 => ((strings_Compare a0.S a1.S).bind fun y_18 => ((slices_Compare_int_int a0.H.list a1.H.list).bind fun y_20 => ((cmp_Or_int [y_14, y_16, y_18, y_20]).bind fun y_23 => some y_23)))))

/-! ### catchment/value.OfBool -/
def value_OfBool (a0 : Bool) : Option api_Value :=
  (if a0 = true then some (⟨3, 1, (⟨#[]⟩ : ByteArray), (⟨0, 0, 0, 0, 0, 0, 0, 0⟩ : Arr8)⟩ : api_Value) else some (⟨3, 0, (⟨#[]⟩ : ByteArray), (⟨0, 0, 0, 0, 0, 0, 0, 0⟩ : Arr8)⟩ : api_Value))

/-! ### catchment/value.Bucket -/
def value_Bucket.j1 (kl0 : Int → Int → Option api_Value) (x_5 : Int) (x_6 : Int) (x_14 : Bool) : Option api_Value :=
  (if x_14 = true then (kl0 (IntKind.i64.wrap (x_5 + 1)) (IntKind.i64.wrap (x_6 * 10))) else ((Arr8.ix (⟨0, 0, 0, 0, 0, 0, 0, 0⟩ : Arr8) x_5).bind fun y_18 => ((Arr8.put (⟨0, 0, 0, 0, 0, 0, 0, 0⟩ : Arr8) x_5 1).bind fun y_20 => some (⟨4, 0, (⟨#[]⟩ : ByteArray), y_20⟩ : api_Value))))

def value_Bucket.l0 (a0 : Int) : Nat → Int → Int → Option api_Value
  | 0, _, _ => none
  | k + 1, x_5, x_6 => (if (decide (x_5 < 7)) = true then (value_Bucket.j1 (value_Bucket.l0 a0 k) x_5 x_6 (decide (a0 ≥ x_6))) else (value_Bucket.j1 (value_Bucket.l0 a0 k) x_5 x_6 false))

def value_Bucket (a0 : Int) : Option api_Value :=
  (value_Bucket.l0 a0 (((7 : Int) - 0).toNat + 1) 0 1)

/-! ### strconv.Itoa -/
def strconv_Itoa (a0 : Int) : Option ByteArray := if -9223372036854775808 ≤ a0 ∧ a0 ≤ 9223372036854775807 then some ⟨(Lib.itoa a0).toArray⟩ else none

/-! ### internal/strconv.FormatBool -/
def internal_strconv_FormatBool (a0 : Bool) : Option ByteArray :=
  (if a0 = true then some (⟨#[116, 114, 117, 101]⟩ : ByteArray) else some (⟨#[102, 97, 108, 115, 101]⟩ : ByteArray))

/-! ### strconv.FormatBool -/
def strconv_FormatBool (a0 : Bool) : Option ByteArray :=
  ((internal_strconv_FormatBool a0).bind fun y_1 => some y_1)

/-! ### strings.Join -/
def strings_Join (a0 : List ByteArray) (a1 : ByteArray) : Option ByteArray := if a0.length ≤ 140737488355328 ∧ (Lib.join (a0.map (·.data.toList)) a1.data.toList).length ≤ 140737488355328 then some ⟨(Lib.join (a0.map (·.data.toList)) a1.data.toList).toArray⟩ else none

/-! ### strings.ReplaceAll -/
def strings_ReplaceAll (a0 : ByteArray) (a1 : ByteArray) (a2 : ByteArray) : Option ByteArray := if a0.size < 4294967281 ∧ 1 ≤ a1.size ∧ a0.size + Lib.countB a0 a1 * a2.size ≤ 140737488355328 then some ⟨(Lib.replaceAll a0.data.toList a1.data.toList a2.data.toList).toArray⟩ else none

/-! ### catchment/value.Text -/
def value_Text.l0 (a0 : api_Value) : Nat → (List ByteArray) → Int → Option ByteArray
  | 0, _, _ => none
  | k + 1, x_25, x_29 => (if (decide (x_29 < 8)) = true then ((Arr8.ix a0.H x_29).bind fun y_46 => ((strconv_Itoa y_46).bind fun y_48 => ((apd 16 x_25 [y_48]).bind fun y_51 => (value_Text.l0 a0 k y_51 (IntKind.i64.wrap (x_29 + 1)))))) else ((strings_Join x_25 (⟨#[32]⟩ : ByteArray)).bind fun y_57 => (if (decide ((⟨#[91]⟩ : ByteArray).size + y_57.size ≤ 9223372036854775807)) = true then (if (decide (((⟨#[91]⟩ : ByteArray) ++ y_57).size + (⟨#[93]⟩ : ByteArray).size ≤ 9223372036854775807)) = true then some (((⟨#[91]⟩ : ByteArray) ++ y_57) ++ (⟨#[93]⟩ : ByteArray)) else none) else none)))

def value_Text (a0 : api_Value) : Option ByteArray :=
  ((value_Valid a0).bind fun y_2 => (if (!y_2) = true then some (⟨#[]⟩ : ByteArray) else (if (a0.Kind == 1) = true then ((strconv_Itoa a0.N).bind fun y_6 => some y_6) else (if (a0.Kind == 3) = true then ((strconv_FormatBool (a0.N == 1)).bind fun y_9 => some y_9) else (if (a0.Kind == 4) = true then (value_Text.l0 a0 (((8 : Int) - 0).toNat + 1) [] 0) else ((strings_ReplaceAll a0.S (⟨#[92]⟩ : ByteArray) (⟨#[92, 92]⟩ : ByteArray)).bind fun y_61 => ((strings_ReplaceAll y_61 (⟨#[34]⟩ : ByteArray) (⟨#[92, 34]⟩ : ByteArray)).bind fun y_63 => (if (decide ((⟨#[34]⟩ : ByteArray).size + y_63.size ≤ 9223372036854775807)) = true then (if (decide (((⟨#[34]⟩ : ByteArray) ++ y_63).size + (⟨#[34]⟩ : ByteArray).size ≤ 9223372036854775807)) = true then some (((⟨#[34]⟩ : ByteArray) ++ y_63) ++ (⟨#[34]⟩ : ByteArray)) else none) else none))))))))

/-! ### catchment/value.Holds -/
def value_Holds (a0 : Int) (a1 : api_Value) (a2 : api_Value) : Option Bool :=
  ((value_Compare a1 a2).bind fun y_3 => (if (a1.Kind != a2.Kind) = true then some false else (if (a0 == 1) = true then some (y_3 == 0) else (if (a0 == 2) = true then some (y_3 != 0) else (if (a0 == 3) = true then some (decide (y_3 < 0)) else (if (a0 == 4) = true then some (decide (y_3 ≤ 0)) else (if (a0 == 5) = true then some (decide (y_3 > 0)) else (if (a0 == 6) = true then some (decide (y_3 ≥ 0)) else some false))))))))

/-! ### catchment/catchmentlaw01.shown -/
def law01_shown.j0 (y_1 : api_Value) (y_4 : api_Value) (x_34 : Int) (x_35 : Int) (x_36 : ByteArray) (x_37 : Arr8) (x_38 : Int) : Option Bool :=
  ((value_Add y_1 y_4).bind fun y_66 => ((value_OfInt 2).bind fun y_117 => ((value_Compare y_1 y_117).bind fun y_119 => (if (y_119 == (-1)) = true then ((value_OfInt 5).bind fun y_122 => ((value_Compare y_122 y_4).bind fun y_124 => (if (y_124 == (-1)) = true then ((value_OfBool true).bind fun y_127 => ((value_OfBool false).bind fun y_129 => ((value_Compare y_127 y_129).bind fun y_131 => (if (y_131 == 1) = true then ((value_OfInt (-9223372036854775808)).bind fun y_134 => (if (decide ((⟨x_34, x_35, x_36, x_37⟩ : api_Value) = y_134)) = true then (if (x_38 == 0) = true then (if (y_66.2 == 10) = true then ((value_Bucket 10).bind fun y_139 => (if (decide (y_139.H = (⟨0, 0, 1, 0, 0, 0, 0, 0⟩ : Arr8))) = true then ((value_OfInt (-5)).bind fun y_142 => ((value_Text y_142).bind fun y_144 => (if (y_144.toList == (⟨#[45, 53]⟩ : ByteArray).toList) = true then ((value_OfStr (⟨#[97, 34, 98]⟩ : ByteArray)).bind fun y_147 => ((value_Text y_147).bind fun y_149 => (if (y_149.toList == (⟨#[34, 97, 92, 34, 98, 34]⟩ : ByteArray).toList) = true then ((value_OfInt 2).bind fun y_152 => ((value_Holds 3 y_1 y_152).bind fun y_154 => (if y_154 = true then ((value_Holds 2 y_1 y_4).bind fun y_157 => (if (!y_157) = true then ((value_Holds 9 y_1 y_1).bind fun y_160 => (if (!y_160) = true then ((value_Valid y_1).bind fun y_163 => some y_163) else some false)) else some false)) else some false))) else some false))) else some false))) else some false)) else some false) else some false) else some false)) else some false)))) else some false))) else some false))))

def law01_shown : Option Bool :=
  ((value_OfInt 1).bind fun y_1 => ((value_OfStr (⟨#[97]⟩ : ByteArray)).bind fun y_4 => ((value_OfInt 9223372036854775807).bind fun y_53 => ((value_Add y_53 y_1).bind fun y_55 => (law01_shown.j0 y_1 y_4 y_55.1.Kind y_55.1.N y_55.1.S y_55.1.H y_55.2)))))

/-! ### catchment/catchmentref01.Valid -/
def ref01_Valid (a0 : api_Value) : Option Bool :=
  (if (a0.Kind == 1) = true then (if (a0.S.toList == (⟨#[]⟩ : ByteArray).toList) = true then some (decide (a0.H = (⟨0, 0, 0, 0, 0, 0, 0, 0⟩ : Arr8))) else some false) else (if (a0.Kind == 2) = true then (if (a0.N == 0) = true then (if (decide (a0.H = (⟨0, 0, 0, 0, 0, 0, 0, 0⟩ : Arr8))) = true then some (decide ((a0.S.size : Int) ≤ 64)) else some false) else some false) else (if (a0.Kind == 3) = true then (if (a0.N == 0) = true then (if (a0.S.toList == (⟨#[]⟩ : ByteArray).toList) = true then some (decide (a0.H = (⟨0, 0, 0, 0, 0, 0, 0, 0⟩ : Arr8))) else some false) else (if (a0.N == 1) = true then (if (a0.S.toList == (⟨#[]⟩ : ByteArray).toList) = true then some (decide (a0.H = (⟨0, 0, 0, 0, 0, 0, 0, 0⟩ : Arr8))) else some false) else some false)) else (if (a0.Kind == 4) = true then (if (a0.N == 0) = true then some (a0.S.toList == (⟨#[]⟩ : ByteArray).toList) else some false) else some false))))

/-! ### catchment/catchmentref01.Digits -/
def ref01_Digits.j2 (kl0 : ByteArray → Int → Option ByteArray) (x_16 : ByteArray) (x_17 : Int) (x_40 : Int) : Option ByteArray :=
  (if (decide ((bstr [IntKind.u8.wrap (IntKind.i64.wrap (48 + x_40))]).size + x_16.size ≤ 9223372036854775807)) = true then (kl0 ((bstr [IntKind.u8.wrap (IntKind.i64.wrap (48 + x_40))]) ++ x_16) (IntKind.i64.wrap (x_17.tdiv 10))) else none)

def ref01_Digits.j3 (a0 : Int) (x_16 : ByteArray) (x_49 : Int) : Option ByteArray :=
  (if (decide ((bstr [IntKind.u8.wrap (IntKind.i64.wrap (48 + x_49))]).size + x_16.size ≤ 9223372036854775807)) = true then (if (decide (a0 < 0)) = true then (if (decide ((⟨#[45]⟩ : ByteArray).size + ((bstr [IntKind.u8.wrap (IntKind.i64.wrap (48 + x_49))]) ++ x_16).size ≤ 9223372036854775807)) = true then some ((⟨#[45]⟩ : ByteArray) ++ ((bstr [IntKind.u8.wrap (IntKind.i64.wrap (48 + x_49))]) ++ x_16)) else none) else some ((bstr [IntKind.u8.wrap (IntKind.i64.wrap (48 + x_49))]) ++ x_16)) else none)

def ref01_Digits.j1 (kl0 : ByteArray → Int → Option ByteArray) (a0 : Int) (x_16 : ByteArray) (x_17 : Int) (x_35 : Bool) : Option ByteArray :=
  (if x_35 = true then (if (decide ((x_17.tmod 10) < 0)) = true then (ref01_Digits.j2 kl0 x_16 x_17 (IntKind.i64.wrap (0 - (x_17.tmod 10)))) else (ref01_Digits.j2 kl0 x_16 x_17 (x_17.tmod 10))) else (if (decide (x_17 < 0)) = true then (ref01_Digits.j3 a0 x_16 (IntKind.i64.wrap (0 - x_17))) else (ref01_Digits.j3 a0 x_16 x_17)))

def ref01_Digits.l0 (a0 : Int) : Nat → ByteArray → Int → Option ByteArray
  | 0, _, _ => none
  | k + 1, x_16, x_17 => (if (decide (x_17 < (-9))) = true then (ref01_Digits.j1 (ref01_Digits.l0 a0 k) a0 x_16 x_17 true) else (ref01_Digits.j1 (ref01_Digits.l0 a0 k) a0 x_16 x_17 (decide (x_17 > 9))))

def ref01_Digits (a0 : Int) : Option ByteArray :=
  (ref01_Digits.l0 a0 25 (⟨#[]⟩ : ByteArray) a0)

/-! ### catchment/catchmentref01.Text -/
def ref01_Text.j1 (kl0 : ByteArray → Int → Option ByteArray) (a0 : api_Value) (x_16 : Int) (x_33 : ByteArray) : Option ByteArray :=
  ((Arr8.ix a0.H x_16).bind fun y_37 => ((ref01_Digits y_37).bind fun y_39 => (if (decide (x_33.size + y_39.size ≤ 9223372036854775807)) = true then (kl0 (x_33 ++ y_39) (IntKind.i64.wrap (x_16 + 1))) else none)))

def ref01_Text.l0 (a0 : api_Value) : Nat → ByteArray → Int → Option ByteArray
  | 0, _, _ => none
  | k + 1, x_15, x_16 => (if (decide (x_16 < 8)) = true then (if (decide (x_16 > 0)) = true then (if (decide (x_15.size + (⟨#[32]⟩ : ByteArray).size ≤ 9223372036854775807)) = true then (ref01_Text.j1 (ref01_Text.l0 a0 k) a0 x_16 (x_15 ++ (⟨#[32]⟩ : ByteArray))) else none) else (ref01_Text.j1 (ref01_Text.l0 a0 k) a0 x_16 x_15)) else (if (decide (x_15.size + (⟨#[93]⟩ : ByteArray).size ≤ 9223372036854775807)) = true then some (x_15 ++ (⟨#[93]⟩ : ByteArray)) else none))

def ref01_Text.j4 (kl2 : (List Int) → Int → Option ByteArray) (a0 : api_Value) (x_99 : Int) (x_169 : List Int) : Option ByteArray :=
  ((ixs a0.S x_99).bind fun y_182 => ((apd 1 x_169 [y_182]).bind fun y_185 => (kl2 y_185 (IntKind.i64.wrap (x_99 + 1)))))

def ref01_Text.j3 (kl2 : (List Int) → Int → Option ByteArray) (a0 : api_Value) (x_95 : List Int) (x_99 : Int) (x_153 : Bool) : Option ByteArray :=
  (if x_153 = true then ((apd 1 x_95 [92]).bind fun y_176 => (ref01_Text.j4 kl2 a0 x_99 y_176)) else (ref01_Text.j4 kl2 a0 x_99 x_95))

def ref01_Text.l2 (a0 : api_Value) : Nat → (List Int) → Int → Option ByteArray
  | 0, _, _ => none
  | k + 1, x_95, x_99 => (if (decide (x_99 < (a0.S.size : Int))) = true then ((ixs a0.S x_99).bind fun y_155 => (if (y_155 == 34) = true then (ref01_Text.j3 (ref01_Text.l2 a0 k) a0 x_95 x_99 true) else ((ixs a0.S x_99).bind fun y_158 => (ref01_Text.j3 (ref01_Text.l2 a0 k) a0 x_95 x_99 (y_158 == 92))))) else ((apd 1 x_95 [34]).bind fun y_192 => some (bstr y_192)))

def ref01_Text (a0 : api_Value) : Option ByteArray :=
  ((ref01_Valid a0).bind fun y_2 => (if (!y_2) = true then some (⟨#[]⟩ : ByteArray) else (if (a0.Kind == 1) = true then ((ref01_Digits a0.N).bind fun y_6 => some y_6) else (if (a0.Kind == 3) = true then (if (a0.N == 1) = true then some (⟨#[116, 114, 117, 101]⟩ : ByteArray) else some (⟨#[102, 97, 108, 115, 101]⟩ : ByteArray)) else (if (a0.Kind == 4) = true then (ref01_Text.l0 a0 (((8 : Int) - 0).toNat + 1) (⟨#[91]⟩ : ByteArray) 0) else (ref01_Text.l2 a0 (((a0.S.size : Int) - 0).toNat + 1) [34] 0))))))

/-! ### catchment/catchmentlaw01.ValueValid -/
def law01_ValueValid (a0 : api_Value) : Option Bool :=
  ((law01_shown).bind fun y_2 => (if y_2 = true then ((value_Valid a0).bind fun y_15 => ((ref01_Valid a0).bind fun y_17 => (if (y_15 == y_17) = true then ((value_Text a0).bind fun y_20 => ((ref01_Text a0).bind fun y_22 => some (y_20.toList == y_22.toList))) else some false))) else some false))

/-! ### catchment/catchmentref01.order -/
def ref01_order (a0 : Int) (a1 : Int) : Option Int :=
  (if (decide (a0 < a1)) = true then some (-1) else (if (decide (a0 > a1)) = true then some 1 else some 0))

/-! ### catchment/catchmentref01.Compare -/
def ref01_Compare.l2 (a0 : api_Value) (a1 : api_Value) : Nat → Int → Option Int
  | 0, _ => none
  | k + 1, x_100 => (if (decide (x_100 < 8)) = true then ((Arr8.ix a0.H x_100).bind fun y_129 => ((Arr8.ix a1.H x_100).bind fun y_131 => (if (y_129 != y_131) = true then ((Arr8.ix a0.H x_100).bind fun y_140 => ((Arr8.ix a1.H x_100).bind fun y_142 => ((ref01_order y_140 y_142).bind fun y_144 => some y_144))) else (ref01_Compare.l2 a0 a1 k (IntKind.i64.wrap (x_100 + 1)))))) else some 0)

def ref01_Compare.j1 (kl0 : Int → Option Int) (a0 : api_Value) (a1 : api_Value) (x_36 : Int) (x_66 : Bool) : Option Int :=
  (if x_66 = true then ((ixs a0.S x_36).bind fun y_74 => ((ixs a1.S x_36).bind fun y_76 => (if (y_74 != y_76) = true then ((ixs a0.S x_36).bind fun y_85 => ((ixs a1.S x_36).bind fun y_87 => ((ref01_order (IntKind.i64.wrap y_85) (IntKind.i64.wrap y_87)).bind fun y_89 => some y_89))) else (kl0 (IntKind.i64.wrap (x_36 + 1)))))) else (if ((a0.S.size : Int) != (a1.S.size : Int)) = true then ((ref01_order (a0.S.size : Int) (a1.S.size : Int)).bind fun y_92 => some y_92) else (ref01_Compare.l2 a0 a1 (((8 : Int) - 0).toNat + 1) 0)))

def ref01_Compare.l0 (a0 : api_Value) (a1 : api_Value) : Nat → Int → Option Int
  | 0, _ => none
  | k + 1, x_36 => (if (decide (x_36 < (a0.S.size : Int))) = true then (ref01_Compare.j1 (ref01_Compare.l0 a0 a1 k) a0 a1 x_36 (decide (x_36 < (a1.S.size : Int)))) else (ref01_Compare.j1 (ref01_Compare.l0 a0 a1 k) a0 a1 x_36 false))

def ref01_Compare (a0 : api_Value) (a1 : api_Value) : Option Int :=
  (if (a0.Kind != a1.Kind) = true then ((ref01_order a0.Kind a1.Kind).bind fun y_4 => some y_4) else (if (a0.N != a1.N) = true then ((ref01_order a0.N a1.N).bind fun y_7 => some y_7) else (ref01_Compare.l0 a0 a1 (((a0.S.size : Int) - 0).toNat + 1) 0)))

/-! ### catchment/catchmentref01.Holds -/
def ref01_Holds (a0 : Int) (a1 : api_Value) (a2 : api_Value) : Option Bool :=
  (if (a1.Kind != a2.Kind) = true then some false else ((ref01_Compare a1 a2).bind fun y_4 => (if (a0 == 1) = true then some (y_4 == 0) else (if (a0 == 2) = true then some (y_4 != 0) else (if (a0 == 3) = true then some (decide (y_4 < 0)) else (if (a0 == 4) = true then some (decide (y_4 ≤ 0)) else (if (a0 == 5) = true then some (decide (y_4 > 0)) else (if (a0 == 6) = true then some (decide (y_4 ≥ 0)) else some false))))))))

/-! ### catchment/catchmentlaw01.ValueOrder -/
def law01_ValueOrder (a0 : api_Value) (a1 : api_Value) (a2 : Int) : Option Bool :=
  ((law01_shown).bind fun y_3 => (if y_3 = true then ((value_Compare a0 a1).bind fun y_21 => ((ref01_Compare a0 a1).bind fun y_23 => (if (y_21 == y_23) = true then ((value_Compare a1 a0).bind fun y_26 => ((value_Compare a0 a1).bind fun y_28 => (if (y_26 == (IntKind.i64.wrap (0 - y_28))) = true then ((value_Holds a2 a0 a1).bind fun y_31 => ((ref01_Holds a2 a0 a1).bind fun y_33 => some (y_31 == y_33))) else some false))) else some false))) else some false))

/-! ### catchment/catchmentlaw01.ValueChain -/
def law01_ValueChain.j0 (a0 : api_Value) (a1 : api_Value) (a2 : api_Value) (y_4 : Bool) (y_6 : Int) (y_8 : Int) (x_21 : Bool) : Option Bool :=
  (if x_21 = true then some false else (if y_4 = true then (if ((y_6 == 0) == (decide (a0 = a1))) = true then (if (y_6 == 0) = true then (if (decide (a0 = a1)) = true then some ((y_8 == 0) == (decide (a1 = a2))) else some ((y_8 == 0) == false)) else (if (decide (a0 = a1)) = true then some (false == (decide (a1 = a2))) else some (false == false))) else some false) else some false))

def law01_ValueChain (a0 : api_Value) (a1 : api_Value) (a2 : api_Value) : Option Bool :=
  ((law01_shown).bind fun y_4 => ((value_Compare a0 a1).bind fun y_6 => ((value_Compare a1 a2).bind fun y_8 => ((value_Compare a0 a2).bind fun y_10 => (if (decide (y_6 ≤ 0)) = true then (if (decide (y_8 ≤ 0)) = true then (if (decide (y_10 > 0)) = true then (law01_ValueChain.j0 a0 a1 a2 y_4 y_6 y_8 true) else (if (decide (y_6 ≥ 0)) = true then (if (decide (y_8 ≥ 0)) = true then (law01_ValueChain.j0 a0 a1 a2 y_4 y_6 y_8 (decide (y_10 < 0))) else (law01_ValueChain.j0 a0 a1 a2 y_4 y_6 y_8 false)) else (law01_ValueChain.j0 a0 a1 a2 y_4 y_6 y_8 false))) else (if (decide (y_6 ≥ 0)) = true then (if (decide (y_8 ≥ 0)) = true then (law01_ValueChain.j0 a0 a1 a2 y_4 y_6 y_8 (decide (y_10 < 0))) else (law01_ValueChain.j0 a0 a1 a2 y_4 y_6 y_8 false)) else (law01_ValueChain.j0 a0 a1 a2 y_4 y_6 y_8 false))) else (if (decide (y_6 ≥ 0)) = true then (if (decide (y_8 ≥ 0)) = true then (law01_ValueChain.j0 a0 a1 a2 y_4 y_6 y_8 (decide (y_10 < 0))) else (law01_ValueChain.j0 a0 a1 a2 y_4 y_6 y_8 false)) else (law01_ValueChain.j0 a0 a1 a2 y_4 y_6 y_8 false)))))))

/-! ### catchment/catchmentref01.Add -/
def ref01_Add.l1 (a0 : api_Value) (a1 : api_Value) : Nat → Arr8 → Int → Option (api_Value × Int)
  | 0, _, _ => none
  | k + 1, x_25, x_26 => (if (decide (x_26 < 8)) = true then ((Arr8.ix a0.H x_26).bind fun y_54 => ((Arr8.ix a1.H x_26).bind fun y_56 => ((Arr8.ix x_25 x_26).bind fun y_58 => ((Arr8.put x_25 x_26 (IntKind.i64.wrap (y_54 + y_56))).bind fun y_60 => (ref01_Add.l1 a0 a1 k y_60 (IntKind.i64.wrap (x_26 + 1))))))) else some ((⟨a0.Kind, IntKind.i64.wrap (a0.N + a1.N), a0.S, x_25⟩ : api_Value), 0))

def ref01_Add.j0 (a0 : api_Value) (a1 : api_Value) (x_12 : Bool) : Option (api_Value × Int) :=
  (if x_12 = true then some ((⟨0, 0, (⟨#[]⟩ : ByteArray), (⟨0, 0, 0, 0, 0, 0, 0, 0⟩ : Arr8)⟩ : api_Value), 10) else (ref01_Add.l1 a0 a1 (((8 : Int) - 0).toNat + 1) a0.H 0))

def ref01_Add (a0 : api_Value) (a1 : api_Value) : Option (api_Value × Int) :=
  ((ref01_Valid a0).bind fun y_14 => (if (!y_14) = true then (ref01_Add.j0 a0 a1 true) else ((ref01_Valid a1).bind fun y_17 => (if (!y_17) = true then (ref01_Add.j0 a0 a1 true) else (if (a0.Kind != a1.Kind) = true then (ref01_Add.j0 a0 a1 true) else (if (a0.Kind != 1) = true then (ref01_Add.j0 a0 a1 (a0.Kind != 4)) else (ref01_Add.j0 a0 a1 false)))))))

/-! ### catchment/catchmentlaw01.ValueAdds -/
def law01_ValueAdds (a0 : api_Value) (a1 : api_Value) : Option Bool :=
  ((law01_shown).bind fun y_3 => ((value_Add a0 a1).bind fun y_5 => ((ref01_Add a0 a1).bind fun y_8 => ((value_Add a1 a0).bind fun y_11 => (if y_3 = true then (if (decide (y_5.1 = y_8.1)) = true then (if (y_5.2 == y_8.2) = true then (if (decide (y_5.1 = y_11.1)) = true then some (y_5.2 == y_11.2) else some false) else some false) else some false) else some false)))))

/-! ### catchment/catchmentlaw01.ValueSums -/
def law01_ValueSums.j1 (a0 : Arr8) (y_4 : Bool) (y_9 : api_Value × Int) (y_12 : api_Value × Int) (y_14 : api_Value × Int) (y_17 : api_Value × Int) (x_68 : Int) (y_120 : api_Value × Int) (x_167 : Int) (x_168 : Int) (x_169 : ByteArray) (x_170 : Arr8) (x_171 : Int) : Option Bool :=
  ((value_OfInt a0.a0).bind fun y_221 => ((value_Add y_221 (⟨x_167, x_168, x_169, x_170⟩ : api_Value)).bind fun y_223 => (if y_4 = true then (if (y_9.2 == 0) = true then (if (y_12.2 == 0) = true then (if (y_14.2 == 0) = true then (if (y_17.2 == 0) = true then (if (x_68 == 0) = true then (if (y_120.2 == 0) = true then (if (x_171 == 0) = true then (if (y_223.2 == 0) = true then (if (decide (y_12.1 = y_17.1)) = true then some (decide (y_120.1 = y_223.1)) else some false) else some false) else some false) else some false) else some false) else some false) else some false) else some false) else some false) else some false)))

def law01_ValueSums.j0 (a0 : Arr8) (a1 : Arr8) (a2 : Arr8) (y_4 : Bool) (y_9 : api_Value × Int) (y_12 : api_Value × Int) (y_14 : api_Value × Int) (y_17 : api_Value × Int) (x_64 : Int) (x_65 : Int) (x_66 : ByteArray) (x_67 : Arr8) (x_68 : Int) : Option Bool :=
  ((value_OfInt a2.a0).bind fun y_118 => ((value_Add (⟨x_64, x_65, x_66, x_67⟩ : api_Value) y_118).bind fun y_120 => ((value_OfInt a1.a0).bind fun y_195 => ((value_OfInt a2.a0).bind fun y_197 => ((value_Add y_195 y_197).bind fun y_199 => (law01_ValueSums.j1 a0 y_4 y_9 y_12 y_14 y_17 x_68 y_120 y_199.1.Kind y_199.1.N y_199.1.S y_199.1.H y_199.2))))))

def law01_ValueSums (a0 : Arr8) (a1 : Arr8) (a2 : Arr8) : Option Bool :=
  ((law01_shown).bind fun y_4 => ((value_Add (⟨4, 0, (⟨#[]⟩ : ByteArray), a0⟩ : api_Value) (⟨4, 0, (⟨#[]⟩ : ByteArray), a1⟩ : api_Value)).bind fun y_9 => ((value_Add y_9.1 (⟨4, 0, (⟨#[]⟩ : ByteArray), a2⟩ : api_Value)).bind fun y_12 => ((value_Add (⟨4, 0, (⟨#[]⟩ : ByteArray), a1⟩ : api_Value) (⟨4, 0, (⟨#[]⟩ : ByteArray), a2⟩ : api_Value)).bind fun y_14 => ((value_Add (⟨4, 0, (⟨#[]⟩ : ByteArray), a0⟩ : api_Value) y_14.1).bind fun y_17 => ((value_OfInt a0.a0).bind fun y_92 => ((value_OfInt a1.a0).bind fun y_94 => ((value_Add y_92 y_94).bind fun y_96 => (law01_ValueSums.j0 a0 a1 a2 y_4 y_9 y_12 y_14 y_17 y_96.1.Kind y_96.1.N y_96.1.S y_96.1.H y_96.2)))))))))

/-! ### catchment/catchmentref01.Bucket -/
def ref01_Bucket.j1 (kl0 : Int → Int → Option api_Value) (x_4 : Int) (x_5 : Int) (x_13 : Bool) : Option api_Value :=
  (if x_13 = true then (kl0 (IntKind.i64.wrap (x_4 + 1)) (IntKind.i64.wrap (x_5 * 10))) else ((Arr8.ix (⟨0, 0, 0, 0, 0, 0, 0, 0⟩ : Arr8) x_4).bind fun y_18 => ((Arr8.put (⟨0, 0, 0, 0, 0, 0, 0, 0⟩ : Arr8) x_4 1).bind fun y_20 => some (⟨4, 0, (⟨#[]⟩ : ByteArray), y_20⟩ : api_Value))))

def ref01_Bucket.l0 (a0 : Int) : Nat → Int → Int → Option api_Value
  | 0, _, _ => none
  | k + 1, x_4, x_5 => (if (decide (x_4 < 7)) = true then (ref01_Bucket.j1 (ref01_Bucket.l0 a0 k) x_4 x_5 (decide (a0 ≥ x_5))) else (ref01_Bucket.j1 (ref01_Bucket.l0 a0 k) x_4 x_5 false))

def ref01_Bucket (a0 : Int) : Option api_Value :=
  (ref01_Bucket.l0 a0 (((7 : Int) - 0).toNat + 1) 0 1)

/-! ### catchment/catchmentlaw01.ValueBuckets -/
def law01_ValueBuckets.j2 (kl0 : Int → Int → Int → Int → Option Bool) (x_36 : Int) (x_37 : Int) (y_55 : Int) (x_60 : Int) (x_66 : Int) : Option Bool :=
  (kl0 x_60 x_66 (IntKind.i64.wrap (x_36 + y_55)) (IntKind.i64.wrap (x_37 + 1)))

def law01_ValueBuckets.j1 (kl0 : Int → Int → Int → Int → Option Bool) (y_6 : api_Value) (x_35 : Int) (x_36 : Int) (x_37 : Int) (y_55 : Int) (x_60 : Int) : Option Bool :=
  ((Arr8.ix y_6.H x_37).bind fun y_63 => (if (y_63 == 1) = true then (law01_ValueBuckets.j2 kl0 x_36 x_37 y_55 x_60 x_37) else (law01_ValueBuckets.j2 kl0 x_36 x_37 y_55 x_60 x_35)))

def law01_ValueBuckets.l0 (a0 : Int) (a1 : Int) (y_1 : Bool) (y_3 : api_Value) (y_6 : api_Value) : Nat → Int → Int → Int → Int → Option Bool
  | 0, _, _, _, _ => none
  | k + 1, x_34, x_35, x_36, x_37 => (if (decide (x_37 < 8)) = true then ((Arr8.ix y_3.H x_37).bind fun y_55 => ((Arr8.ix y_3.H x_37).bind fun y_57 => (if (y_57 == 1) = true then (law01_ValueBuckets.j1 (law01_ValueBuckets.l0 a0 a1 y_1 y_3 y_6 k) y_6 x_35 x_36 x_37 y_55 x_37) else (law01_ValueBuckets.j1 (law01_ValueBuckets.l0 a0 a1 y_1 y_3 y_6 k) y_6 x_35 x_36 x_37 y_55 x_34)))) else (if y_1 = true then ((ref01_Bucket a0).bind fun y_76 => (if (decide (y_3 = y_76)) = true then (if (x_36 == 1) = true then (if (decide (a0 > a1)) = true then some true else some (decide (x_34 ≤ x_35))) else some false) else some false)) else some false))

def law01_ValueBuckets (a0 : Int) (a1 : Int) : Option Bool :=
  ((law01_shown).bind fun y_1 => ((value_Bucket a0).bind fun y_3 => ((value_Bucket a1).bind fun y_6 => (law01_ValueBuckets.l0 a0 a1 y_1 y_3 y_6 (((8 : Int) - 0).toNat + 1) 0 0 0 0))))

/-! ### catchment/catchmentref01.OfInt -/
def ref01_OfInt (a0 : Int) : Option api_Value :=
  some (⟨1, a0, (⟨#[]⟩ : ByteArray), (⟨0, 0, 0, 0, 0, 0, 0, 0⟩ : Arr8)⟩ : api_Value)

/-! ### catchment/catchmentref01.OfStr -/
def ref01_OfStr (a0 : ByteArray) : Option api_Value :=
  ((cuts a0 0 (min (a0.size : Int) 64)).bind fun y_2 => some (⟨2, 0, y_2, (⟨0, 0, 0, 0, 0, 0, 0, 0⟩ : Arr8)⟩ : api_Value))

/-! ### catchment/catchmentref01.OfBool -/
def ref01_OfBool (a0 : Bool) : Option api_Value :=
  (if a0 = true then some (⟨3, 1, (⟨#[]⟩ : ByteArray), (⟨0, 0, 0, 0, 0, 0, 0, 0⟩ : Arr8)⟩ : api_Value) else some (⟨3, 0, (⟨#[]⟩ : ByteArray), (⟨0, 0, 0, 0, 0, 0, 0, 0⟩ : Arr8)⟩ : api_Value))

/-! ### catchment/catchmentlaw01.ValueMakes -/
def law01_ValueMakes (a0 : Int) (a1 : ByteArray) (a2 : Bool) : Option Bool :=
  ((law01_shown).bind fun y_1 => ((value_OfInt a0).bind fun y_3 => ((value_OfStr a1).bind fun y_6 => ((value_OfBool a2).bind fun y_9 => (if y_1 = true then ((ref01_OfInt a0).bind fun y_31 => (if (decide (y_3 = y_31)) = true then ((ref01_OfStr a1).bind fun y_34 => (if (decide (y_6 = y_34)) = true then ((ref01_OfBool a2).bind fun y_37 => (if (decide (y_9 = y_37)) = true then ((value_Valid y_3).bind fun y_40 => (if y_40 = true then ((value_Valid y_6).bind fun y_43 => (if y_43 = true then ((value_Valid y_9).bind fun y_46 => some y_46) else some false)) else some false)) else some false)) else some false)) else some false)) else some false)))))

/-! ### catchment/catchmentlaw01.ValueHow -/
def law01_ValueHow.j0 (x_24 : Bool) : Option Bool :=
  some x_24

def law01_ValueHow (a0 : api_Value) (a1 : api_Value) : Option Bool :=
  ((law01_shown).bind fun y_3 => ((value_Holds 1 a0 a1).bind fun y_5 => ((value_Holds 3 a0 a1).bind fun y_7 => ((value_Holds 5 a0 a1).bind fun y_9 => (if (a0.Kind != a1.Kind) = true then (if y_3 = true then (if (!y_5) = true then (if (!y_7) = true then (if (!y_9) = true then ((value_Holds 2 a0 a1).bind fun y_30 => (if (!y_30) = true then ((value_Holds 4 a0 a1).bind fun y_33 => (if (!y_33) = true then ((value_Holds 6 a0 a1).bind fun y_36 => (law01_ValueHow.j0 (!y_36))) else (law01_ValueHow.j0 false))) else (law01_ValueHow.j0 false))) else (law01_ValueHow.j0 false)) else (law01_ValueHow.j0 false)) else (law01_ValueHow.j0 false)) else (law01_ValueHow.j0 false)) else (if y_3 = true then ((value_Holds 2 a0 a1).bind fun y_39 => (if (y_39 == (!y_5)) = true then ((value_Holds 4 a0 a1).bind fun y_42 => (if (y_42 == (!y_9)) = true then ((value_Holds 6 a0 a1).bind fun y_45 => (if (y_45 == (!y_7)) = true then (if y_5 = true then (if (!y_7) = true then (if (!y_9) = true then ((value_Holds 3 a1 a0).bind fun y_51 => some (y_9 == y_51)) else some false) else some false) else (if y_7 = true then ((value_Holds 3 a1 a0).bind fun y_54 => some (y_9 == y_54)) else (if y_9 = true then ((value_Holds 3 a1 a0).bind fun y_57 => some (y_9 == y_57)) else some false))) else some false)) else some false)) else some false)) else some false))))))

/-! ### catchment/catchmentlaw01.ValueTells -/
def law01_ValueTells.j0 (a0 : api_Value) (a1 : api_Value) (y_3 : Bool) (x_10 : Bool) : Option Bool :=
  (if x_10 = true then some y_3 else (if y_3 = true then ((value_Text a0).bind fun y_27 => ((value_Text a1).bind fun y_29 => (if ((y_27.toList == y_29.toList) == (decide (a0 = a1))) = true then ((value_Text a0).bind fun y_32 => some (!(y_32.toList == (⟨#[]⟩ : ByteArray).toList))) else some false))) else some false))

def law01_ValueTells (a0 : api_Value) (a1 : api_Value) : Option Bool :=
  ((law01_shown).bind fun y_3 => ((value_Valid a0).bind fun y_12 => (if (!y_12) = true then (law01_ValueTells.j0 a0 a1 y_3 true) else ((value_Valid a1).bind fun y_15 => (law01_ValueTells.j0 a0 a1 y_3 (!y_15))))))

/-! ### catchment/catchmentlaw01.ValueNoughts -/
def law01_ValueNoughts (a0 : Int) (a1 : Arr8) : Option Bool :=
  ((law01_shown).bind fun y_2 => ((value_OfInt a0).bind fun y_4 => ((value_OfInt 0).bind fun y_6 => ((value_Add y_4 y_6).bind fun y_8 => ((value_OfInt a0).bind fun y_11 => ((value_OfInt (IntKind.i64.wrap (0 - a0))).bind fun y_13 => ((value_Add y_11 y_13).bind fun y_15 => ((value_Add (⟨4, 0, (⟨#[]⟩ : ByteArray), a1⟩ : api_Value) (⟨4, 0, (⟨#[]⟩ : ByteArray), (⟨0, 0, 0, 0, 0, 0, 0, 0⟩ : Arr8)⟩ : api_Value)).bind fun y_19 => (if y_2 = true then (if (y_8.2 == 0) = true then (if (y_15.2 == 0) = true then (if (y_19.2 == 0) = true then ((value_OfInt a0).bind fun y_36 => (if (decide (y_8.1 = y_36)) = true then ((value_OfInt 0).bind fun y_39 => (if (decide (y_15.1 = y_39)) = true then some (decide (y_19.1 = (⟨4, 0, (⟨#[]⟩ : ByteArray), a1⟩ : api_Value))) else some false)) else some false)) else some false) else some false) else some false) else some false)))))))))

end
end Go.Proofs.YtmohocmmelaeaaaDoor.M
