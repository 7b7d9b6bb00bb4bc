/- The functions that the laws come to, as plain Lean functions over numbers and lists (none: Go would panic, or the bound on rounds is used up). Printed by wip/eng/gen.py. -/
import Derived.Test.YtojfckndloelpaaEngL
namespace Go.Proofs.Ytojfckndloelpaa.M
open Go Go.Eng Go.Proofs Go.RowKit
set_option linter.unusedVariables false
set_option maxRecDepth 100000
noncomputable section

structure api_Col where
  Name : ByteArray
  Kind : Int
  deriving DecidableEq
def ty_api_Col : Ty api_Col := Ty.flat 2 (fun x => [.string x.Name, .int .i64 x.Kind]) (fun _ => rfl) (fun _ => all_cons rfl (all_cons rfl (all_nil)))
def ok_api_Col (x : api_Col) : Prop := (fun s => s.size ≤ 140737488351232) x.Name ∧ (fun x => (Lit.int .i64 x).wf = true) x.Kind

structure api_Value where
  Kind : Int
  N : Int
  S : ByteArray
  H : Arr8
  deriving DecidableEq
def ty_api_Value : Ty api_Value := Ty.flat 11 (fun x => [.int .i64 x.Kind, .int .i64 x.N, .string x.S, .int .i64 x.H.a0, .int .i64 x.H.a1, .int .i64 x.H.a2, .int .i64 x.H.a3, .int .i64 x.H.a4, .int .i64 x.H.a5, .int .i64 x.H.a6, .int .i64 x.H.a7]) (fun _ => rfl) (fun _ => all_cons rfl (all_cons rfl (all_cons rfl (all_cons rfl (all_cons rfl (all_cons rfl (all_cons rfl (all_cons rfl (all_cons rfl (all_cons rfl (all_cons rfl (all_nil))))))))))))
def ok_api_Value (x : api_Value) : Prop := (fun x => (Lit.int .i64 x).wf = true) x.Kind ∧ (fun x => (Lit.int .i64 x).wf = true) x.N ∧ (fun s => s.size ≤ 140737488351232) x.S ∧ ok_Arr8 x.H

structure api_Table where
  Cols : List api_Col
  Rows : List (List api_Value)
  deriving DecidableEq
def ty_api_Table : Ty api_Table where
  n := 2
  rep := fun R cs x => ∃ v0 v1, cs = [v0, v1] ∧ SlR ty_api_Col R v0 x.Cols ∧ SlR (tySl ty_api_Value) R v1 x.Rows
  mono := fun hR ⟨v0, v1, h, h0, h1⟩ => ⟨v0, v1, h, h0.mono hR, h1.mono hR⟩
  len := fun ⟨v0, v1, h, h0, h1⟩ => by subst h; rfl
  one := fun ⟨v0, v1, h, h0, h1⟩ => by subst h; exact all_cons h0.one (all_cons h1.one (all_nil))
def ok_api_Table (x : api_Table) : Prop := (fun xs => xs.length * 24 ≤ 140737488351232 ∧ ∀ x ∈ xs, ok_api_Col x) x.Cols ∧ (fun xs => xs.length * 24 ≤ 140737488351232 ∧ ∀ x ∈ xs, (fun xs => xs.length * 96 ≤ 140737488351232 ∧ ∀ x ∈ xs, ok_api_Value x) x) x.Rows

/-! ### catchment/catchmentlaw02.small -/
def law02_small.l0 (a0 : ByteArray) (a1 : List Int) : Nat → (List api_Col) → (List (List api_Value)) → Int → Option api_Table
  | 0, _, _, _ => none
  | k + 1, x_64, x_69, x_73 => (if (decide (x_73 < (a0.size : Int))) = true then ((cuts a0 x_73 (IntKind.i64.wrap (x_73 + 1))).bind fun y_148 => ((ix a1 x_73).bind fun y_150 => ((apd 24 x_69 [[(⟨2, 0, y_148, (⟨0, 0, 0, 0, 0, 0, 0, 0⟩ : Arr8)⟩ : api_Value), (⟨1, y_150, (⟨#[]⟩ : ByteArray), (⟨0, 0, 0, 0, 0, 0, 0, 0⟩ : Arr8)⟩ : api_Value)]]).bind fun y_164 => (law02_small.l0 a0 a1 k x_64 y_164 (IntKind.i64.wrap (x_73 + 1)))))) else some (⟨x_64, x_69⟩ : api_Table))

def law02_small (a0 : ByteArray) (a1 : List Int) : Option api_Table :=
  (law02_small.l0 a0 a1 (((a0.size : Int) - 0).toNat + 1) [(⟨(⟨#[107]⟩ : ByteArray), 2⟩ : api_Col), (⟨(⟨#[110]⟩ : ByteArray), 1⟩ : api_Col)] [] 0)

/-! ### slices.Clone[[]catchment/api.Col,catchment/api.Col] -/
def slices_Clone_api_Col_api_Col (a0 : List api_Col) : Option (List api_Col) :=
  ((apd 24 ([] : List api_Col) a0).bind fun y_4 => some y_4)

/-! ### slices.Clone[[]catchment/api.Value,catchment/api.Value] -/
def slices_Clone_api_Value_api_Value (a0 : List api_Value) : Option (List api_Value) :=
  ((apd 96 ([] : List api_Value) a0).bind fun y_4 => some y_4)

/-! ### cmp.isNaN[int] -/
def cmp_isNaN_int (a0 : Int) : Option Bool :=
  some (a0 != a0)

/-! ### cmp.Compare[int] -/
def cmp_Compare_int (a0 : Int) (a1 : Int) : Option Int :=
  ((cmp_isNaN_int a0).bind fun y_1 => ((cmp_isNaN_int a1).bind fun y_3 => (if y_1 = true then (if y_3 = true then some 0 else some (-1)) else (if y_3 = true then some 1 else (if (decide (a0 < a1)) = true then some (-1) else (if (decide (a0 > a1)) = true then some 1 else some 0))))))

/-! ### internal/bytealg.CompareString -/
def internal_bytealg_CompareString (a0 : ByteArray) (a1 : ByteArray) : Option Int :=
  some (Lib.compareBytes a0.data.toList a1.data.toList)

/-! ### strings.Compare -/
def strings_Compare (a0 : ByteArray) (a1 : ByteArray) : Option Int :=
  ((internal_bytealg_CompareString a0 a1).bind fun y_1 => some y_1)

/-! ### slices.Compare[[]int,int] -/
def slices_Compare_int_int.l0 (a0 : List Int) (a1 : List Int) : Nat → Int → Option Int
  | 0, _ => none
  | k + 1, x_25 => (if (decide (x_25 < (a0.length : Int))) = true then ((ix a0 x_25).bind fun y_51 => (if (decide (x_25 ≥ (a1.length : Int))) = true then some 1 else ((ix a1 x_25).bind fun y_61 => ((cmp_Compare_int y_51 y_61).bind fun y_70 => (if (y_70 != 0) = true then some y_70 else (slices_Compare_int_int.l0 a0 a1 k (IntKind.i64.wrap (x_25 + 1)))))))) else (if (decide ((a0.length : Int) < (a1.length : Int))) = true then some (-1) else some 0))

def slices_Compare_int_int (a0 : List Int) (a1 : List Int) : Option Int :=
  (slices_Compare_int_int.l0 a0 a1 (((a0.length : Int) - 0).toNat + 1) 0)

/-! ### cmp.Or[int] -/
def cmp_Or_int.l0 (a0 : List Int) : Nat → Int → Option Int
  | 0, _ => none
  | k + 1, x_13 => (if (decide (x_13 < (a0.length : Int))) = true then ((ix a0 x_13).bind fun y_27 => (if (y_27 != 0) = true then some y_27 else (cmp_Or_int.l0 a0 k (IntKind.i64.wrap (x_13 + 1))))) else some 0)

def cmp_Or_int (a0 : List Int) : Option Int :=
  (cmp_Or_int.l0 a0 (((a0.length : Int) - 0).toNat + 1) 0)

/-! ### catchment/value.Compare -/
def value_Compare (a0 : api_Value) (a1 : api_Value) : Option Int :=
  ((cmp_Compare_int a0.Kind a1.Kind).bind fun y_14 => ((cmp_Compare_int a0.N a1.N).bind fun y_16 => ((strings_Compare a0.S a1.S).bind fun y_18 => ((slices_Compare_int_int a0.H.list a1.H.list).bind fun y_20 => ((cmp_Or_int [y_14, y_16, y_18, y_20]).bind fun y_23 => some y_23)))))

/-! ### slices.CompareFunc[[]catchment/api.Value,[]catchment/api.Value,catchment/api.Value,catchment/api.Value] -/
def slices_CompareFunc_api_Value_api_Value_api_Value_api_Value_f_value_Compare.l0 (a0 : List api_Value) (a1 : List api_Value) : Nat → Int → Option Int
  | 0, _ => none
  | k + 1, x_27 => (if (decide (x_27 < (a0.length : Int))) = true then ((ix a0 x_27).bind fun y_55 => (if (decide (x_27 ≥ (a1.length : Int))) = true then some 1 else ((ix a1 x_27).bind fun y_66 => ((value_Compare y_55 y_66).bind fun y_76 => (if (y_76 != 0) = true then some y_76 else (slices_CompareFunc_api_Value_api_Value_api_Value_api_Value_f_value_Compare.l0 a0 a1 k (IntKind.i64.wrap (x_27 + 1)))))))) else (if (decide ((a0.length : Int) < (a1.length : Int))) = true then some (-1) else some 0))

def slices_CompareFunc_api_Value_api_Value_api_Value_api_Value_f_value_Compare (a0 : List api_Value) (a1 : List api_Value) : Option Int :=
  (slices_CompareFunc_api_Value_api_Value_api_Value_api_Value_f_value_Compare.l0 a0 a1 (((a0.length : Int) - 0).toNat + 1) 0)

/-! ### catchment/table.order -/
def table_order (a0 : List api_Value) (a1 : List api_Value) : Option Int :=
  ((slices_CompareFunc_api_Value_api_Value_api_Value_api_Value_f_value_Compare a0 a1).bind fun y_1 => some y_1)

/-! ### slices.SortFunc[[][]catchment/api.Value,[]catchment/api.Value] -/
noncomputable def slices_SortFunc_api_Value_api_Value_f_table_order (a0 : List (List api_Value)) : Option (List (List api_Value)) := sortBy table_order a0

/-! ### catchment/table.Canon -/
def table_Canon.l0 (a0 : api_Table) (y_3 : List api_Col) : Nat → (List (List api_Value)) → Int → Option api_Table
  | 0, _, _ => none
  | k + 1, x_73, x_77 => (if (decide (x_77 < (a0.Rows.length : Int))) = true then ((ix a0.Rows x_77).bind fun y_133 => ((slices_Clone_api_Value_api_Value y_133).bind fun y_163 => ((apd 24 x_73 [y_163]).bind fun y_176 => (table_Canon.l0 a0 y_3 k y_176 (IntKind.i64.wrap (x_77 + 1)))))) else ((slices_SortFunc_api_Value_api_Value_f_table_order x_73).bind fun y_182 => some (⟨y_3, y_182⟩ : api_Table)))

def table_Canon (a0 : api_Table) : Option api_Table :=
  ((slices_Clone_api_Col_api_Col a0.Cols).bind fun y_3 => (table_Canon.l0 a0 y_3 (((a0.Rows.length : Int) - 0).toNat + 1) [] 0))

/-! ### catchment/table.Name -/
def table_Name.j2 (kl0 : Int → Option Bool) (a0 : ByteArray) (x_11 : Int) : Option Bool :=
  (kl0 (IntKind.i64.wrap (x_11 + 1)))

def table_Name.j3 (kl0 : Int → Option Bool) (a0 : ByteArray) (x_11 : Int) (x_77 : Bool) : Option Bool :=
  (if x_77 = true then (table_Name.j2 kl0 a0 x_11) else some false)

def table_Name.j1 (kl0 : Int → Option Bool) (a0 : ByteArray) (x_11 : Int) (y_50 : Int) (x_53 : Bool) : Option Bool :=
  (if x_53 = true then (table_Name.j2 kl0 a0 x_11) else (if (decide (x_11 > 0)) = true then (if (decide (y_50 ≥ 48)) = true then (if (decide (y_50 ≤ 57)) = true then (table_Name.j3 kl0 a0 x_11 true) else (if (y_50 == 95) = true then (table_Name.j3 kl0 a0 x_11 true) else (table_Name.j3 kl0 a0 x_11 (y_50 == 35)))) else (if (y_50 == 95) = true then (table_Name.j3 kl0 a0 x_11 true) else (table_Name.j3 kl0 a0 x_11 (y_50 == 35)))) else (table_Name.j3 kl0 a0 x_11 false)))

def table_Name.l0 (a0 : ByteArray) : Nat → Int → Option Bool
  | 0, _ => none
  | k + 1, x_11 => (if (decide (x_11 < (a0.size : Int))) = true then ((ixs a0 x_11).bind fun y_50 => (if (decide (y_50 ≥ 97)) = true then (table_Name.j1 (table_Name.l0 a0 k) a0 x_11 y_50 (decide (y_50 ≤ 122))) else (table_Name.j1 (table_Name.l0 a0 k) a0 x_11 y_50 false))) else (if (decide ((a0.size : Int) ≥ 1)) = true then some (decide ((a0.size : Int) ≤ 24)) else some false))

def table_Name (a0 : ByteArray) : Option Bool :=
  (table_Name.l0 a0 (((a0.size : Int) - 0).toNat + 1) 0)

/-! ### catchment/table.Find$1 -/
def table_Find_1_cp (a0 : api_Col) (a1 : ByteArray) : Option Bool :=
  some (a0.Name.toList == a1.toList)

/-! ### slices.IndexFunc[[]catchment/api.Col,catchment/api.Col] -/
def slices_IndexFunc_api_Col_api_Col_f_table_Find_1p.l0 (a0 : List api_Col) (a1_0 : ByteArray) : Nat → Int → Option Int
  | 0, _ => none
  | k + 1, x_15 => (if (decide (x_15 < (a0.length : Int))) = true then ((ix a0 x_15).bind fun y_31 => ((table_Find_1_cp y_31 a1_0).bind fun y_40 => (if y_40 = true then some x_15 else (slices_IndexFunc_api_Col_api_Col_f_table_Find_1p.l0 a0 a1_0 k (IntKind.i64.wrap (x_15 + 1)))))) else some (-1))

def slices_IndexFunc_api_Col_api_Col_f_table_Find_1p (a0 : List api_Col) (a1_0 : ByteArray) : Option Int :=
  (slices_IndexFunc_api_Col_api_Col_f_table_Find_1p.l0 a0 a1_0 (((a0.length : Int) - 0).toNat + 1) 0)

/-! ### catchment/table.Find -/
def table_Find (a0 : List api_Col) (a1 : ByteArray) : Option Int :=
  ((slices_IndexFunc_api_Col_api_Col_f_table_Find_1p a0 a1).bind fun y_2 => some y_2)

/-! ### catchment/table.columns -/
def table_columns.j1 (kl0 : Int → Option Bool) (a0 : List api_Col) (x_30 : Int) (x_78 : Bool) : Option Bool :=
  (if x_78 = true then some false else (kl0 (IntKind.i64.wrap (x_30 + 1))))

def table_columns.l0 (a0 : List api_Col) : Nat → Int → Option Bool
  | 0, _ => none
  | k + 1, x_30 => (if (decide (x_30 < (a0.length : Int))) = true then ((ix a0 x_30).bind fun y_61 => ((table_Name y_61.Name).bind fun y_80 => (if (!y_80) = true then (table_columns.j1 (table_columns.l0 a0 k) a0 x_30 true) else (if (decide (y_61.Kind < 1)) = true then (table_columns.j1 (table_columns.l0 a0 k) a0 x_30 true) else (if (decide (y_61.Kind > 4)) = true then (table_columns.j1 (table_columns.l0 a0 k) a0 x_30 true) else ((table_Find a0 y_61.Name).bind fun y_85 => (table_columns.j1 (table_columns.l0 a0 k) a0 x_30 (y_85 != x_30)))))))) else (if (decide ((a0.length : Int) ≥ 1)) = true then some (decide ((a0.length : Int) ≤ 16)) else some false))

def table_columns (a0 : List api_Col) : Option Bool :=
  (table_columns.l0 a0 (((a0.length : Int) - 0).toNat + 1) 0)

/-! ### catchment/value.Valid -/
def value_Valid.j0 (x_59 : Int) (x_60 : ByteArray) (x_61 : Arr8) (x_62 : Bool) : Option Bool :=
  (if x_62 = true then some (decide ((⟨0, x_59, x_60, x_61⟩ : api_Value) = (⟨0, 0, (⟨#[]⟩ : ByteArray), (⟨0, 0, 0, 0, 0, 0, 0, 0⟩ : Arr8)⟩ : api_Value))) else some false)

def value_Valid.j1 (x_90 : Int) (x_91 : ByteArray) (x_92 : Arr8) (x_93 : Bool) : Option Bool :=
  (value_Valid.j0 x_90 x_91 x_92 x_93)

def value_Valid.j2 (a0 : api_Value) (x_106 : Int) (x_107 : Arr8) (x_108 : Bool) : Option Bool :=
  (value_Valid.j1 x_106 a0.S x_107 x_108)

def value_Valid.j3 (a0 : api_Value) (x_112 : Bool) : Option Bool :=
  (value_Valid.j2 a0 0 a0.H x_112)

def value_Valid.j4 (a0 : api_Value) (x_116 : Arr8) (x_117 : Bool) : Option Bool :=
  (value_Valid.j2 a0 a0.N x_116 x_117)

def value_Valid (a0 : api_Value) : Option Bool :=
  (if (a0.Kind == 1) = true then (value_Valid.j0 0 a0.S a0.H true) else (if (a0.Kind == 2) = true then (value_Valid.j1 a0.N (⟨#[]⟩ : ByteArray) a0.H (decide ((a0.S.size : Int) ≤ 64))) else (if (a0.Kind == 3) = true then (if (a0.N == 0) = true then (value_Valid.j3 a0 true) else (value_Valid.j3 a0 (a0.N == 1))) else (if (a0.Kind == 4) = true then (value_Valid.j4 a0 (⟨0, 0, 0, 0, 0, 0, 0, 0⟩ : Arr8) true) else (value_Valid.j4 a0 a0.H false)))))

/-! ### catchment/table.Check -/
def table_Check.j2 (kl1 : Int → Option Int) (y_413 : List api_Value) (x_488 : Int) (x_587 : Bool) : Option Int :=
  (if x_587 = true then some 21 else (kl1 (IntKind.i64.wrap (x_488 + 1))))

def table_Check.l1 (kl0 : Int → Option Int) (a0 : api_Table) (x_208 : Int) (y_413 : List api_Value) : Nat → Int → Option Int
  | 0, _ => none
  | k + 1, x_488 => (if (decide (x_488 < (y_413.length : Int))) = true then ((ix y_413 x_488).bind fun y_553 => ((ix a0.Cols x_488).bind fun y_601 => (if (y_553.Kind != y_601.Kind) = true then (table_Check.j2 (table_Check.l1 kl0 a0 x_208 y_413 k) y_413 x_488 true) else ((value_Valid y_553).bind fun y_611 => (table_Check.j2 (table_Check.l1 kl0 a0 x_208 y_413 k) y_413 x_488 (!y_611)))))) else (kl0 (IntKind.i64.wrap (x_208 + 1))))

def table_Check.l0 (a0 : api_Table) : Nat → Int → Option Int
  | 0, _ => none
  | k + 1, x_208 => (if (decide (x_208 < (a0.Rows.length : Int))) = true then ((ix a0.Rows x_208).bind fun y_413 => (if ((y_413.length : Int) != (a0.Cols.length : Int)) = true then some 21 else (table_Check.l1 (table_Check.l0 a0 k) a0 x_208 y_413 (((y_413.length : Int) - 0).toNat + 1) 0))) else some 0)

def table_Check (a0 : api_Table) : Option Int :=
  ((table_columns a0.Cols).bind fun y_2 => (if (!y_2) = true then some 20 else (table_Check.l0 a0 (((a0.Rows.length : Int) - 0).toNat + 1) 0)))

/-! ### slices.Index[[]int,int] -/
def slices_Index_int_int.l0 (a0 : List Int) (a1 : Int) : Nat → Int → Option Int
  | 0, _ => none
  | k + 1, x_13 => (if (decide (x_13 < (a0.length : Int))) = true then ((ix a0 x_13).bind fun y_27 => (if (a1 == y_27) = true then some x_13 else (slices_Index_int_int.l0 a0 a1 k (IntKind.i64.wrap (x_13 + 1))))) else some (-1))

def slices_Index_int_int (a0 : List Int) (a1 : Int) : Option Int :=
  (slices_Index_int_int.l0 a0 a1 (((a0.length : Int) - 0).toNat + 1) 0)

/-! ### slices.Contains[[]int,int] -/
def slices_Contains_int_int (a0 : List Int) (a1 : Int) : Option Bool :=
  ((slices_Index_int_int a0 a1).bind fun y_1 => some (decide (y_1 ≥ 0)))

/-! ### catchment/table.Keep -/
def table_Keep.j1 (kl0 : (List api_Col) → (List Int) → Int → Option (api_Table × Int)) (a0 : api_Table) (a1 : List ByteArray) (x_83 : List api_Col) (x_88 : List Int) (x_92 : Int) (y_172 : Int) (x_177 : Bool) : Option (api_Table × Int) :=
  (if x_177 = true then some ((⟨([] : List api_Col), ([] : List (List api_Value))⟩ : api_Table), 20) else ((apd 8 x_88 [y_172]).bind fun y_188 => ((ix a0.Cols y_172).bind fun y_210 => ((apd 24 x_83 [y_210]).bind fun y_220 => (kl0 y_220 y_188 (IntKind.i64.wrap (x_92 + 1)))))))

def table_Keep.l3 (kl2 : (List (List api_Value)) → Int → Option (api_Table × Int)) (a0 : api_Table) (x_88 : List Int) (x_347 : List (List api_Value)) (x_351 : Int) (y_467 : List api_Value) : Nat → (List api_Value) → Int → Option (api_Table × Int)
  | 0, _, _ => none
  | k + 1, x_507, x_511 => (if (decide (x_511 < (x_88.length : Int))) = true then ((ix x_88 x_511).bind fun y_541 => ((ix y_467 y_541).bind fun y_549 => ((apd 96 x_507 [y_549]).bind fun y_559 => (table_Keep.l3 kl2 a0 x_88 x_347 x_351 y_467 k y_559 (IntKind.i64.wrap (x_511 + 1)))))) else ((apd 24 x_347 [x_507]).bind fun y_570 => (kl2 y_570 (IntKind.i64.wrap (x_351 + 1)))))

def table_Keep.l2 (a0 : api_Table) (x_83 : List api_Col) (x_88 : List Int) : Nat → (List (List api_Value)) → Int → Option (api_Table × Int)
  | 0, _, _ => none
  | k + 1, x_347, x_351 => (if (decide (x_351 < (a0.Rows.length : Int))) = true then ((ix a0.Rows x_351).bind fun y_467 => (table_Keep.l3 (table_Keep.l2 a0 x_83 x_88 k) a0 x_88 x_347 x_351 y_467 (((x_88.length : Int) - 0).toNat + 1) [] 0)) else ((table_Canon (⟨x_83, x_347⟩ : api_Table)).bind fun y_576 => some (y_576, 0)))

def table_Keep.l0 (a0 : api_Table) (a1 : List ByteArray) : Nat → (List api_Col) → (List Int) → Int → Option (api_Table × Int)
  | 0, _, _, _ => none
  | k + 1, x_83, x_88, x_92 => (if (decide (x_92 < (a1.length : Int))) = true then ((ix a1 x_92).bind fun y_163 => ((table_Find a0.Cols y_163).bind fun y_172 => (if (decide (y_172 < 0)) = true then (table_Keep.j1 (table_Keep.l0 a0 a1 k) a0 a1 x_83 x_88 x_92 y_172 true) else ((slices_Contains_int_int x_88 y_172).bind fun y_180 => (table_Keep.j1 (table_Keep.l0 a0 a1 k) a0 a1 x_83 x_88 x_92 y_172 y_180))))) else (if ((x_88.length : Int) == 0) = true then some ((⟨([] : List api_Col), ([] : List (List api_Value))⟩ : api_Table), 20) else (table_Keep.l2 a0 x_83 x_88 (((a0.Rows.length : Int) - 0).toNat + 1) [] 0)))

def table_Keep (a0 : api_Table) (a1 : List ByteArray) : Option (api_Table × Int) :=
  ((table_Check a0).bind fun y_3 => (if (y_3 != 0) = true then some ((⟨([] : List api_Col), ([] : List (List api_Value))⟩ : api_Table), y_3) else (table_Keep.l0 a0 a1 (((a1.length : Int) - 0).toNat + 1) [] [] 0)))

/-! ### slices.Equal[[]catchment/api.Col,catchment/api.Col] -/
def slices_Equal_api_Col_api_Col.l0 (a0 : List api_Col) (a1 : List api_Col) : Nat → Int → Option Bool
  | 0, _ => none
  | k + 1, x_41 => (if (decide (x_41 < (a0.length : Int))) = true then ((ix a0 x_41).bind fun y_100 => ((ix a1 x_41).bind fun y_109 => (if (!decide (y_100 = y_109)) = true then some false else (slices_Equal_api_Col_api_Col.l0 a0 a1 k (IntKind.i64.wrap (x_41 + 1)))))) else some true)

def slices_Equal_api_Col_api_Col (a0 : List api_Col) (a1 : List api_Col) : Option Bool :=
  (if ((a0.length : Int) != (a1.length : Int)) = true then some false else (slices_Equal_api_Col_api_Col.l0 a0 a1 (((a0.length : Int) - 0).toNat + 1) 0))

/-! ### slices.Grow[[][]catchment/api.Value,[]catchment/api.Value] -/
def slices_Grow_api_Value_api_Value (a0 : List (List api_Value)) (a1 : Int) : Option (List (List api_Value)) := grow0 24 a0 a1

/-! ### slices.Concat[[][]catchment/api.Value,[]catchment/api.Value] -/
def slices_Concat_api_Value_api_Value.l1 (a0 : List (List (List api_Value))) : Nat → (List (List api_Value)) → Int → Option (List (List api_Value))
  | 0, _, _ => none
  | k + 1, x_75, x_79 => (if (decide (x_79 < (a0.length : Int))) = true then ((ix a0 x_79).bind fun y_100 => ((apd 24 x_75 y_100).bind fun y_111 => (slices_Concat_api_Value_api_Value.l1 a0 k y_111 (IntKind.i64.wrap (x_79 + 1))))) else some x_75)

def slices_Concat_api_Value_api_Value.l0 (a0 : List (List (List api_Value))) : Nat → Int → Int → Option (List (List api_Value))
  | 0, _, _ => none
  | k + 1, x_16, x_17 => (if (decide (x_17 < (a0.length : Int))) = true then ((ix a0 x_17).bind fun y_34 => (if (decide ((IntKind.i64.wrap (x_16 + (y_34.length : Int))) < 0)) = true then none else (slices_Concat_api_Value_api_Value.l0 a0 k (IntKind.i64.wrap (x_16 + (y_34.length : Int))) (IntKind.i64.wrap (x_17 + 1))))) else ((slices_Grow_api_Value_api_Value ([] : List (List api_Value)) x_16).bind fun y_47 => (slices_Concat_api_Value_api_Value.l1 a0 (((a0.length : Int) - 0).toNat + 1) y_47 0)))

def slices_Concat_api_Value_api_Value (a0 : List (List (List api_Value))) : Option (List (List api_Value)) :=
  (slices_Concat_api_Value_api_Value.l0 a0 (((a0.length : Int) - 0).toNat + 1) 0 0)

/-! ### catchment/table.Union -/
def table_Union.l0 (a0 : api_Table) (a1 : api_Table) : Nat → (List api_Table) → Int → Option (api_Table × Int)
  | 0, _, _ => none
  | k + 1, x_32, x_36 => (if (decide (x_36 < 2)) = true then ((ix x_32 x_36).bind fun y_62 => ((table_Check y_62).bind fun y_75 => (if (y_75 != 0) = true then some ((⟨([] : List api_Col), ([] : List (List api_Value))⟩ : api_Table), y_75) else (table_Union.l0 a0 a1 k x_32 (IntKind.i64.wrap (x_36 + 1)))))) else ((slices_Equal_api_Col_api_Col a0.Cols a1.Cols).bind fun y_82 => (if (!y_82) = true then some ((⟨([] : List api_Col), ([] : List (List api_Value))⟩ : api_Table), 20) else ((slices_Concat_api_Value_api_Value [a0.Rows, a1.Rows]).bind fun y_118 => ((table_Canon (⟨a0.Cols, y_118⟩ : api_Table)).bind fun y_127 => some (y_127, 0))))))

def table_Union (a0 : api_Table) (a1 : api_Table) : Option (api_Table × Int) :=
  (table_Union.l0 a0 a1 (((2 : Int) - 0).toNat + 1) [a0, a1] 0)

/-! ### slices.Equal[[]catchment/api.Value,catchment/api.Value] -/
def slices_Equal_api_Value_api_Value.l0 (a0 : List api_Value) (a1 : List api_Value) : Nat → Int → Option Bool
  | 0, _ => none
  | k + 1, x_41 => (if (decide (x_41 < (a0.length : Int))) = true then ((ix a0 x_41).bind fun y_100 => ((ix a1 x_41).bind fun y_109 => (if (!decide (y_100 = y_109)) = true then some false else (slices_Equal_api_Value_api_Value.l0 a0 a1 k (IntKind.i64.wrap (x_41 + 1)))))) else some true)

def slices_Equal_api_Value_api_Value (a0 : List api_Value) (a1 : List api_Value) : Option Bool :=
  (if ((a0.length : Int) != (a1.length : Int)) = true then some false else (slices_Equal_api_Value_api_Value.l0 a0 a1 (((a0.length : Int) - 0).toNat + 1) 0))

/-! ### slices.EqualFunc[[][]catchment/api.Value,[][]catchment/api.Value,[]catchment/api.Value,[]catchment/api.Value] -/
def slices_EqualFunc_api_Value_api_Value_api_Value_api_Value_f_slices_Equal_api_Value_api_Value.l0 (a0 : List (List api_Value)) (a1 : List (List api_Value)) : Nat → Int → Option Bool
  | 0, _ => none
  | k + 1, x_29 => (if (decide (x_29 < (a0.length : Int))) = true then ((ix a0 x_29).bind fun y_58 => ((ix a1 x_29).bind fun y_69 => ((slices_Equal_api_Value_api_Value y_58 y_69).bind fun y_80 => (if (!y_80) = true then some false else (slices_EqualFunc_api_Value_api_Value_api_Value_api_Value_f_slices_Equal_api_Value_api_Value.l0 a0 a1 k (IntKind.i64.wrap (x_29 + 1))))))) else some true)

def slices_EqualFunc_api_Value_api_Value_api_Value_api_Value_f_slices_Equal_api_Value_api_Value (a0 : List (List api_Value)) (a1 : List (List api_Value)) : Option Bool :=
  (if ((a0.length : Int) != (a1.length : Int)) = true then some false else (slices_EqualFunc_api_Value_api_Value_api_Value_api_Value_f_slices_Equal_api_Value_api_Value.l0 a0 a1 (((a0.length : Int) - 0).toNat + 1) 0))

/-! ### catchment/table.Same -/
def table_Same (a0 : api_Table) (a1 : api_Table) : Option Bool :=
  ((slices_Equal_api_Col_api_Col a0.Cols a1.Cols).bind fun y_3 => (if y_3 = true then ((slices_EqualFunc_api_Value_api_Value_api_Value_api_Value_f_slices_Equal_api_Value_api_Value a0.Rows a1.Rows).bind fun y_6 => some y_6) else some false))

/-! ### catchment/catchmentlaw02.shown -/
def law02_shown : Option Bool :=
  ((law02_small (⟨#[98, 97, 97]⟩ : ByteArray) [1, 2, 1]).bind fun y_2 => ((law02_small (⟨#[97, 97, 98]⟩ : ByteArray) [1, 2, 1]).bind fun y_16 => ((table_Canon y_2).bind fun y_29 => ((table_Keep y_2 [(⟨#[110]⟩ : ByteArray)]).bind fun y_43 => ((table_Union y_2 y_2).bind fun y_68 => ((table_Same y_29 y_16).bind fun y_81 => (if y_81 = true then (if (y_43.2 == 0) = true then (if ((y_43.1.Rows.length : Int) == 3) = true then ((ix y_43.1.Rows 2).bind fun y_86 => (if ((y_86.length : Int) == 1) = true then ((ix y_43.1.Rows 2).bind fun y_97 => ((ix y_97 0).bind fun y_107 => (if (y_107.N == 2) = true then ((table_Check (⟨[(⟨(⟨#[107]⟩ : ByteArray), 2⟩ : api_Col), (⟨(⟨#[107]⟩ : ByteArray), 2⟩ : api_Col)], []⟩ : api_Table)).bind fun y_117 => (if (y_117 == 20) = true then ((table_Check (⟨y_2.Cols, [[(⟨2, 0, (⟨#[97]⟩ : ByteArray), (⟨0, 0, 0, 0, 0, 0, 0, 0⟩ : Arr8)⟩ : api_Value)]]⟩ : api_Table)).bind fun y_123 => (if (y_123 == 21) = true then ((table_Name (⟨#[97, 35, 98]⟩ : ByteArray)).bind fun y_126 => (if y_126 = true then ((table_Name (⟨#[57]⟩ : ByteArray)).bind fun y_129 => (if (!y_129) = true then ((table_Name (⟨#[]⟩ : ByteArray)).bind fun y_132 => (if (!y_132) = true then ((table_Find y_2.Cols (⟨#[110]⟩ : ByteArray)).bind fun y_135 => (if (y_135 == 1) = true then ((table_Find y_2.Cols (⟨#[120]⟩ : ByteArray)).bind fun y_138 => (if (y_138 == (-1)) = true then (if (y_68.2 == 0) = true then some ((y_68.1.Rows.length : Int) == 6) else some false) else some false)) else some false)) else some false)) else some false)) else some false)) else some false)) else some false)) else some false))) else some false)) else some false) else some false) else some false)))))))

/-! ### catchment/catchmentlaw02.cut -/
def law02_cut (a0 : api_Table) : Option api_Table :=
  (if (decide ((a0.Rows.length : Int) > 200)) = true then ((cut a0.Rows 0 200).bind fun y_4 => some (⟨a0.Cols, y_4⟩ : api_Table)) else some a0)

/-! ### catchment/catchmentref02.Name -/
def ref02_Name.j2 (kl1 : Int → Option Bool) (a0 : ByteArray) (x_45 : Int) (x_86 : Bool) : Option Bool :=
  (if x_86 = true then some false else (kl1 (IntKind.i64.wrap (x_45 + 1))))

def ref02_Name.l1 (a0 : ByteArray) : Nat → Int → Option Bool
  | 0, _ => none
  | k + 1, x_45 => (if (decide (x_45 < (a0.size : Int))) = true then ((ixs a0 x_45).bind fun y_74 => (if (decide (y_74 ≥ 97)) = true then (if (decide (y_74 ≤ 122)) = true then (ref02_Name.j2 (ref02_Name.l1 a0 k) a0 x_45 false) else (if (decide (y_74 ≥ 48)) = true then (if (decide (y_74 ≤ 57)) = true then (ref02_Name.j2 (ref02_Name.l1 a0 k) a0 x_45 false) else (if (y_74 == 95) = true then (ref02_Name.j2 (ref02_Name.l1 a0 k) a0 x_45 false) else (ref02_Name.j2 (ref02_Name.l1 a0 k) a0 x_45 (!(y_74 == 35))))) else (if (y_74 == 95) = true then (ref02_Name.j2 (ref02_Name.l1 a0 k) a0 x_45 false) else (ref02_Name.j2 (ref02_Name.l1 a0 k) a0 x_45 (!(y_74 == 35)))))) else (if (decide (y_74 ≥ 48)) = true then (if (decide (y_74 ≤ 57)) = true then (ref02_Name.j2 (ref02_Name.l1 a0 k) a0 x_45 false) else (if (y_74 == 95) = true then (ref02_Name.j2 (ref02_Name.l1 a0 k) a0 x_45 false) else (ref02_Name.j2 (ref02_Name.l1 a0 k) a0 x_45 (!(y_74 == 35))))) else (if (y_74 == 95) = true then (ref02_Name.j2 (ref02_Name.l1 a0 k) a0 x_45 false) else (ref02_Name.j2 (ref02_Name.l1 a0 k) a0 x_45 (!(y_74 == 35))))))) else some true)

def ref02_Name.j0 (a0 : ByteArray) (x_8 : Bool) : Option Bool :=
  (if x_8 = true then some false else (ref02_Name.l1 a0 (((a0.size : Int) - 0).toNat + 1) 0))

def ref02_Name (a0 : ByteArray) : Option Bool :=
  (if (decide ((a0.size : Int) < 1)) = true then (ref02_Name.j0 a0 true) else (if (decide ((a0.size : Int) > 24)) = true then (ref02_Name.j0 a0 true) else ((ixs a0 0).bind fun y_12 => (if (decide (y_12 < 97)) = true then (ref02_Name.j0 a0 true) else ((ixs a0 0).bind fun y_15 => (ref02_Name.j0 a0 (decide (y_15 > 122))))))))

/-! ### catchment/catchmentref02.Find -/
def ref02_Find.l0 (a0 : List api_Col) (a1 : ByteArray) : Nat → Int → Option Int
  | 0, _ => none
  | k + 1, x_13 => (if (decide (x_13 < (a0.length : Int))) = true then ((ix a0 x_13).bind fun y_27 => (if (y_27.Name.toList == a1.toList) = true then some x_13 else (ref02_Find.l0 a0 a1 k (IntKind.i64.wrap (x_13 + 1))))) else some (-1))

def ref02_Find (a0 : List api_Col) (a1 : ByteArray) : Option Int :=
  (ref02_Find.l0 a0 a1 (((a0.length : Int) - 0).toNat + 1) 0)

/-! ### catchment/catchmentref02.Cols -/
def ref02_Cols.j2 (kl1 : Int → Option Bool) (a0 : List api_Col) (x_97 : Int) (x_233 : Bool) : Option Bool :=
  (if x_233 = true then some false else (kl1 (IntKind.i64.wrap (x_97 + 1))))

def ref02_Cols.l1 (a0 : List api_Col) : Nat → Int → Option Bool
  | 0, _ => none
  | k + 1, x_97 => (if (decide (x_97 < (a0.length : Int))) = true then ((ix a0 x_97).bind fun y_235 => ((ref02_Name y_235.Name).bind fun y_244 => (if (!y_244) = true then (ref02_Cols.j2 (ref02_Cols.l1 a0 k) a0 x_97 true) else ((ix a0 x_97).bind fun y_247 => ((ref02_Find a0 y_247.Name).bind fun y_256 => (if (y_256 != x_97) = true then (ref02_Cols.j2 (ref02_Cols.l1 a0 k) a0 x_97 true) else ((ix a0 x_97).bind fun y_259 => (if (decide (y_259.Kind < 1)) = true then (ref02_Cols.j2 (ref02_Cols.l1 a0 k) a0 x_97 true) else ((ix a0 x_97).bind fun y_269 => (ref02_Cols.j2 (ref02_Cols.l1 a0 k) a0 x_97 (decide (y_269.Kind > 4)))))))))))) else some true)

def ref02_Cols.j0 (a0 : List api_Col) (x_2 : Bool) : Option Bool :=
  (if x_2 = true then some false else (ref02_Cols.l1 a0 (((a0.length : Int) - 0).toNat + 1) 0))

def ref02_Cols (a0 : List api_Col) : Option Bool :=
  (if (decide ((a0.length : Int) < 1)) = true then (ref02_Cols.j0 a0 true) else (ref02_Cols.j0 a0 (decide ((a0.length : Int) > 16))))

/-! ### catchment/catchmentref01.Valid -/
def ref01_Valid (a0 : api_Value) : Option Bool :=
  (if (a0.Kind == 1) = true then (if (a0.S.toList == (⟨#[]⟩ : ByteArray).toList) = true then some (decide (a0.H = (⟨0, 0, 0, 0, 0, 0, 0, 0⟩ : Arr8))) else some false) else (if (a0.Kind == 2) = true then (if (a0.N == 0) = true then (if (decide (a0.H = (⟨0, 0, 0, 0, 0, 0, 0, 0⟩ : Arr8))) = true then some (decide ((a0.S.size : Int) ≤ 64)) else some false) else some false) else (if (a0.Kind == 3) = true then (if (a0.N == 0) = true then (if (a0.S.toList == (⟨#[]⟩ : ByteArray).toList) = true then some (decide (a0.H = (⟨0, 0, 0, 0, 0, 0, 0, 0⟩ : Arr8))) else some false) else (if (a0.N == 1) = true then (if (a0.S.toList == (⟨#[]⟩ : ByteArray).toList) = true then some (decide (a0.H = (⟨0, 0, 0, 0, 0, 0, 0, 0⟩ : Arr8))) else some false) else some false)) else (if (a0.Kind == 4) = true then (if (a0.N == 0) = true then some (a0.S.toList == (⟨#[]⟩ : ByteArray).toList) else some false) else some false))))

/-! ### catchment/catchmentref02.Check -/
def ref02_Check.j2 (kl1 : Int → Option Int) (a0 : api_Table) (x_1571 : Int) (x_1890 : Bool) : Option Int :=
  (if x_1890 = true then some 21 else (kl1 (IntKind.i64.wrap (x_1571 + 1))))

def ref02_Check.l1 (kl0 : Int → Option Int) (a0 : api_Table) (x_669 : Int) : Nat → Int → Option Int
  | 0, _ => none
  | k + 1, x_1571 => (if (decide (x_1571 < (a0.Cols.length : Int))) = true then ((ix a0.Rows x_669).bind fun y_1944 => ((ix y_1944 x_1571).bind fun y_1955 => ((ix a0.Cols x_1571).bind fun y_1964 => (if (y_1955.Kind != y_1964.Kind) = true then (ref02_Check.j2 (ref02_Check.l1 kl0 a0 x_669 k) a0 x_1571 true) else ((ix a0.Rows x_669).bind fun y_1974 => ((ix y_1974 x_1571).bind fun y_1985 => ((ref01_Valid y_1985).bind fun y_1994 => (ref02_Check.j2 (ref02_Check.l1 kl0 a0 x_669 k) a0 x_1571 (!y_1994))))))))) else (kl0 (IntKind.i64.wrap (x_669 + 1))))

def ref02_Check.l0 (a0 : api_Table) : Nat → Int → Option Int
  | 0, _ => none
  | k + 1, x_669 => (if (decide (x_669 < (a0.Rows.length : Int))) = true then ((ix a0.Rows x_669).bind fun y_1346 => (if ((y_1346.length : Int) != (a0.Cols.length : Int)) = true then some 21 else (ref02_Check.l1 (ref02_Check.l0 a0 k) a0 x_669 (((a0.Cols.length : Int) - 0).toNat + 1) 0))) else some 0)

def ref02_Check (a0 : api_Table) : Option Int :=
  ((ref02_Cols a0.Cols).bind fun y_2 => (if (!y_2) = true then some 20 else (ref02_Check.l0 a0 (((a0.Rows.length : Int) - 0).toNat + 1) 0)))

/-! ### catchment/catchmentlaw02.TableChecks -/
def law02_TableChecks (a0 : api_Table) (a1 : ByteArray) : Option Bool :=
  ((law02_shown).bind fun y_2 => ((law02_cut a0).bind fun y_4 => (if y_2 = true then ((table_Check y_4).bind fun y_28 => ((ref02_Check y_4).bind fun y_30 => (if (y_28 == y_30) = true then ((table_Name a1).bind fun y_33 => ((ref02_Name a1).bind fun y_35 => (if (y_33 == y_35) = true then ((table_Find y_4.Cols a1).bind fun y_38 => ((ref02_Find y_4.Cols a1).bind fun y_40 => some (y_38 == y_40))) else some false))) else some false))) else some false)))

/-! ### catchment/catchmentlaw02.lent -/
def law02_lent.l0 (a0 : api_Table) (y_6 : List api_Col) : Nat → (List (List api_Value)) → Int → Option api_Table
  | 0, _, _ => none
  | k + 1, x_87, x_91 => (if (decide (x_91 < (a0.Rows.length : Int))) = true then ((ix a0.Rows x_91).bind fun y_191 => ((apd 96 ([] : List api_Value) y_191).bind fun y_205 => ((apd 24 x_87 [y_205]).bind fun y_216 => (law02_lent.l0 a0 y_6 k y_216 (IntKind.i64.wrap (x_91 + 1)))))) else some (⟨y_6, x_87⟩ : api_Table))

def law02_lent (a0 : api_Table) : Option api_Table :=
  ((apd 24 ([] : List api_Col) a0.Cols).bind fun y_6 => (law02_lent.l0 a0 y_6 (((a0.Rows.length : Int) - 0).toNat + 1) [] 0))

/-! ### catchment/catchmentref01.order -/
def ref01_order (a0 : Int) (a1 : Int) : Option Int :=
  (if (decide (a0 < a1)) = true then some (-1) else (if (decide (a0 > a1)) = true then some 1 else some 0))

/-! ### catchment/catchmentref01.Compare -/
def ref01_Compare.l2 (a0 : api_Value) (a1 : api_Value) : Nat → Int → Option Int
  | 0, _ => none
  | k + 1, x_100 => (if (decide (x_100 < 8)) = true then ((Arr8.ix a0.H x_100).bind fun y_129 => ((Arr8.ix a1.H x_100).bind fun y_131 => (if (y_129 != y_131) = true then ((Arr8.ix a0.H x_100).bind fun y_140 => ((Arr8.ix a1.H x_100).bind fun y_142 => ((ref01_order y_140 y_142).bind fun y_144 => some y_144))) else (ref01_Compare.l2 a0 a1 k (IntKind.i64.wrap (x_100 + 1)))))) else some 0)

def ref01_Compare.j1 (kl0 : Int → Option Int) (a0 : api_Value) (a1 : api_Value) (x_36 : Int) (x_66 : Bool) : Option Int :=
  (if x_66 = true then ((ixs a0.S x_36).bind fun y_74 => ((ixs a1.S x_36).bind fun y_76 => (if (y_74 != y_76) = true then ((ixs a0.S x_36).bind fun y_85 => ((ixs a1.S x_36).bind fun y_87 => ((ref01_order (IntKind.i64.wrap y_85) (IntKind.i64.wrap y_87)).bind fun y_89 => some y_89))) else (kl0 (IntKind.i64.wrap (x_36 + 1)))))) else (if ((a0.S.size : Int) != (a1.S.size : Int)) = true then ((ref01_order (a0.S.size : Int) (a1.S.size : Int)).bind fun y_92 => some y_92) else (ref01_Compare.l2 a0 a1 (((8 : Int) - 0).toNat + 1) 0)))

def ref01_Compare.l0 (a0 : api_Value) (a1 : api_Value) : Nat → Int → Option Int
  | 0, _ => none
  | k + 1, x_36 => (if (decide (x_36 < (a0.S.size : Int))) = true then (ref01_Compare.j1 (ref01_Compare.l0 a0 a1 k) a0 a1 x_36 (decide (x_36 < (a1.S.size : Int)))) else (ref01_Compare.j1 (ref01_Compare.l0 a0 a1 k) a0 a1 x_36 false))

def ref01_Compare (a0 : api_Value) (a1 : api_Value) : Option Int :=
  (if (a0.Kind != a1.Kind) = true then ((ref01_order a0.Kind a1.Kind).bind fun y_4 => some y_4) else (if (a0.N != a1.N) = true then ((ref01_order a0.N a1.N).bind fun y_7 => some y_7) else (ref01_Compare.l0 a0 a1 (((a0.S.size : Int) - 0).toNat + 1) 0)))

/-! ### catchment/catchmentref02.Row -/
def ref02_Row.j1 (kl0 : Int → Option Int) (a0 : List api_Value) (a1 : List api_Value) (x_48 : Int) (x_98 : Bool) : Option Int :=
  (if x_98 = true then ((ix a0 x_48).bind fun y_122 => ((ix a1 x_48).bind fun y_131 => ((ref01_Compare y_122 y_131).bind fun y_140 => (if (y_140 != 0) = true then some y_140 else (kl0 (IntKind.i64.wrap (x_48 + 1))))))) else (if (decide ((a0.length : Int) < (a1.length : Int))) = true then some (-1) else (if (decide ((a0.length : Int) > (a1.length : Int))) = true then some 1 else some 0)))

def ref02_Row.l0 (a0 : List api_Value) (a1 : List api_Value) : Nat → Int → Option Int
  | 0, _ => none
  | k + 1, x_48 => (if (decide (x_48 < (a0.length : Int))) = true then (ref02_Row.j1 (ref02_Row.l0 a0 a1 k) a0 a1 x_48 (decide (x_48 < (a1.length : Int)))) else (ref02_Row.j1 (ref02_Row.l0 a0 a1 k) a0 a1 x_48 false))

def ref02_Row (a0 : List api_Value) (a1 : List api_Value) : Option Int :=
  (ref02_Row.l0 a0 a1 (((a0.length : Int) - 0).toNat + 1) 0)

/-! ### catchment/catchmentref02.sorted -/
def ref02_sorted.j3 (kl0 : (List (List api_Value)) → Int → Int → Option (List (List api_Value))) (y_16 : List (List api_Value)) (y_29 : List (List api_Value)) (x_557 : List (List api_Value)) (x_561 : Int) (x_562 : Int) : Option (List (List api_Value)) :=
  (kl0 x_557 x_561 x_562)

def ref02_sorted.j2 (kl0 : (List (List api_Value)) → Int → Int → Option (List (List api_Value))) (y_16 : List (List api_Value)) (y_29 : List (List api_Value)) (x_228 : List (List api_Value)) (x_232 : Int) (x_233 : Int) (x_471 : Bool) : Option (List (List api_Value)) :=
  (if x_471 = true then ((ix y_16 x_232).bind fun y_565 => ((apd 24 x_228 [y_565]).bind fun y_576 => (ref02_sorted.j3 kl0 y_16 y_29 y_576 (IntKind.i64.wrap (x_232 + 1)) x_233))) else ((ix y_29 x_233).bind fun y_582 => ((apd 24 x_228 [y_582]).bind fun y_593 => (ref02_sorted.j3 kl0 y_16 y_29 y_593 x_232 (IntKind.i64.wrap (x_233 + 1))))))

def ref02_sorted.j1 (kl0 : (List (List api_Value)) → Int → Int → Option (List (List api_Value))) (y_16 : List (List api_Value)) (y_29 : List (List api_Value)) (x_228 : List (List api_Value)) (x_232 : Int) (x_233 : Int) (x_419 : Bool) : Option (List (List api_Value)) :=
  (if x_419 = true then (if (x_233 == (y_29.length : Int)) = true then (ref02_sorted.j2 kl0 y_16 y_29 x_228 x_232 x_233 true) else (if (decide (x_232 < (y_16.length : Int))) = true then ((ix y_16 x_232).bind fun y_499 => ((ix y_29 x_233).bind fun y_509 => ((ref02_Row y_499 y_509).bind fun y_519 => (ref02_sorted.j2 kl0 y_16 y_29 x_228 x_232 x_233 (decide (y_519 ≤ 0)))))) else (ref02_sorted.j2 kl0 y_16 y_29 x_228 x_232 x_233 false))) else some x_228)

def ref02_sorted.l0 (y_16 : List (List api_Value)) (y_29 : List (List api_Value)) : Nat → (List (List api_Value)) → Int → Int → Option (List (List api_Value))
  | 0, _, _, _ => none
  | k + 1, x_228, x_232, x_233 => (if (decide (x_232 < (y_16.length : Int))) = true then (ref02_sorted.j1 (ref02_sorted.l0 y_16 y_29 k) y_16 y_29 x_228 x_232 x_233 true) else (ref02_sorted.j1 (ref02_sorted.l0 y_16 y_29 k) y_16 y_29 x_228 x_232 x_233 (decide (x_233 < (y_29.length : Int)))))

def ref02_sorted.b (kr_0 : (List (List api_Value)) → Option (List (List api_Value))) (a0 : List (List api_Value)) : Option (List (List api_Value)) :=
  (if (decide ((a0.length : Int) < 2)) = true then ((apd 24 ([] : List (List api_Value)) a0).bind fun y_5 => some y_5) else ((cut a0 0 (IntKind.i64.wrap ((a0.length : Int).tdiv 2))).bind fun y_11 => ((kr_0 y_11).bind fun y_16 => ((cut a0 (IntKind.i64.wrap ((a0.length : Int).tdiv 2)) a0.length).bind fun y_24 => ((kr_0 y_24).bind fun y_29 => (ref02_sorted.l0 y_16 y_29 (y_16.length + y_29.length + 1) [] 0 0))))))

def ref02_sorted.r : Nat → (List (List api_Value)) → Option (List (List api_Value))
  | 0, _ => none
  | k + 1, a0 => ref02_sorted.b (ref02_sorted.r k) a0

def ref02_sorted (a0 : List (List api_Value)) : Option (List (List api_Value)) := ref02_sorted.r (a0.length + 1) a0

/-! ### catchment/catchmentref02.Canon -/
def ref02_Canon (a0 : api_Table) : Option api_Table :=
  ((apd 24 ([] : List api_Col) a0.Cols).bind fun y_25 => ((ref02_sorted a0.Rows).bind fun y_31 => some (⟨y_25, y_31⟩ : api_Table)))

/-! ### catchment/catchmentref02.SameCols -/
def ref02_SameCols.l0 (a0 : List api_Col) (a1 : List api_Col) : Nat → Int → Option Bool
  | 0, _ => none
  | k + 1, x_41 => (if (decide (x_41 < (a0.length : Int))) = true then ((ix a0 x_41).bind fun y_100 => ((ix a1 x_41).bind fun y_109 => (if (!decide (y_100 = y_109)) = true then some false else (ref02_SameCols.l0 a0 a1 k (IntKind.i64.wrap (x_41 + 1)))))) else some true)

def ref02_SameCols (a0 : List api_Col) (a1 : List api_Col) : Option Bool :=
  (if ((a0.length : Int) != (a1.length : Int)) = true then some false else (ref02_SameCols.l0 a0 a1 (((a0.length : Int) - 0).toNat + 1) 0))

/-! ### catchment/catchmentref02.Same -/
def ref02_Same.l1 (a0 : api_Table) (a1 : api_Table) : Nat → Int → Option Bool
  | 0, _ => none
  | k + 1, x_63 => (if (decide (x_63 < (a0.Rows.length : Int))) = true then ((ix a0.Rows x_63).bind fun y_140 => ((ix a1.Rows x_63).bind fun y_151 => ((ref02_Row y_140 y_151).bind fun y_162 => (if (y_162 != 0) = true then some false else (ref02_Same.l1 a0 a1 k (IntKind.i64.wrap (x_63 + 1))))))) else some true)

def ref02_Same.j0 (a0 : api_Table) (a1 : api_Table) (x_6 : Bool) : Option Bool :=
  (if x_6 = true then some false else (ref02_Same.l1 a0 a1 (((a0.Rows.length : Int) - 0).toNat + 1) 0))

def ref02_Same (a0 : api_Table) (a1 : api_Table) : Option Bool :=
  ((ref02_SameCols a0.Cols a1.Cols).bind fun y_8 => (if (!y_8) = true then (ref02_Same.j0 a0 a1 true) else (ref02_Same.j0 a0 a1 ((a0.Rows.length : Int) != (a1.Rows.length : Int)))))

/-! ### catchment/catchmentlaw02.TableCanon -/
def law02_TableCanon (a0 : api_Table) : Option Bool :=
  ((law02_shown).bind fun y_2 => ((law02_cut a0).bind fun y_4 => ((law02_lent y_4).bind fun y_12 => ((table_Canon y_12).bind fun y_25 => ((ref02_Canon y_4).bind fun y_38 => ((ref02_Same y_12 y_4).bind fun y_51 => ((ref02_Same y_25 y_38).bind fun y_53 => ((table_Canon y_25).bind fun y_69 => ((ref02_Same y_69 y_38).bind fun y_81 => (if y_2 = true then (if y_53 = true then (if y_51 = true then some y_81 else some false) else some false) else some false))))))))))

/-! ### catchment/catchmentlaw02.TableOrder -/
def law02_TableOrder.l3 (y_2 : Bool) (y_4 : api_Table) (x_160 : List (List api_Value)) : Nat → (List (List api_Value)) → Int → Option Bool
  | 0, _, _ => none
  | k + 1, x_345, x_349 => (if (decide (x_349 ≥ 0)) = true then ((ix y_4.Rows x_349).bind fun y_409 => ((apd 24 x_345 [y_409]).bind fun y_421 => (law02_TableOrder.l3 y_2 y_4 x_160 k y_421 (IntKind.i64.wrap (x_349 - 1))))) else ((table_Canon y_4).bind fun y_427 => (if y_2 = true then ((table_Canon (⟨y_4.Cols, x_160⟩ : api_Table)).bind fun y_472 => ((table_Same y_427 y_472).bind fun y_484 => (if y_484 = true then ((table_Canon (⟨y_4.Cols, x_345⟩ : api_Table)).bind fun y_487 => ((table_Same y_427 y_487).bind fun y_499 => (if y_499 = true then some ((y_427.Rows.length : Int) == (y_4.Rows.length : Int)) else some false))) else some false))) else some false)))

def law02_TableOrder.j2 (y_2 : Bool) (y_4 : api_Table) (x_160 : List (List api_Value)) : Option Bool :=
  (law02_TableOrder.l3 y_2 y_4 x_160 (((IntKind.i64.wrap ((y_4.Rows.length : Int) - 1)) - 0).toNat + 2) [] (IntKind.i64.wrap ((y_4.Rows.length : Int) - 1)))

def law02_TableOrder.j1 (y_2 : Bool) (y_4 : api_Table) (x_18 : Int) : Option Bool :=
  ((cut y_4.Rows x_18 y_4.Rows.length).bind fun y_233 => ((cut y_4.Rows 0 x_18).bind fun y_238 => ((apd 24 ([] : List (List api_Value)) y_233).bind fun y_246 => ((apd 24 y_246 y_238).bind fun y_252 => (law02_TableOrder.j2 y_2 y_4 y_252)))))

def law02_TableOrder.j0 (y_2 : Bool) (y_4 : api_Table) (x_13 : Int) : Option Bool :=
  (if (decide ((y_4.Rows.length : Int) > 0)) = true then (if ((y_4.Rows.length : Int) != 0) = true then (law02_TableOrder.j1 y_2 y_4 (x_13.tmod (y_4.Rows.length : Int))) else none) else (law02_TableOrder.j1 y_2 y_4 0))

def law02_TableOrder (a0 : api_Table) (a1 : Int) : Option Bool :=
  ((law02_shown).bind fun y_2 => ((law02_cut a0).bind fun y_4 => (if (decide (a1 < 0)) = true then (law02_TableOrder.j0 y_2 y_4 (IntKind.i64.wrap (0 - (IntKind.i64.wrap (a1 + 1))))) else (law02_TableOrder.j0 y_2 y_4 a1))))

/-! ### catchment/catchmentlaw02.TableSame -/
def law02_TableSame (a0 : api_Table) (a1 : api_Table) : Option Bool :=
  ((law02_shown).bind fun y_3 => ((law02_cut a0).bind fun y_5 => ((law02_cut a1).bind fun y_13 => (if y_3 = true then ((table_Same y_5 y_13).bind fun y_35 => ((ref02_Same y_5 y_13).bind fun y_37 => (if (y_35 == y_37) = true then ((table_Same y_5 y_5).bind fun y_40 => (if y_40 = true then ((table_Same y_5 y_13).bind fun y_43 => ((table_Same y_13 y_5).bind fun y_45 => some (y_43 == y_45))) else some false)) else some false))) else some false))))

/-! ### catchment/catchmentref02.Union -/
def ref02_Union.j0 (a0 : api_Table) (a1 : api_Table) (x_9 : Int) : Option (api_Table × Int) :=
  (if (x_9 != 0) = true then some ((⟨([] : List api_Col), ([] : List (List api_Value))⟩ : api_Table), x_9) else ((ref02_SameCols a0.Cols a1.Cols).bind fun y_19 => (if (!y_19) = true then some ((⟨([] : List api_Col), ([] : List (List api_Value))⟩ : api_Table), 20) else ((apd 24 ([] : List (List api_Value)) a0.Rows).bind fun y_60 => ((apd 24 y_60 a1.Rows).bind fun y_66 => ((ref02_Canon (⟨a0.Cols, y_66⟩ : api_Table)).bind fun y_76 => some (y_76, 0)))))))

def ref02_Union (a0 : api_Table) (a1 : api_Table) : Option (api_Table × Int) :=
  ((ref02_Check a0).bind fun y_4 => (if (y_4 == 0) = true then ((ref02_Check a1).bind fun y_12 => (ref02_Union.j0 a0 a1 y_12)) else (ref02_Union.j0 a0 a1 y_4)))

/-! ### catchment/catchmentlaw02.TableUnions -/
def law02_TableUnions.j0 (y_3 : Bool) (y_21 : api_Table × Int) (y_34 : api_Table × Int) (y_47 : Bool) : Option Bool :=
  (if y_3 = true then (if y_47 = true then some (y_21.2 == y_34.2) else some false) else some false)

def law02_TableUnions.j1 (y_3 : Bool) (y_21 : api_Table × Int) (y_34 : api_Table × Int) (y_47 : Bool) (x_89 : Bool) : Option Bool :=
  (if x_89 = true then some false else (law02_TableUnions.j0 y_3 y_21 y_34 y_47))

def law02_TableUnions (a0 : api_Table) (a1 : api_Table) : Option Bool :=
  ((law02_shown).bind fun y_3 => ((law02_cut a0).bind fun y_5 => ((law02_cut a1).bind fun y_13 => ((table_Union y_5 y_13).bind fun y_21 => ((ref02_Union y_5 y_13).bind fun y_34 => ((ref02_Same y_21.1 y_34.1).bind fun y_47 => (if (y_21.2 == 0) = true then ((table_Union y_13 y_5).bind fun y_73 => ((ref02_Same y_21.1 y_73.1).bind fun y_86 => (if (y_73.2 != 0) = true then (law02_TableUnions.j1 y_3 y_21 y_34 y_47 true) else (law02_TableUnions.j1 y_3 y_21 y_34 y_47 (!y_86))))) else (law02_TableUnions.j0 y_3 y_21 y_34 y_47))))))))

/-! ### catchment/catchmentref02.Keep -/
def ref02_Keep.j1 (kl0 : (List api_Col) → Int → Option (api_Table × Int)) (a0 : api_Table) (a1 : List ByteArray) (x_127 : List api_Col) (x_131 : Int) (y_266 : Int) (x_292 : Bool) : Option (api_Table × Int) :=
  (if x_292 = true then some ((⟨([] : List api_Col), ([] : List (List api_Value))⟩ : api_Table), 20) else ((ix a0.Cols y_266).bind fun y_339 => ((apd 24 x_127 [y_339]).bind fun y_349 => (kl0 y_349 (IntKind.i64.wrap (x_131 + 1))))))

def ref02_Keep.l3 (kl2 : (List (List api_Value)) → Int → Option (api_Table × Int)) (a0 : api_Table) (a1 : List ByteArray) (x_623 : List (List api_Value)) (x_627 : Int) : Nat → (List api_Value) → Int → Option (api_Table × Int)
  | 0, _, _ => none
  | k + 1, x_973, x_977 => (if (decide (x_977 < (a1.length : Int))) = true then ((ix a0.Rows x_627).bind fun y_1097 => ((ix a1 x_977).bind fun y_1108 => ((ref02_Find a0.Cols y_1108).bind fun y_1117 => ((ix y_1097 y_1117).bind fun y_1119 => ((apd 96 x_973 [y_1119]).bind fun y_1129 => (ref02_Keep.l3 kl2 a0 a1 x_623 x_627 k y_1129 (IntKind.i64.wrap (x_977 + 1)))))))) else ((apd 24 x_623 [x_973]).bind fun y_1140 => (kl2 y_1140 (IntKind.i64.wrap (x_627 + 1)))))

def ref02_Keep.l2 (a0 : api_Table) (a1 : List ByteArray) (x_127 : List api_Col) : Nat → (List (List api_Value)) → Int → Option (api_Table × Int)
  | 0, _, _ => none
  | k + 1, x_623, x_627 => (if (decide (x_627 < (a0.Rows.length : Int))) = true then (ref02_Keep.l3 (ref02_Keep.l2 a0 a1 x_127 k) a0 a1 x_623 x_627 (((a1.length : Int) - 0).toNat + 1) [] 0) else ((ref02_Canon (⟨x_127, x_623⟩ : api_Table)).bind fun y_1152 => some (y_1152, 0)))

def ref02_Keep.l0 (a0 : api_Table) (a1 : List ByteArray) : Nat → (List api_Col) → Int → Option (api_Table × Int)
  | 0, _, _ => none
  | k + 1, x_127, x_131 => (if (decide (x_131 < (a1.length : Int))) = true then ((ix a1 x_131).bind fun y_257 => ((ref02_Find a0.Cols y_257).bind fun y_266 => (if (decide (y_266 < 0)) = true then (ref02_Keep.j1 (ref02_Keep.l0 a0 a1 k) a0 a1 x_127 x_131 y_266 true) else ((ix a1 x_131).bind fun y_307 => ((ref02_Find x_127 y_307).bind fun y_316 => (ref02_Keep.j1 (ref02_Keep.l0 a0 a1 k) a0 a1 x_127 x_131 y_266 (decide (y_316 ≥ 0)))))))) else (if ((a1.length : Int) == 0) = true then some ((⟨([] : List api_Col), ([] : List (List api_Value))⟩ : api_Table), 20) else (ref02_Keep.l2 a0 a1 x_127 (((a0.Rows.length : Int) - 0).toNat + 1) [] 0)))

def ref02_Keep (a0 : api_Table) (a1 : List ByteArray) : Option (api_Table × Int) :=
  ((ref02_Check a0).bind fun y_3 => (if (y_3 != 0) = true then some ((⟨([] : List api_Col), ([] : List (List api_Value))⟩ : api_Table), y_3) else (ref02_Keep.l0 a0 a1 (((a1.length : Int) - 0).toNat + 1) [] 0)))

/-! ### catchment/catchmentlaw02.TableKeeps -/
def law02_TableKeeps.j0 (y_2 : Bool) (y_4 : api_Table) (x_20 : List ByteArray) : Option Bool :=
  ((table_Keep y_4 x_20).bind fun y_28 => ((ref02_Keep y_4 x_20).bind fun y_41 => ((ref02_Same y_28.1 y_41.1).bind fun y_54 => (if y_2 = true then (if y_54 = true then some (y_28.2 == y_41.2) else some false) else some false))))

def law02_TableKeeps (a0 : api_Table) (a1 : List ByteArray) : Option Bool :=
  ((law02_shown).bind fun y_2 => ((law02_cut a0).bind fun y_4 => (if (decide ((a1.length : Int) > 40)) = true then ((cut a1 0 40).bind fun y_23 => (law02_TableKeeps.j0 y_2 y_4 y_23)) else (law02_TableKeeps.j0 y_2 y_4 a1))))

/-! ### catchment/catchmentlaw02.TableAll -/
def law02_TableAll.j1 (y_2 : Bool) (y_4 : api_Table) (x_40 : List ByteArray) (y_82 : api_Table × Int) (y_121 : Bool) (x_124 : Int) : Option Bool :=
  (if ((x_40.length : Int) != 0) = true then ((cut x_40 (x_124.tmod (x_40.length : Int)) x_40.length).bind fun y_131 => ((table_Keep y_82.1 y_131).bind fun y_136 => ((table_Keep y_4 y_131).bind fun y_149 => ((ref02_Same y_136.1 y_149.1).bind fun y_162 => (if y_2 = true then (if (y_82.2 == 0) = true then (if (y_136.2 == 0) = true then (if (y_149.2 == 0) = true then (if y_121 = true then (if y_162 = true then some ((y_136.1.Rows.length : Int) == (y_4.Rows.length : Int)) else some false) else some false) else some false) else some false) else some false) else some false))))) else none)

def law02_TableAll.l0 (a1 : Int) (y_2 : Bool) (y_4 : api_Table) : Nat → (List ByteArray) → Int → Option Bool
  | 0, _, _ => none
  | k + 1, x_40, x_44 => (if (decide (x_44 < (y_4.Cols.length : Int))) = true then ((ix y_4.Cols x_44).bind fun y_66 => ((apd 16 x_40 [y_66.Name]).bind fun y_76 => (law02_TableAll.l0 a1 y_2 y_4 k y_76 (IntKind.i64.wrap (x_44 + 1))))) else ((table_Keep y_4 x_40).bind fun y_82 => ((ref02_Canon y_4).bind fun y_109 => ((ref02_Same y_82.1 y_109).bind fun y_121 => (if (decide (a1 < 0)) = true then (law02_TableAll.j1 y_2 y_4 x_40 y_82 y_121 (IntKind.i64.wrap (0 - (IntKind.i64.wrap (a1 + 1))))) else (law02_TableAll.j1 y_2 y_4 x_40 y_82 y_121 a1))))))

def law02_TableAll (a0 : api_Table) (a1 : Int) : Option Bool :=
  ((law02_shown).bind fun y_2 => ((law02_cut a0).bind fun y_4 => ((ref02_Check y_4).bind fun y_12 => (if (y_12 != 0) = true then some y_2 else (law02_TableAll.l0 a1 y_2 y_4 (((y_4.Cols.length : Int) - 0).toNat + 1) [] 0)))))

/-! ### catchment/catchmentlaw02.TableThree -/
def law02_TableThree.j1 (kl0 : (List Int) → Int → Option Bool) (y_5 : api_Table) (x_40 : List Int) (x_44 : Int) (x_71 : Int) : Option Bool :=
  (if ((IntKind.i64.wrap ((y_5.Rows.length : Int) + 1)) != 0) = true then ((ix x_40 (IntKind.i64.wrap (x_44 + 1))).bind fun y_75 => (kl0 (upd x_40 (IntKind.i64.wrap (x_44 + 1)) (x_71.tmod (IntKind.i64.wrap ((y_5.Rows.length : Int) + 1)))) (IntKind.i64.wrap (x_44 + 1)))) else none)

def law02_TableThree.j2 (y_3 : Bool) (y_5 : api_Table) (x_244 : List Int) : Option Bool :=
  ((ix x_244 1).bind fun y_388 => ((cut y_5.Rows 0 y_388).bind fun y_396 => ((ix x_244 1).bind fun y_424 => ((ix x_244 2).bind fun y_432 => ((cut y_5.Rows y_424 y_432).bind fun y_440 => ((ix x_244 2).bind fun y_460 => ((cut y_5.Rows y_460 y_5.Rows.length).bind fun y_468 => ((table_Union (⟨y_5.Cols, y_396⟩ : api_Table) (⟨y_5.Cols, y_440⟩ : api_Table)).bind fun y_474 => ((table_Union y_474.1 (⟨y_5.Cols, y_468⟩ : api_Table)).bind fun y_493 => ((table_Union (⟨y_5.Cols, y_440⟩ : api_Table) (⟨y_5.Cols, y_468⟩ : api_Table)).bind fun y_505 => ((table_Union (⟨y_5.Cols, y_396⟩ : api_Table) y_505.1).bind fun y_524 => ((ref02_Same y_493.1 y_524.1).bind fun y_536 => ((ref02_Canon y_5).bind fun y_552 => ((ref02_Same y_493.1 y_552).bind fun y_564 => (if y_3 = true then (if (y_474.2 == 0) = true then (if (y_493.2 == 0) = true then (if (y_505.2 == 0) = true then (if (y_524.2 == 0) = true then (if y_536 = true then some y_564 else some false) else some false) else some false) else some false) else some false) else some false)))))))))))))))

def law02_TableThree.l0 (a1 : Arr2) (y_3 : Bool) (y_5 : api_Table) : Nat → (List Int) → Int → Option Bool
  | 0, _, _ => none
  | k + 1, x_40, x_44 => (if (decide (x_44 < 2)) = true then ((Arr2.ix a1 x_44).bind fun y_68 => (if (decide (y_68 < 0)) = true then (law02_TableThree.j1 (law02_TableThree.l0 a1 y_3 y_5 k) y_5 x_40 x_44 (IntKind.i64.wrap (0 - (IntKind.i64.wrap (y_68 + 1))))) else (law02_TableThree.j1 (law02_TableThree.l0 a1 y_3 y_5 k) y_5 x_40 x_44 y_68))) else ((ix x_40 1).bind fun y_102 => ((ix x_40 2).bind fun y_110 => (if (decide (y_102 > y_110)) = true then ((ix x_40 2).bind fun y_312 => ((ix x_40 1).bind fun y_320 => ((ix x_40 1).bind fun y_328 => ((ix (upd x_40 1 y_312) 2).bind fun y_351 => (law02_TableThree.j2 y_3 y_5 (upd (upd x_40 1 y_312) 2 y_320)))))) else (law02_TableThree.j2 y_3 y_5 x_40)))))

def law02_TableThree (a0 : api_Table) (a1 : Arr2) : Option Bool :=
  ((law02_shown).bind fun y_3 => ((law02_cut a0).bind fun y_5 => ((ref02_Check y_5).bind fun y_13 => (if (y_13 != 0) = true then some y_3 else (law02_TableThree.l0 a1 y_3 y_5 (((2 : Int) - 0).toNat + 1) [0, 0, 0, (y_5.Rows.length : Int)] 0)))))

end
end Go.Proofs.Ytojfckndloelpaa.M
