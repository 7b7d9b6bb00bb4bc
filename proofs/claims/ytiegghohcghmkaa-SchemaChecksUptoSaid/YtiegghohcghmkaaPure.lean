/- The functions that the laws come to, as plain Lean functions over numbers and lists (none: Go would panic, or the bound on rounds is used up). Printed by wip/eng/gen.py. -/
import Derived.Test.YtiegghohcghmkaaEngL
import Derived.Lib.IndexMore
namespace Go.Proofs.Ytiegghohcghmkaa.M
open Go Go.Eng Go.Proofs Go.RowKit
set_option linter.unusedVariables false
set_option maxRecDepth 100000
noncomputable section

structure api_Col where
  Name : ByteArray
  Kind : Int
  deriving DecidableEq
def ty_api_Col : Ty api_Col := Ty.flat 2 (fun x => [.string x.Name, .int .i64 x.Kind]) (fun _ => rfl) (fun _ => all_cons rfl (all_cons rfl (all_nil)))
def ok_api_Col (x : api_Col) : Prop := (fun s => s.size ≤ 140737488351232) x.Name ∧ (fun x => (Lit.int .i64 x).wf = true) x.Kind

structure api_Schema where
  Name : ByteArray
  Keys : List api_Col
  Vals : List api_Col
  deriving DecidableEq
def ty_api_Schema : Ty api_Schema where
  n := 3
  rep := fun R cs x => ∃ v0 v1, cs = [.string x.Name, v0, v1] ∧ SlR ty_api_Col R v0 x.Keys ∧ SlR ty_api_Col R v1 x.Vals
  mono := fun hR ⟨v0, v1, h, h0, h1⟩ => ⟨v0, v1, h, h0.mono hR, h1.mono hR⟩
  len := fun ⟨v0, v1, h, h0, h1⟩ => by subst h; rfl
  one := fun ⟨v0, v1, h, h0, h1⟩ => by subst h; exact all_cons rfl (all_cons h0.one (all_cons h1.one (all_nil)))
def ok_api_Schema (x : api_Schema) : Prop := (fun s => s.size ≤ 140737488351232) x.Name ∧ (fun xs => xs.length * 24 ≤ 140737488351232 ∧ ∀ x ∈ xs, ok_api_Col x) x.Keys ∧ (fun xs => xs.length * 24 ≤ 140737488351232 ∧ ∀ x ∈ xs, ok_api_Col x) x.Vals

structure api_Value where
  Kind : Int
  N : Int
  S : ByteArray
  H : Arr8
  deriving DecidableEq
def ty_api_Value : Ty api_Value := Ty.flat 11 (fun x => [.int .i64 x.Kind, .int .i64 x.N, .string x.S, .int .i64 x.H.a0, .int .i64 x.H.a1, .int .i64 x.H.a2, .int .i64 x.H.a3, .int .i64 x.H.a4, .int .i64 x.H.a5, .int .i64 x.H.a6, .int .i64 x.H.a7]) (fun _ => rfl) (fun _ => all_cons rfl (all_cons rfl (all_cons rfl (all_cons rfl (all_cons rfl (all_cons rfl (all_cons rfl (all_cons rfl (all_cons rfl (all_cons rfl (all_cons rfl (all_nil))))))))))))
def ok_api_Value (x : api_Value) : Prop := (fun x => (Lit.int .i64 x).wf = true) x.Kind ∧ (fun x => (Lit.int .i64 x).wf = true) x.N ∧ (fun s => s.size ≤ 140737488351232) x.S ∧ ok_Arr8 x.H

structure api_Point where
  Schema : ByteArray
  Keys : List api_Value
  Time : Int
  Vals : List api_Value
  deriving DecidableEq
def ty_api_Point : Ty api_Point where
  n := 4
  rep := fun R cs x => ∃ v0 v1, cs = [.string x.Schema, v0, .int .i64 x.Time, v1] ∧ SlR ty_api_Value R v0 x.Keys ∧ SlR ty_api_Value R v1 x.Vals
  mono := fun hR ⟨v0, v1, h, h0, h1⟩ => ⟨v0, v1, h, h0.mono hR, h1.mono hR⟩
  len := fun ⟨v0, v1, h, h0, h1⟩ => by subst h; rfl
  one := fun ⟨v0, v1, h, h0, h1⟩ => by subst h; exact all_cons rfl (all_cons h0.one (all_cons rfl (all_cons h1.one (all_nil))))
def ok_api_Point (x : api_Point) : Prop := (fun s => s.size ≤ 140737488351232) x.Schema ∧ (fun xs => xs.length * 96 ≤ 140737488351232 ∧ ∀ x ∈ xs, ok_api_Value x) x.Keys ∧ (fun x => (Lit.int .i64 x).wf = true) x.Time ∧ (fun xs => xs.length * 96 ≤ 140737488351232 ∧ ∀ x ∈ xs, ok_api_Value x) x.Vals

structure api_Table where
  Cols : List api_Col
  Rows : List (List api_Value)
  deriving DecidableEq
def ty_api_Table : Ty api_Table where
  n := 2
  rep := fun R cs x => ∃ v0 v1, cs = [v0, v1] ∧ SlR ty_api_Col R v0 x.Cols ∧ SlR (tySl ty_api_Value) R v1 x.Rows
  mono := fun hR ⟨v0, v1, h, h0, h1⟩ => ⟨v0, v1, h, h0.mono hR, h1.mono hR⟩
  len := fun ⟨v0, v1, h, h0, h1⟩ => by subst h; rfl
  one := fun ⟨v0, v1, h, h0, h1⟩ => by subst h; exact all_cons h0.one (all_cons h1.one (all_nil))
def ok_api_Table (x : api_Table) : Prop := (fun xs => xs.length * 24 ≤ 140737488351232 ∧ ∀ x ∈ xs, ok_api_Col x) x.Cols ∧ (fun xs => xs.length * 24 ≤ 140737488351232 ∧ ∀ x ∈ xs, (fun xs => xs.length * 96 ≤ 140737488351232 ∧ ∀ x ∈ xs, ok_api_Value x) x) x.Rows

/-! ### catchment/catchmentlaw05.load -/
def law05_load : Option api_Schema :=
  some (⟨(⟨#[108, 111, 97, 100]⟩ : ByteArray), [(⟨(⟨#[104, 111, 115, 116]⟩ : ByteArray), 2⟩ : api_Col)], [(⟨(⟨#[110]⟩ : ByteArray), 1⟩ : api_Col)]⟩ : api_Schema)

/-! ### catchment/catchmentlaw05.point -/
def law05_point (a0 : Int) : Option api_Point :=
  some (⟨(⟨#[108, 111, 97, 100]⟩ : ByteArray), [(⟨2, 0, (⟨#[97]⟩ : ByteArray), (⟨0, 0, 0, 0, 0, 0, 0, 0⟩ : Arr8)⟩ : api_Value)], a0, [(⟨1, 7, (⟨#[]⟩ : ByteArray), (⟨0, 0, 0, 0, 0, 0, 0, 0⟩ : Arr8)⟩ : api_Value)]⟩ : api_Point)

/-! ### catchment/schema.Find -/
def schema_Find.l0 (a0 : List api_Schema) (a1 : ByteArray) : Nat → Int → Option (api_Schema × Bool)
  | 0, _ => none
  | k + 1, x_19 => (if (decide (x_19 < (a0.length : Int))) = true then ((ix a0 x_19).bind fun y_38 => (if (y_38.Name.toList == a1.toList) = true then some (y_38, true) else (schema_Find.l0 a0 a1 k (IntKind.i64.wrap (x_19 + 1))))) else some ((⟨(⟨#[]⟩ : ByteArray), [], []⟩ : api_Schema), false))

def schema_Find (a0 : List api_Schema) (a1 : ByteArray) : Option (api_Schema × Bool) :=
  (schema_Find.l0 a0 a1 (((a0.length : Int) - 0).toNat + 1) 0)

/-! ### catchment/table.Name -/
def table_Name.j2 (kl0 : Int → Option Bool) (a0 : ByteArray) (x_11 : Int) : Option Bool :=
  (kl0 (IntKind.i64.wrap (x_11 + 1)))

def table_Name.j3 (kl0 : Int → Option Bool) (a0 : ByteArray) (x_11 : Int) (x_77 : Bool) : Option Bool :=
  (if x_77 = true then (table_Name.j2 kl0 a0 x_11) else some false)

def table_Name.j1 (kl0 : Int → Option Bool) (a0 : ByteArray) (x_11 : Int) (y_50 : Int) (x_53 : Bool) : Option Bool :=
  (if x_53 = true then (table_Name.j2 kl0 a0 x_11) else (if (decide (x_11 > 0)) = true then (if (decide (y_50 ≥ 48)) = true then (if (decide (y_50 ≤ 57)) = true then (table_Name.j3 kl0 a0 x_11 true) else (if (y_50 == 95) = true then (table_Name.j3 kl0 a0 x_11 true) else (table_Name.j3 kl0 a0 x_11 (y_50 == 35)))) else (if (y_50 == 95) = true then (table_Name.j3 kl0 a0 x_11 true) else (table_Name.j3 kl0 a0 x_11 (y_50 == 35)))) else (table_Name.j3 kl0 a0 x_11 false)))

def table_Name.l0 (a0 : ByteArray) : Nat → Int → Option Bool
  | 0, _ => none
  | k + 1, x_11 => (if (decide (x_11 < (a0.size : Int))) = true then ((ixs a0 x_11).bind fun y_50 => (if (decide (y_50 ≥ 97)) = true then (table_Name.j1 (table_Name.l0 a0 k) a0 x_11 y_50 (decide (y_50 ≤ 122))) else (table_Name.j1 (table_Name.l0 a0 k) a0 x_11 y_50 false))) else (if (decide ((a0.size : Int) ≥ 1)) = true then some (decide ((a0.size : Int) ≤ 24)) else some false))

def table_Name (a0 : ByteArray) : Option Bool :=
  (table_Name.l0 a0 (((a0.size : Int) - 0).toNat + 1) 0)

/-! ### strings.Contains -/
def strings_Contains (a0 : ByteArray) (a1 : ByteArray) : Option Bool := if a0.size < 4294967281 then some (Lib.contains a0.data.toList a1.data.toList) else none

/-! ### catchment/schema.Word -/
def schema_Word (a0 : ByteArray) : Option Bool :=
  ((table_Name a0).bind fun y_1 => (if y_1 = true then ((strings_Contains a0 (⟨#[35]⟩ : ByteArray)).bind fun y_4 => (if (!y_4) = true then (if (decide ((⟨#[32]⟩ : ByteArray).size + a0.size ≤ 9223372036854775807)) = true then (if (decide (((⟨#[32]⟩ : ByteArray) ++ a0).size + (⟨#[32]⟩ : ByteArray).size ≤ 9223372036854775807)) = true then ((strings_Contains (⟨#[32, 102, 101, 116, 99, 104, 32, 102, 114, 111, 109, 32, 116, 111, 32, 119, 104, 101, 114, 101, 32, 107, 101, 101, 112, 32, 97, 108, 105, 103, 110, 32, 103, 114, 111, 117, 112, 32, 116, 111, 112, 32, 98, 121, 32, 106, 111, 105, 110, 32, 117, 110, 105, 111, 110, 32, 97, 110, 100, 32, 111, 114, 32, 110, 111, 116, 32, 104, 97, 115, 32, 116, 114, 117, 101, 32, 102, 97, 108, 115, 101, 32, 99, 111, 117, 110, 116, 32, 115, 117, 109, 32, 109, 105, 110, 32, 109, 97, 120, 32, 109, 101, 97, 110, 32, 109, 101, 114, 103, 101, 32, 116, 105, 109, 101, 32]⟩ : ByteArray) (((⟨#[32]⟩ : ByteArray) ++ a0) ++ (⟨#[32]⟩ : ByteArray))).bind fun y_9 => some (!y_9)) else none) else none) else some false)) else some false))

/-! ### catchment/schema.one$1 -/
def schema_one_1 (a0 : api_Col) : Option Bool :=
  ((schema_Word a0.Name).bind fun y_2 => some y_2)

/-! ### catchment/schema.all -/
def schema_all_f_schema_one_1.l1 (kl0 : Int → Option Bool) (a1 : List (List api_Col)) (x_59 : Int) (y_119 : List api_Col) : Nat → Int → Option Bool
  | 0, _ => none
  | k + 1, x_145 => (if (decide (x_145 < (y_119.length : Int))) = true then ((ix y_119 x_145).bind fun y_162 => ((schema_one_1 y_162).bind fun y_172 => (if (!y_172) = true then some false else (schema_all_f_schema_one_1.l1 kl0 a1 x_59 y_119 k (IntKind.i64.wrap (x_145 + 1)))))) else (kl0 (IntKind.i64.wrap (x_59 + 1))))

def schema_all_f_schema_one_1.l0 (a1 : List (List api_Col)) : Nat → Int → Option Bool
  | 0, _ => none
  | k + 1, x_59 => (if (decide (x_59 < (a1.length : Int))) = true then ((ix a1 x_59).bind fun y_119 => (schema_all_f_schema_one_1.l1 (schema_all_f_schema_one_1.l0 a1 k) a1 x_59 y_119 (((y_119.length : Int) - 0).toNat + 1) 0)) else some true)

def schema_all_f_schema_one_1 (a1 : List (List api_Col)) : Option Bool :=
  (schema_all_f_schema_one_1.l0 a1 (((a1.length : Int) - 0).toNat + 1) 0)

/-! ### catchment/schema.one$2 -/
def schema_one_2 (a0 : api_Col) : Option Bool :=
  some (a0.Kind != 4)

/-! ### catchment/schema.all -/
def schema_all_f_schema_one_2.l1 (kl0 : Int → Option Bool) (a1 : List (List api_Col)) (x_59 : Int) (y_119 : List api_Col) : Nat → Int → Option Bool
  | 0, _ => none
  | k + 1, x_145 => (if (decide (x_145 < (y_119.length : Int))) = true then ((ix y_119 x_145).bind fun y_162 => ((schema_one_2 y_162).bind fun y_172 => (if (!y_172) = true then some false else (schema_all_f_schema_one_2.l1 kl0 a1 x_59 y_119 k (IntKind.i64.wrap (x_145 + 1)))))) else (kl0 (IntKind.i64.wrap (x_59 + 1))))

def schema_all_f_schema_one_2.l0 (a1 : List (List api_Col)) : Nat → Int → Option Bool
  | 0, _ => none
  | k + 1, x_59 => (if (decide (x_59 < (a1.length : Int))) = true then ((ix a1 x_59).bind fun y_119 => (schema_all_f_schema_one_2.l1 (schema_all_f_schema_one_2.l0 a1 k) a1 x_59 y_119 (((y_119.length : Int) - 0).toNat + 1) 0)) else some true)

def schema_all_f_schema_one_2 (a1 : List (List api_Col)) : Option Bool :=
  (schema_all_f_schema_one_2.l0 a1 (((a1.length : Int) - 0).toNat + 1) 0)

/-! ### slices.Grow[[]catchment/api.Col,catchment/api.Col] -/
def slices_Grow_api_Col_api_Col (a0 : List api_Col) (a1 : Int) : Option (List api_Col) := grow0 24 a0 a1

/-! ### slices.Concat[[]catchment/api.Col,catchment/api.Col] -/
def slices_Concat_api_Col_api_Col.l1 (a0 : List (List api_Col)) : Nat → (List api_Col) → Int → Option (List api_Col)
  | 0, _, _ => none
  | k + 1, x_75, x_79 => (if (decide (x_79 < (a0.length : Int))) = true then ((ix a0 x_79).bind fun y_100 => ((apd 24 x_75 y_100).bind fun y_111 => (slices_Concat_api_Col_api_Col.l1 a0 k y_111 (IntKind.i64.wrap (x_79 + 1))))) else some x_75)

def slices_Concat_api_Col_api_Col.l0 (a0 : List (List api_Col)) : Nat → Int → Int → Option (List api_Col)
  | 0, _, _ => none
  | k + 1, x_16, x_17 => (if (decide (x_17 < (a0.length : Int))) = true then ((ix a0 x_17).bind fun y_34 => (if (decide ((IntKind.i64.wrap (x_16 + (y_34.length : Int))) < 0)) = true then none else (slices_Concat_api_Col_api_Col.l0 a0 k (IntKind.i64.wrap (x_16 + (y_34.length : Int))) (IntKind.i64.wrap (x_17 + 1))))) else ((slices_Grow_api_Col_api_Col ([] : List api_Col) x_16).bind fun y_47 => (slices_Concat_api_Col_api_Col.l1 a0 (((a0.length : Int) - 0).toNat + 1) y_47 0)))

def slices_Concat_api_Col_api_Col (a0 : List (List api_Col)) : Option (List api_Col) :=
  (slices_Concat_api_Col_api_Col.l0 a0 (((a0.length : Int) - 0).toNat + 1) 0 0)

/-! ### catchment/table.Find$1 -/
def table_Find_1_cp (a0 : api_Col) (a1 : ByteArray) : Option Bool :=
  some (a0.Name.toList == a1.toList)

/-! ### slices.IndexFunc[[]catchment/api.Col,catchment/api.Col] -/
def slices_IndexFunc_api_Col_api_Col_f_table_Find_1p.l0 (a0 : List api_Col) (a1_0 : ByteArray) : Nat → Int → Option Int
  | 0, _ => none
  | k + 1, x_15 => (if (decide (x_15 < (a0.length : Int))) = true then ((ix a0 x_15).bind fun y_31 => ((table_Find_1_cp y_31 a1_0).bind fun y_40 => (if y_40 = true then some x_15 else (slices_IndexFunc_api_Col_api_Col_f_table_Find_1p.l0 a0 a1_0 k (IntKind.i64.wrap (x_15 + 1)))))) else some (-1))

def slices_IndexFunc_api_Col_api_Col_f_table_Find_1p (a0 : List api_Col) (a1_0 : ByteArray) : Option Int :=
  (slices_IndexFunc_api_Col_api_Col_f_table_Find_1p.l0 a0 a1_0 (((a0.length : Int) - 0).toNat + 1) 0)

/-! ### catchment/table.Find -/
def table_Find (a0 : List api_Col) (a1 : ByteArray) : Option Int :=
  ((slices_IndexFunc_api_Col_api_Col_f_table_Find_1p a0 a1).bind fun y_2 => some y_2)

/-! ### catchment/table.columns -/
def table_columns.j1 (kl0 : Int → Option Bool) (a0 : List api_Col) (x_30 : Int) (x_78 : Bool) : Option Bool :=
  (if x_78 = true then some false else (kl0 (IntKind.i64.wrap (x_30 + 1))))

def table_columns.l0 (a0 : List api_Col) : Nat → Int → Option Bool
  | 0, _ => none
  | k + 1, x_30 => (if (decide (x_30 < (a0.length : Int))) = true then ((ix a0 x_30).bind fun y_61 => ((table_Name y_61.Name).bind fun y_80 => (if (!y_80) = true then (table_columns.j1 (table_columns.l0 a0 k) a0 x_30 true) else (if (decide (y_61.Kind < 1)) = true then (table_columns.j1 (table_columns.l0 a0 k) a0 x_30 true) else (if (decide (y_61.Kind > 4)) = true then (table_columns.j1 (table_columns.l0 a0 k) a0 x_30 true) else ((table_Find a0 y_61.Name).bind fun y_85 => (table_columns.j1 (table_columns.l0 a0 k) a0 x_30 (y_85 != x_30)))))))) else (if (decide ((a0.length : Int) ≥ 1)) = true then some (decide ((a0.length : Int) ≤ 16)) else some false))

def table_columns (a0 : List api_Col) : Option Bool :=
  (table_columns.l0 a0 (((a0.length : Int) - 0).toNat + 1) 0)

/-! ### catchment/value.Valid -/
def value_Valid.j0 (x_59 : Int) (x_60 : ByteArray) (x_61 : Arr8) (x_62 : Bool) : Option Bool :=
  (if x_62 = true then some (decide ((⟨0, x_59, x_60, x_61⟩ : api_Value) = (⟨0, 0, (⟨#[]⟩ : ByteArray), (⟨0, 0, 0, 0, 0, 0, 0, 0⟩ : Arr8)⟩ : api_Value))) else some false)

def value_Valid.j1 (x_90 : Int) (x_91 : ByteArray) (x_92 : Arr8) (x_93 : Bool) : Option Bool :=
  (value_Valid.j0 x_90 x_91 x_92 x_93)

def value_Valid.j2 (a0 : api_Value) (x_106 : Int) (x_107 : Arr8) (x_108 : Bool) : Option Bool :=
  (value_Valid.j1 x_106 a0.S x_107 x_108)

def value_Valid.j3 (a0 : api_Value) (x_112 : Bool) : Option Bool :=
  (value_Valid.j2 a0 0 a0.H x_112)

def value_Valid.j4 (a0 : api_Value) (x_116 : Arr8) (x_117 : Bool) : Option Bool :=
  (value_Valid.j2 a0 a0.N x_116 x_117)

def value_Valid (a0 : api_Value) : Option Bool :=
  (if (a0.Kind == 1) = true then (value_Valid.j0 0 a0.S a0.H true) else (if (a0.Kind == 2) = true then (value_Valid.j1 a0.N (⟨#[]⟩ : ByteArray) a0.H (decide ((a0.S.size : Int) ≤ 64))) else (if (a0.Kind == 3) = true then (if (a0.N == 0) = true then (value_Valid.j3 a0 true) else (value_Valid.j3 a0 (a0.N == 1))) else (if (a0.Kind == 4) = true then (value_Valid.j4 a0 (⟨0, 0, 0, 0, 0, 0, 0, 0⟩ : Arr8) true) else (value_Valid.j4 a0 a0.H false)))))

/-! ### catchment/table.Check -/
def table_Check.j2 (kl1 : Int → Option Int) (y_413 : List api_Value) (x_488 : Int) (x_587 : Bool) : Option Int :=
  (if x_587 = true then some 21 else (kl1 (IntKind.i64.wrap (x_488 + 1))))

def table_Check.l1 (kl0 : Int → Option Int) (a0 : api_Table) (x_208 : Int) (y_413 : List api_Value) : Nat → Int → Option Int
  | 0, _ => none
  | k + 1, x_488 => (if (decide (x_488 < (y_413.length : Int))) = true then ((ix y_413 x_488).bind fun y_553 => ((ix a0.Cols x_488).bind fun y_601 => (if (y_553.Kind != y_601.Kind) = true then (table_Check.j2 (table_Check.l1 kl0 a0 x_208 y_413 k) y_413 x_488 true) else ((value_Valid y_553).bind fun y_611 => (table_Check.j2 (table_Check.l1 kl0 a0 x_208 y_413 k) y_413 x_488 (!y_611)))))) else (kl0 (IntKind.i64.wrap (x_208 + 1))))

def table_Check.l0 (a0 : api_Table) : Nat → Int → Option Int
  | 0, _ => none
  | k + 1, x_208 => (if (decide (x_208 < (a0.Rows.length : Int))) = true then ((ix a0.Rows x_208).bind fun y_413 => (if ((y_413.length : Int) != (a0.Cols.length : Int)) = true then some 21 else (table_Check.l1 (table_Check.l0 a0 k) a0 x_208 y_413 (((y_413.length : Int) - 0).toNat + 1) 0))) else some 0)

def table_Check (a0 : api_Table) : Option Int :=
  ((table_columns a0.Cols).bind fun y_2 => (if (!y_2) = true then some 20 else (table_Check.l0 a0 (((a0.Rows.length : Int) - 0).toNat + 1) 0)))

/-! ### catchment/schema.one -/
def schema_one.j0 (a0 : api_Schema) (y_7 : Bool) (y_10 : Bool) (x_15 : Bool) : Option Bool :=
  (if x_15 = true then (if y_7 = true then (if y_10 = true then ((slices_Concat_api_Col_api_Col [a0.Keys, a0.Vals]).bind fun y_24 => ((table_Check (⟨y_24, []⟩ : api_Table)).bind fun y_33 => some (y_33 == 0))) else some false) else some false) else some false)

def schema_one (a0 : api_Schema) : Option Bool :=
  ((schema_all_f_schema_one_1 [a0.Keys, a0.Vals, [(⟨a0.Name, 0⟩ : api_Col)]]).bind fun y_7 => ((schema_all_f_schema_one_2 [a0.Keys]).bind fun y_10 => (if (decide ((a0.Keys.length : Int) ≥ 1)) = true then (if (decide ((a0.Keys.length : Int) ≤ 4)) = true then (if (decide ((a0.Vals.length : Int) ≥ 1)) = true then (schema_one.j0 a0 y_7 y_10 (decide ((a0.Vals.length : Int) ≤ 4))) else (schema_one.j0 a0 y_7 y_10 false)) else (schema_one.j0 a0 y_7 y_10 false)) else (schema_one.j0 a0 y_7 y_10 false))))

/-! ### catchment/schema.Check$1 -/
def schema_Check_1_cp (a0 : api_Schema) (a1 : api_Schema) : Option Bool :=
  some (a0.Name.toList == a1.Name.toList)

/-! ### slices.IndexFunc[[]catchment/api.Schema,catchment/api.Schema] -/
def slices_IndexFunc_api_Schema_api_Schema_f_schema_Check_1p.l0 (a0 : List api_Schema) (a1_0 : api_Schema) : Nat → Int → Option Int
  | 0, _ => none
  | k + 1, x_19 => (if (decide (x_19 < (a0.length : Int))) = true then ((ix a0 x_19).bind fun y_39 => ((schema_Check_1_cp y_39 a1_0).bind fun y_52 => (if y_52 = true then some x_19 else (slices_IndexFunc_api_Schema_api_Schema_f_schema_Check_1p.l0 a0 a1_0 k (IntKind.i64.wrap (x_19 + 1)))))) else some (-1))

def slices_IndexFunc_api_Schema_api_Schema_f_schema_Check_1p (a0 : List api_Schema) (a1_0 : api_Schema) : Option Int :=
  (slices_IndexFunc_api_Schema_api_Schema_f_schema_Check_1p.l0 a0 a1_0 (((a0.length : Int) - 0).toNat + 1) 0)

/-! ### slices.ContainsFunc[[]catchment/api.Schema,catchment/api.Schema] -/
def slices_ContainsFunc_api_Schema_api_Schema_f_schema_Check_1p (a0 : List api_Schema) (a1_0 : api_Schema) : Option Bool :=
  ((slices_IndexFunc_api_Schema_api_Schema_f_schema_Check_1p a0 a1_0).bind fun y_1 => some (decide (y_1 ≥ 0)))

/-! ### catchment/schema.Check -/
def schema_Check.j2 (kl1 : Int → Option Int) (a0 : List api_Schema) (x_45 : Int) (x_110 : Bool) : Option Int :=
  (if x_110 = true then some 50 else (kl1 (IntKind.i64.wrap (x_45 + 1))))

def schema_Check.l1 (a0 : List api_Schema) : Nat → Int → Option Int
  | 0, _ => none
  | k + 1, x_45 => (if (decide (x_45 < (a0.length : Int))) = true then ((ix a0 x_45).bind fun y_86 => ((schema_one y_86).bind fun y_112 => (if (!y_112) = true then (schema_Check.j2 (schema_Check.l1 a0 k) a0 x_45 true) else ((cut a0 0 x_45).bind fun y_115 => ((slices_ContainsFunc_api_Schema_api_Schema_f_schema_Check_1p y_115 y_86).bind fun y_120 => (schema_Check.j2 (schema_Check.l1 a0 k) a0 x_45 y_120)))))) else some 0)

def schema_Check.j0 (a0 : List api_Schema) (x_2 : Bool) : Option Int :=
  (if x_2 = true then some 50 else (schema_Check.l1 a0 (((a0.length : Int) - 0).toNat + 1) 0))

def schema_Check (a0 : List api_Schema) : Option Int :=
  (if (decide ((a0.length : Int) < 1)) = true then (schema_Check.j0 a0 true) else (schema_Check.j0 a0 (decide ((a0.length : Int) > 8))))

/-! ### catchment/schema.fit$1 -/
def schema_fit_1 (a0 : api_Value) (a1 : api_Col) : Option Bool :=
  (if (a0.Kind == a1.Kind) = true then ((value_Valid a0).bind fun y_4 => some y_4) else some false)

/-! ### slices.EqualFunc[[]catchment/api.Value,[]catchment/api.Col,catchment/api.Value,catchment/api.Col] -/
def slices_EqualFunc_api_Value_api_Col_api_Value_api_Col_f_schema_fit_1.l0 (a0 : List api_Value) (a1 : List api_Col) : Nat → Int → Option Bool
  | 0, _ => none
  | k + 1, x_27 => (if (decide (x_27 < (a0.length : Int))) = true then ((ix a0 x_27).bind fun y_54 => ((ix a1 x_27).bind fun y_64 => ((schema_fit_1 y_54 y_64).bind fun y_74 => (if (!y_74) = true then some false else (slices_EqualFunc_api_Value_api_Col_api_Value_api_Col_f_schema_fit_1.l0 a0 a1 k (IntKind.i64.wrap (x_27 + 1))))))) else some true)

def slices_EqualFunc_api_Value_api_Col_api_Value_api_Col_f_schema_fit_1 (a0 : List api_Value) (a1 : List api_Col) : Option Bool :=
  (if ((a0.length : Int) != (a1.length : Int)) = true then some false else (slices_EqualFunc_api_Value_api_Col_api_Value_api_Col_f_schema_fit_1.l0 a0 a1 (((a0.length : Int) - 0).toNat + 1) 0))

/-! ### catchment/schema.fit -/
def schema_fit (a0 : List api_Value) (a1 : List api_Col) : Option Bool :=
  ((slices_EqualFunc_api_Value_api_Col_api_Value_api_Col_f_schema_fit_1 a0 a1).bind fun y_1 => some y_1)

/-! ### catchment/schema.Fits -/
def schema_Fits.j0 (x_29 : Bool) : Option Int :=
  (if x_29 = true then some 51 else some 0)

def schema_Fits.j1 (x_39 : Bool) : Option Int :=
  (schema_Fits.j0 x_39)

def schema_Fits.j2 (x_43 : Bool) : Option Int :=
  (schema_Fits.j1 x_43)

def schema_Fits (a0 : List api_Schema) (a1 : api_Point) : Option Int :=
  ((schema_Find a0 a1.Schema).bind fun y_2 => (if (!y_2.2) = true then some 50 else ((schema_fit a1.Keys y_2.1.Keys).bind fun y_12 => (if (!y_12) = true then (schema_Fits.j0 (!y_12)) else ((schema_fit a1.Vals y_2.1.Vals).bind fun y_32 => (if (!y_32) = true then (schema_Fits.j1 (!y_32)) else (if (decide (a1.Time < 0)) = true then (schema_Fits.j2 (decide (a1.Time < 0))) else (schema_Fits.j2 (decide (a1.Time ≥ 1099511627776))))))))))

/-! ### catchment/schema.Cols -/
def schema_Cols (a0 : api_Schema) : Option (List api_Col) :=
  ((slices_Concat_api_Col_api_Col [[(⟨(⟨#[116, 105, 109, 101]⟩ : ByteArray), 1⟩ : api_Col)], a0.Keys, a0.Vals]).bind fun y_7 => some y_7)

/-! ### catchment/catchmentlaw05.shown -/
def law05_shown : Option Bool :=
  ((law05_load).bind fun y_1 => ((law05_point 5).bind fun y_14 => ((schema_Find [y_1] (⟨#[108, 111, 97, 100]⟩ : ByteArray)).bind fun y_36 => ((schema_Find [y_1] (⟨#[108, 111, 97, 100, 115]⟩ : ByteArray)).bind fun y_45 => ((schema_Word (⟨#[104, 111, 115, 116]⟩ : ByteArray)).bind fun y_54 => (if y_54 = true then ((schema_Word (⟨#[116, 105, 109, 101]⟩ : ByteArray)).bind fun y_57 => (if (!y_57) = true then ((schema_Word (⟨#[97, 35]⟩ : ByteArray)).bind fun y_60 => (if (!y_60) = true then ((schema_Check [y_1]).bind fun y_63 => (if (y_63 == 0) = true then ((law05_load).bind fun y_66 => ((apd 64 [y_1] [y_66]).bind fun y_85 => ((schema_Check y_85).bind fun y_94 => (if (y_94 == 50) = true then ((schema_Check ([] : List api_Schema)).bind fun y_97 => (if (y_97 == 50) = true then ((law05_point 5).bind fun y_100 => ((schema_Fits [y_1] y_100).bind fun y_112 => (if (y_112 == 0) = true then ((law05_point (-1)).bind fun y_115 => ((schema_Fits [y_1] y_115).bind fun y_127 => (if (y_127 == 51) = true then ((schema_Fits [y_1] (⟨(⟨#[108, 111, 97, 100, 115]⟩ : ByteArray), y_14.Keys, y_14.Time, y_14.Vals⟩ : api_Point)).bind fun y_130 => (if (y_130 == 50) = true then (if y_36.2 = true then (if (!y_45.2) = true then ((law05_load).bind fun y_135 => ((schema_Cols y_135).bind fun y_153 => some ((y_153.length : Int) == 3))) else some false) else some false) else some false)) else some false))) else some false))) else some false)) else some false)))) else some false)) else some false)) else some false)) else some false))))))

/-! ### catchment/catchmentref05.Find -/
def ref05_Find.l0 (a0 : List api_Schema) (a1 : ByteArray) : Nat → Int → Option (api_Schema × Bool)
  | 0, _ => none
  | k + 1, x_31 => (if (decide (x_31 < (a0.length : Int))) = true then ((ix a0 x_31).bind fun y_62 => (if (y_62.Name.toList == a1.toList) = true then ((ix a0 x_31).bind fun y_76 => some (y_76, true)) else (ref05_Find.l0 a0 a1 k (IntKind.i64.wrap (x_31 + 1))))) else some ((⟨(⟨#[]⟩ : ByteArray), [], []⟩ : api_Schema), false))

def ref05_Find (a0 : List api_Schema) (a1 : ByteArray) : Option (api_Schema × Bool) :=
  (ref05_Find.l0 a0 a1 (((a0.length : Int) - 0).toNat + 1) 0)

/-! ### catchment/catchmentref02.SameCols -/
def ref02_SameCols.l0 (a0 : List api_Col) (a1 : List api_Col) : Nat → Int → Option Bool
  | 0, _ => none
  | k + 1, x_41 => (if (decide (x_41 < (a0.length : Int))) = true then ((ix a0 x_41).bind fun y_100 => ((ix a1 x_41).bind fun y_109 => (if (!decide (y_100 = y_109)) = true then some false else (ref02_SameCols.l0 a0 a1 k (IntKind.i64.wrap (x_41 + 1)))))) else some true)

def ref02_SameCols (a0 : List api_Col) (a1 : List api_Col) : Option Bool :=
  (if ((a0.length : Int) != (a1.length : Int)) = true then some false else (ref02_SameCols.l0 a0 a1 (((a0.length : Int) - 0).toNat + 1) 0))

/-! ### catchment/catchmentlaw05.same -/
def law05_same (a0 : api_Schema) (a1 : api_Schema) : Option Bool :=
  (if (a0.Name.toList == a1.Name.toList) = true then ((ref02_SameCols a0.Keys a1.Keys).bind fun y_4 => (if y_4 = true then ((ref02_SameCols a0.Vals a1.Vals).bind fun y_7 => some y_7) else some false)) else some false)

/-! ### catchment/catchmentref05.Cols -/
def ref05_Cols (a0 : api_Schema) : Option (List api_Col) :=
  ((apd 24 [(⟨(⟨#[116, 105, 109, 101]⟩ : ByteArray), 1⟩ : api_Col)] a0.Keys).bind fun y_19 => ((apd 24 y_19 a0.Vals).bind fun y_25 => some y_25))

/-! ### catchment/catchmentref02.Name -/
def ref02_Name.j2 (kl1 : Int → Option Bool) (a0 : ByteArray) (x_45 : Int) (x_86 : Bool) : Option Bool :=
  (if x_86 = true then some false else (kl1 (IntKind.i64.wrap (x_45 + 1))))

def ref02_Name.l1 (a0 : ByteArray) : Nat → Int → Option Bool
  | 0, _ => none
  | k + 1, x_45 => (if (decide (x_45 < (a0.size : Int))) = true then ((ixs a0 x_45).bind fun y_74 => (if (decide (y_74 ≥ 97)) = true then (if (decide (y_74 ≤ 122)) = true then (ref02_Name.j2 (ref02_Name.l1 a0 k) a0 x_45 false) else (if (decide (y_74 ≥ 48)) = true then (if (decide (y_74 ≤ 57)) = true then (ref02_Name.j2 (ref02_Name.l1 a0 k) a0 x_45 false) else (if (y_74 == 95) = true then (ref02_Name.j2 (ref02_Name.l1 a0 k) a0 x_45 false) else (ref02_Name.j2 (ref02_Name.l1 a0 k) a0 x_45 (!(y_74 == 35))))) else (if (y_74 == 95) = true then (ref02_Name.j2 (ref02_Name.l1 a0 k) a0 x_45 false) else (ref02_Name.j2 (ref02_Name.l1 a0 k) a0 x_45 (!(y_74 == 35)))))) else (if (decide (y_74 ≥ 48)) = true then (if (decide (y_74 ≤ 57)) = true then (ref02_Name.j2 (ref02_Name.l1 a0 k) a0 x_45 false) else (if (y_74 == 95) = true then (ref02_Name.j2 (ref02_Name.l1 a0 k) a0 x_45 false) else (ref02_Name.j2 (ref02_Name.l1 a0 k) a0 x_45 (!(y_74 == 35))))) else (if (y_74 == 95) = true then (ref02_Name.j2 (ref02_Name.l1 a0 k) a0 x_45 false) else (ref02_Name.j2 (ref02_Name.l1 a0 k) a0 x_45 (!(y_74 == 35))))))) else some true)

def ref02_Name.j0 (a0 : ByteArray) (x_8 : Bool) : Option Bool :=
  (if x_8 = true then some false else (ref02_Name.l1 a0 (((a0.size : Int) - 0).toNat + 1) 0))

def ref02_Name (a0 : ByteArray) : Option Bool :=
  (if (decide ((a0.size : Int) < 1)) = true then (ref02_Name.j0 a0 true) else (if (decide ((a0.size : Int) > 24)) = true then (ref02_Name.j0 a0 true) else ((ixs a0 0).bind fun y_12 => (if (decide (y_12 < 97)) = true then (ref02_Name.j0 a0 true) else ((ixs a0 0).bind fun y_15 => (ref02_Name.j0 a0 (decide (y_15 > 122))))))))

/-! ### catchment/catchmentref05.Word -/
def ref05_Word.l1 (a0 : ByteArray) : Nat → Int → Option Bool
  | 0, _ => none
  | k + 1, x_52 => (if (decide (x_52 < (a0.size : Int))) = true then ((ixs a0 x_52).bind fun y_59 => (if (y_59 == 35) = true then some false else (ref05_Word.l1 a0 k (IntKind.i64.wrap (x_52 + 1))))) else ((ref02_Name a0).bind fun y_62 => some y_62))

def ref05_Word.l0 (a0 : ByteArray) : Nat → (List ByteArray) → Int → Option Bool
  | 0, _, _ => none
  | k + 1, x_19, x_23 => (if (decide (x_23 < (x_19.length : Int))) = true then ((ix x_19 x_23).bind fun y_38 => (if (a0.toList == y_38.toList) = true then some false else (ref05_Word.l0 a0 k x_19 (IntKind.i64.wrap (x_23 + 1))))) else (ref05_Word.l1 a0 (((a0.size : Int) - 0).toNat + 1) 0))

def ref05_Word (a0 : ByteArray) : Option Bool :=
  (ref05_Word.l0 a0 (((24 : Int) - 0).toNat + 1) [(⟨#[102, 101, 116, 99, 104]⟩ : ByteArray), (⟨#[102, 114, 111, 109]⟩ : ByteArray), (⟨#[116, 111]⟩ : ByteArray), (⟨#[119, 104, 101, 114, 101]⟩ : ByteArray), (⟨#[107, 101, 101, 112]⟩ : ByteArray), (⟨#[97, 108, 105, 103, 110]⟩ : ByteArray), (⟨#[103, 114, 111, 117, 112]⟩ : ByteArray), (⟨#[116, 111, 112]⟩ : ByteArray), (⟨#[98, 121]⟩ : ByteArray), (⟨#[106, 111, 105, 110]⟩ : ByteArray), (⟨#[117, 110, 105, 111, 110]⟩ : ByteArray), (⟨#[97, 110, 100]⟩ : ByteArray), (⟨#[111, 114]⟩ : ByteArray), (⟨#[110, 111, 116]⟩ : ByteArray), (⟨#[104, 97, 115]⟩ : ByteArray), (⟨#[116, 114, 117, 101]⟩ : ByteArray), (⟨#[102, 97, 108, 115, 101]⟩ : ByteArray), (⟨#[99, 111, 117, 110, 116]⟩ : ByteArray), (⟨#[115, 117, 109]⟩ : ByteArray), (⟨#[109, 105, 110]⟩ : ByteArray), (⟨#[109, 97, 120]⟩ : ByteArray), (⟨#[109, 101, 97, 110]⟩ : ByteArray), (⟨#[109, 101, 114, 103, 101]⟩ : ByteArray), (⟨#[116, 105, 109, 101]⟩ : ByteArray)] 0)

/-! ### catchment/catchmentref02.Find -/
def ref02_Find.l0 (a0 : List api_Col) (a1 : ByteArray) : Nat → Int → Option Int
  | 0, _ => none
  | k + 1, x_13 => (if (decide (x_13 < (a0.length : Int))) = true then ((ix a0 x_13).bind fun y_27 => (if (y_27.Name.toList == a1.toList) = true then some x_13 else (ref02_Find.l0 a0 a1 k (IntKind.i64.wrap (x_13 + 1))))) else some (-1))

def ref02_Find (a0 : List api_Col) (a1 : ByteArray) : Option Int :=
  (ref02_Find.l0 a0 a1 (((a0.length : Int) - 0).toNat + 1) 0)

/-! ### catchment/catchmentref02.Cols -/
def ref02_Cols.j2 (kl1 : Int → Option Bool) (a0 : List api_Col) (x_97 : Int) (x_233 : Bool) : Option Bool :=
  (if x_233 = true then some false else (kl1 (IntKind.i64.wrap (x_97 + 1))))

def ref02_Cols.l1 (a0 : List api_Col) : Nat → Int → Option Bool
  | 0, _ => none
  | k + 1, x_97 => (if (decide (x_97 < (a0.length : Int))) = true then ((ix a0 x_97).bind fun y_235 => ((ref02_Name y_235.Name).bind fun y_244 => (if (!y_244) = true then (ref02_Cols.j2 (ref02_Cols.l1 a0 k) a0 x_97 true) else ((ix a0 x_97).bind fun y_247 => ((ref02_Find a0 y_247.Name).bind fun y_256 => (if (y_256 != x_97) = true then (ref02_Cols.j2 (ref02_Cols.l1 a0 k) a0 x_97 true) else ((ix a0 x_97).bind fun y_259 => (if (decide (y_259.Kind < 1)) = true then (ref02_Cols.j2 (ref02_Cols.l1 a0 k) a0 x_97 true) else ((ix a0 x_97).bind fun y_269 => (ref02_Cols.j2 (ref02_Cols.l1 a0 k) a0 x_97 (decide (y_269.Kind > 4)))))))))))) else some true)

def ref02_Cols.j0 (a0 : List api_Col) (x_2 : Bool) : Option Bool :=
  (if x_2 = true then some false else (ref02_Cols.l1 a0 (((a0.length : Int) - 0).toNat + 1) 0))

def ref02_Cols (a0 : List api_Col) : Option Bool :=
  (if (decide ((a0.length : Int) < 1)) = true then (ref02_Cols.j0 a0 true) else (ref02_Cols.j0 a0 (decide ((a0.length : Int) > 16))))

/-! ### catchment/catchmentref05.One -/
def ref05_One.j2 (kl1 : Int → Option Bool) (y_41 : List api_Col) (x_92 : Int) (x_159 : Bool) : Option Bool :=
  (if x_159 = true then some false else (kl1 (IntKind.i64.wrap (x_92 + 1))))

def ref05_One.l1 (a0 : api_Schema) (y_41 : List api_Col) : Nat → Int → Option Bool
  | 0, _ => none
  | k + 1, x_92 => (if (decide (x_92 < (y_41.length : Int))) = true then ((ix y_41 x_92).bind fun y_161 => ((ref05_Word y_161.Name).bind fun y_169 => (if (!y_169) = true then (ref05_One.j2 (ref05_One.l1 a0 y_41 k) y_41 x_92 true) else (if (decide (x_92 < (a0.Keys.length : Int))) = true then ((ix y_41 x_92).bind fun y_173 => (ref05_One.j2 (ref05_One.l1 a0 y_41 k) y_41 x_92 (y_173.Kind == 4))) else (ref05_One.j2 (ref05_One.l1 a0 y_41 k) y_41 x_92 false))))) else ((ref02_Cols y_41).bind fun y_182 => some y_182))

def ref05_One.j0 (a0 : api_Schema) (x_8 : Bool) : Option Bool :=
  (if x_8 = true then some false else ((apd 24 ([] : List api_Col) a0.Keys).bind fun y_35 => ((apd 24 y_35 a0.Vals).bind fun y_41 => (ref05_One.l1 a0 y_41 (((y_41.length : Int) - 0).toNat + 1) 0))))

def ref05_One (a0 : api_Schema) : Option Bool :=
  ((ref05_Word a0.Name).bind fun y_10 => (if (!y_10) = true then (ref05_One.j0 a0 true) else (if (decide ((a0.Keys.length : Int) < 1)) = true then (ref05_One.j0 a0 true) else (if (decide ((a0.Keys.length : Int) > 4)) = true then (ref05_One.j0 a0 true) else (if (decide ((a0.Vals.length : Int) < 1)) = true then (ref05_One.j0 a0 true) else (ref05_One.j0 a0 (decide ((a0.Vals.length : Int) > 4))))))))

/-! ### catchment/catchmentref05.Check -/
def ref05_Check.l2 (kl1 : Int → Option Int) (a0 : List api_Schema) (x_25 : Int) : Nat → Int → Option Int
  | 0, _ => none
  | k + 1, x_281 => (if (decide (x_281 < x_25)) = true then ((ix a0 x_281).bind fun y_364 => ((ix a0 x_25).bind fun y_377 => (if (y_364.Name.toList == y_377.Name.toList) = true then some 50 else (ref05_Check.l2 kl1 a0 x_25 k (IntKind.i64.wrap (x_281 + 1)))))) else (kl1 (IntKind.i64.wrap (x_25 + 1))))

def ref05_Check.l1 (a0 : List api_Schema) : Nat → Int → Option Int
  | 0, _ => none
  | k + 1, x_25 => (if (decide (x_25 < (a0.length : Int))) = true then ((ix a0 x_25).bind fun y_210 => ((ref05_One y_210).bind fun y_223 => (if (!y_223) = true then some 50 else (ref05_Check.l2 (ref05_Check.l1 a0 k) a0 x_25 ((x_25 - 0).toNat + 1) 0)))) else some 0)

def ref05_Check.j0 (a0 : List api_Schema) (x_2 : Bool) : Option Int :=
  (if x_2 = true then some 50 else (ref05_Check.l1 a0 (((a0.length : Int) - 0).toNat + 1) 0))

def ref05_Check (a0 : List api_Schema) : Option Int :=
  (if (decide ((a0.length : Int) < 1)) = true then (ref05_Check.j0 a0 true) else (ref05_Check.j0 a0 (decide ((a0.length : Int) > 8))))

/-! ### catchment/catchmentlaw05.SchemaChecks -/
def law05_SchemaChecks.j0 (a1 : ByteArray) (y_1 : Bool) (x_11 : List api_Schema) : Option Bool :=
  ((schema_Find x_11 a1).bind fun y_19 => ((ref05_Find x_11 a1).bind fun y_28 => ((law05_same y_19.1 y_28.1).bind fun y_37 => ((schema_Cols y_19.1).bind fun y_57 => ((ref05_Cols y_28.1).bind fun y_65 => ((ref02_SameCols y_57 y_65).bind fun y_73 => (if y_1 = true then ((schema_Word a1).bind fun y_76 => ((ref05_Word a1).bind fun y_78 => (if (y_76 == y_78) = true then ((schema_Check x_11).bind fun y_81 => ((ref05_Check x_11).bind fun y_83 => (if (y_81 == y_83) = true then (if y_37 = true then (if (y_19.2 == y_28.2) = true then some y_73 else some false) else some false) else some false))) else some false))) else some false)))))))

def law05_SchemaChecks (a0 : List api_Schema) (a1 : ByteArray) : Option Bool :=
  ((law05_shown).bind fun y_1 => (if (decide ((a0.length : Int) > 20)) = true then ((cut a0 0 20).bind fun y_14 => (law05_SchemaChecks.j0 a1 y_1 y_14)) else (law05_SchemaChecks.j0 a1 y_1 a0)))

/-! ### catchment/catchmentref01.Valid -/
def ref01_Valid (a0 : api_Value) : Option Bool :=
  (if (a0.Kind == 1) = true then (if (a0.S.toList == (⟨#[]⟩ : ByteArray).toList) = true then some (decide (a0.H = (⟨0, 0, 0, 0, 0, 0, 0, 0⟩ : Arr8))) else some false) else (if (a0.Kind == 2) = true then (if (a0.N == 0) = true then (if (decide (a0.H = (⟨0, 0, 0, 0, 0, 0, 0, 0⟩ : Arr8))) = true then some (decide ((a0.S.size : Int) ≤ 64)) else some false) else some false) else (if (a0.Kind == 3) = true then (if (a0.N == 0) = true then (if (a0.S.toList == (⟨#[]⟩ : ByteArray).toList) = true then some (decide (a0.H = (⟨0, 0, 0, 0, 0, 0, 0, 0⟩ : Arr8))) else some false) else (if (a0.N == 1) = true then (if (a0.S.toList == (⟨#[]⟩ : ByteArray).toList) = true then some (decide (a0.H = (⟨0, 0, 0, 0, 0, 0, 0, 0⟩ : Arr8))) else some false) else some false)) else (if (a0.Kind == 4) = true then (if (a0.N == 0) = true then some (a0.S.toList == (⟨#[]⟩ : ByteArray).toList) else some false) else some false))))

/-! ### catchment/catchmentref05.fits -/
def ref05_fits.j1 (kl0 : Int → Option Bool) (a0 : List api_Value) (x_127 : Int) (x_314 : Bool) : Option Bool :=
  (if x_314 = true then some false else (kl0 (IntKind.i64.wrap (x_127 + 1))))

def ref05_fits.l0 (a0 : List api_Value) (a1 : List api_Col) : Nat → Int → Option Bool
  | 0, _ => none
  | k + 1, x_127 => (if (decide (x_127 < (a0.length : Int))) = true then ((ix a0 x_127).bind fun y_346 => ((ix a1 x_127).bind fun y_355 => (if (y_346.Kind != y_355.Kind) = true then (ref05_fits.j1 (ref05_fits.l0 a0 a1 k) a0 x_127 true) else ((ix a0 x_127).bind fun y_365 => ((ref01_Valid y_365).bind fun y_374 => (ref05_fits.j1 (ref05_fits.l0 a0 a1 k) a0 x_127 (!y_374))))))) else some true)

def ref05_fits (a0 : List api_Value) (a1 : List api_Col) : Option Bool :=
  (if ((a0.length : Int) != (a1.length : Int)) = true then some false else (ref05_fits.l0 a0 a1 (((a0.length : Int) - 0).toNat + 1) 0))

/-! ### catchment/catchmentref05.Fits -/
def ref05_Fits.j0 (x_19 : Bool) : Option Int :=
  (if x_19 = true then some 51 else some 0)

def ref05_Fits (a0 : List api_Schema) (a1 : api_Point) : Option Int :=
  ((ref05_Find a0 a1.Schema).bind fun y_2 => (if (!y_2.2) = true then some 50 else ((ref05_fits a1.Keys y_2.1.Keys).bind fun y_21 => (if (!y_21) = true then (ref05_Fits.j0 true) else ((ref05_fits a1.Vals y_2.1.Vals).bind fun y_24 => (if (!y_24) = true then (ref05_Fits.j0 true) else (if (decide (a1.Time < 0)) = true then (ref05_Fits.j0 true) else (ref05_Fits.j0 (decide (a1.Time ≥ 1099511627776))))))))))

/-! ### catchment/catchmentlaw05.SchemaFits -/
def law05_SchemaFits.j0 (a1 : api_Point) (y_2 : Bool) (x_12 : List api_Schema) : Option Bool :=
  (if y_2 = true then ((schema_Fits x_12 a1).bind fun y_26 => ((ref05_Fits x_12 a1).bind fun y_28 => some (y_26 == y_28))) else some false)

def law05_SchemaFits (a0 : List api_Schema) (a1 : api_Point) : Option Bool :=
  ((law05_shown).bind fun y_2 => (if (decide ((a0.length : Int) > 20)) = true then ((cut a0 0 20).bind fun y_15 => (law05_SchemaFits.j0 a1 y_2 y_15)) else (law05_SchemaFits.j0 a1 y_2 a0)))

/-! ### catchment/catchmentref02.Check -/
def ref02_Check.j2 (kl1 : Int → Option Int) (a0 : api_Table) (x_1571 : Int) (x_1890 : Bool) : Option Int :=
  (if x_1890 = true then some 21 else (kl1 (IntKind.i64.wrap (x_1571 + 1))))

def ref02_Check.l1 (kl0 : Int → Option Int) (a0 : api_Table) (x_669 : Int) : Nat → Int → Option Int
  | 0, _ => none
  | k + 1, x_1571 => (if (decide (x_1571 < (a0.Cols.length : Int))) = true then ((ix a0.Rows x_669).bind fun y_1944 => ((ix y_1944 x_1571).bind fun y_1955 => ((ix a0.Cols x_1571).bind fun y_1964 => (if (y_1955.Kind != y_1964.Kind) = true then (ref02_Check.j2 (ref02_Check.l1 kl0 a0 x_669 k) a0 x_1571 true) else ((ix a0.Rows x_669).bind fun y_1974 => ((ix y_1974 x_1571).bind fun y_1985 => ((ref01_Valid y_1985).bind fun y_1994 => (ref02_Check.j2 (ref02_Check.l1 kl0 a0 x_669 k) a0 x_1571 (!y_1994))))))))) else (kl0 (IntKind.i64.wrap (x_669 + 1))))

def ref02_Check.l0 (a0 : api_Table) : Nat → Int → Option Int
  | 0, _ => none
  | k + 1, x_669 => (if (decide (x_669 < (a0.Rows.length : Int))) = true then ((ix a0.Rows x_669).bind fun y_1346 => (if ((y_1346.length : Int) != (a0.Cols.length : Int)) = true then some 21 else (ref02_Check.l1 (ref02_Check.l0 a0 k) a0 x_669 (((a0.Cols.length : Int) - 0).toNat + 1) 0))) else some 0)

def ref02_Check (a0 : api_Table) : Option Int :=
  ((ref02_Cols a0.Cols).bind fun y_2 => (if (!y_2) = true then some 20 else (ref02_Check.l0 a0 (((a0.Rows.length : Int) - 0).toNat + 1) 0)))

/-! ### catchment/catchmentlaw05.SchemaTables -/
def law05_SchemaTables.j0 (a0 : List api_Schema) (a1 : api_Point) (y_2 : Bool) (x_10 : Bool) : Option Bool :=
  (if x_10 = true then some y_2 else ((schema_Find a0 a1.Schema).bind fun y_19 => ((apd 96 [(⟨1, a1.Time, (⟨#[]⟩ : ByteArray), (⟨0, 0, 0, 0, 0, 0, 0, 0⟩ : Arr8)⟩ : api_Value)] a1.Keys).bind fun y_46 => ((apd 96 y_46 a1.Vals).bind fun y_52 => (if y_2 = true then (if y_19.2 = true then ((schema_Cols y_19.1).bind fun y_60 => ((ref02_Check (⟨y_60, [y_52]⟩ : api_Table)).bind fun y_74 => some (y_74 == 0))) else some false) else some false)))))

def law05_SchemaTables (a0 : List api_Schema) (a1 : api_Point) : Option Bool :=
  ((law05_shown).bind fun y_2 => (if (decide ((a0.length : Int) > 20)) = true then (law05_SchemaTables.j0 a0 a1 y_2 true) else ((schema_Check a0).bind fun y_13 => (if (y_13 != 0) = true then (law05_SchemaTables.j0 a0 a1 y_2 true) else ((schema_Fits a0 a1).bind fun y_16 => (law05_SchemaTables.j0 a0 a1 y_2 (y_16 != 0)))))))

/-! ### catchment/catchmentlaw05.SchemaTurned -/
def law05_SchemaTurned.j4 (kl2 : Int → Option Bool) (x_11 : List api_Schema) (x_216 : Int) (x_414 : Bool) : Option Bool :=
  (if x_414 = true then some false else (kl2 (IntKind.i64.wrap (x_216 + 1))))

def law05_SchemaTurned.j3 (kl2 : Int → Option Bool) (y_1 : Bool) (x_11 : List api_Schema) (x_48 : List api_Schema) (x_216 : Int) (x_334 : Bool) : Option Bool :=
  (if x_334 = true then ((ix x_11 x_216).bind fun y_340 => ((schema_Find x_48 y_340.Name).bind fun y_353 => ((ix x_11 x_216).bind fun y_377 => ((law05_same y_353.1 y_377).bind fun y_390 => (if (!y_353.2) = true then (law05_SchemaTurned.j4 kl2 x_11 x_216 true) else (if (!y_390) = true then (law05_SchemaTurned.j4 kl2 x_11 x_216 true) else ((schema_Cols y_353.1).bind fun y_430 => (law05_SchemaTurned.j4 kl2 x_11 x_216 ((y_430.length : Int) != (IntKind.i64.wrap ((IntKind.i64.wrap (1 + (y_353.1.Keys.length : Int))) + (y_353.1.Vals.length : Int)))))))))))) else some y_1)

def law05_SchemaTurned.l2 (y_1 : Bool) (x_11 : List api_Schema) (x_48 : List api_Schema) : Nat → Int → Option Bool
  | 0, _ => none
  | k + 1, x_216 => (if (decide (x_216 < (x_11.length : Int))) = true then ((schema_Check x_11).bind fun y_337 => (law05_SchemaTurned.j3 (law05_SchemaTurned.l2 y_1 x_11 x_48 k) y_1 x_11 x_48 x_216 (y_337 == 0))) else (law05_SchemaTurned.j3 (law05_SchemaTurned.l2 y_1 x_11 x_48 k) y_1 x_11 x_48 x_216 false))

def law05_SchemaTurned.l1 (y_1 : Bool) (x_11 : List api_Schema) : Nat → (List api_Schema) → Int → Option Bool
  | 0, _, _ => none
  | k + 1, x_48, x_52 => (if (decide (x_52 ≥ 0)) = true then ((ix x_11 x_52).bind fun y_78 => ((apd 64 x_48 [y_78]).bind fun y_92 => (law05_SchemaTurned.l1 y_1 x_11 k y_92 (IntKind.i64.wrap (x_52 - 1))))) else ((schema_Check x_11).bind fun y_98 => ((schema_Check x_48).bind fun y_103 => (if (y_98 != y_103) = true then some false else (law05_SchemaTurned.l2 y_1 x_11 x_48 (((x_11.length : Int) - 0).toNat + 1) 0)))))

def law05_SchemaTurned.j0 (y_1 : Bool) (x_11 : List api_Schema) : Option Bool :=
  (law05_SchemaTurned.l1 y_1 x_11 (((IntKind.i64.wrap ((x_11.length : Int) - 1)) - 0).toNat + 2) [] (IntKind.i64.wrap ((x_11.length : Int) - 1)))

def law05_SchemaTurned (a0 : List api_Schema) : Option Bool :=
  ((law05_shown).bind fun y_1 => (if (decide ((a0.length : Int) > 20)) = true then ((cut a0 0 20).bind fun y_14 => (law05_SchemaTurned.j0 y_1 y_14)) else (law05_SchemaTurned.j0 y_1 a0)))

/-! ### catchment/catchmentlaw05.SchemaGrows -/
def law05_SchemaGrows.j0 (a0 : List api_Schema) (a1 : api_Point) (y_2 : Bool) (x_8 : Bool) : Option Bool :=
  (if x_8 = true then some y_2 else ((cut a0 0 (IntKind.i64.wrap ((a0.length : Int) - 1))).bind fun y_15 => ((ix a0 (IntKind.i64.wrap ((a0.length : Int) - 1))).bind fun y_20 => (if y_2 = true then ((schema_Check y_15).bind fun y_48 => (if (y_48 == 0) = true then (if (a1.Schema.toList == y_20.Name.toList) = true then ((schema_Fits y_15 (⟨y_20.Name, [], 0, []⟩ : api_Point)).bind fun y_52 => some (y_52 == 50)) else ((schema_Fits a0 a1).bind fun y_54 => ((schema_Fits y_15 a1).bind fun y_56 => (if (y_54 == y_56) = true then ((schema_Fits y_15 (⟨y_20.Name, [], 0, []⟩ : api_Point)).bind fun y_59 => some (y_59 == 50)) else some false)))) else some false)) else some false))))

def law05_SchemaGrows (a0 : List api_Schema) (a1 : api_Point) : Option Bool :=
  ((law05_shown).bind fun y_2 => (if (decide ((a0.length : Int) > 20)) = true then (law05_SchemaGrows.j0 a0 a1 y_2 true) else (if (decide ((a0.length : Int) < 2)) = true then (law05_SchemaGrows.j0 a0 a1 y_2 true) else ((schema_Check a0).bind fun y_12 => (law05_SchemaGrows.j0 a0 a1 y_2 (y_12 != 0))))))

end
end Go.Proofs.Ytiegghohcghmkaa.M
