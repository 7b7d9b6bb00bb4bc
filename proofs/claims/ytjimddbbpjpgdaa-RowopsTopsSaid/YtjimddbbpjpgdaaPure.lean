/- The functions that the laws come to, as plain Lean functions over numbers and lists (none: Go would panic, or the bound on rounds is used up). Printed by wip/eng/gen.py. -/
import Derived.Test.YtjimddbbpjpgdaaEngL
import Derived.Lib.IndexMore
namespace Go.Proofs.Ytjimddbbpjpgdaa.M
open Go Go.Eng Go.Proofs Go.RowKit
set_option linter.unusedVariables false
set_option maxRecDepth 100000
noncomputable section

structure api_Col where
  Name : ByteArray
  Kind : Int
  deriving DecidableEq
def ty_api_Col : Ty api_Col := Ty.flat 2 (fun x => [.string x.Name, .int .i64 x.Kind]) (fun _ => rfl) (fun _ => all_cons rfl (all_cons rfl (all_nil)))
def ok_api_Col (x : api_Col) : Prop := (fun s => s.size ≤ 140737488351232) x.Name ∧ (fun x => (Lit.int .i64 x).wf = true) x.Kind

structure api_Value where
  Kind : Int
  N : Int
  S : ByteArray
  H : Arr8
  deriving DecidableEq
def ty_api_Value : Ty api_Value := Ty.flat 11 (fun x => [.int .i64 x.Kind, .int .i64 x.N, .string x.S, .int .i64 x.H.a0, .int .i64 x.H.a1, .int .i64 x.H.a2, .int .i64 x.H.a3, .int .i64 x.H.a4, .int .i64 x.H.a5, .int .i64 x.H.a6, .int .i64 x.H.a7]) (fun _ => rfl) (fun _ => all_cons rfl (all_cons rfl (all_cons rfl (all_cons rfl (all_cons rfl (all_cons rfl (all_cons rfl (all_cons rfl (all_cons rfl (all_cons rfl (all_cons rfl (all_nil))))))))))))
def ok_api_Value (x : api_Value) : Prop := (fun x => (Lit.int .i64 x).wf = true) x.Kind ∧ (fun x => (Lit.int .i64 x).wf = true) x.N ∧ (fun s => s.size ≤ 140737488351232) x.S ∧ ok_Arr8 x.H

structure api_Table where
  Cols : List api_Col
  Rows : List (List api_Value)
  deriving DecidableEq
def ty_api_Table : Ty api_Table where
  n := 2
  rep := fun R cs x => ∃ v0 v1, cs = [v0, v1] ∧ SlR ty_api_Col R v0 x.Cols ∧ SlR (tySl ty_api_Value) R v1 x.Rows
  mono := fun hR ⟨v0, v1, h, h0, h1⟩ => ⟨v0, v1, h, h0.mono hR, h1.mono hR⟩
  len := fun ⟨v0, v1, h, h0, h1⟩ => by subst h; rfl
  one := fun ⟨v0, v1, h, h0, h1⟩ => by subst h; exact all_cons h0.one (all_cons h1.one (all_nil))
def ok_api_Table (x : api_Table) : Prop := (fun xs => xs.length * 24 ≤ 140737488351232 ∧ ∀ x ∈ xs, ok_api_Col x) x.Cols ∧ (fun xs => xs.length * 24 ≤ 140737488351232 ∧ ∀ x ∈ xs, (fun xs => xs.length * 96 ≤ 140737488351232 ∧ ∀ x ∈ xs, ok_api_Value x) x) x.Rows

structure api_Agg where
  Kind : Int
  Col : ByteArray
  deriving DecidableEq
def ty_api_Agg : Ty api_Agg := Ty.flat 2 (fun x => [.int .i64 x.Kind, .string x.Col]) (fun _ => rfl) (fun _ => all_cons rfl (all_cons rfl (all_nil)))
def ok_api_Agg (x : api_Agg) : Prop := (fun x => (Lit.int .i64 x).wf = true) x.Kind ∧ (fun s => s.size ≤ 140737488351232) x.Col

structure api_Node where
  Kind : Int
  S : ByteArray
  N : Int
  From : Int
  To : Int
  V : api_Value
  L : List Int
  Names : List ByteArray
  Aggs : List api_Agg
  deriving DecidableEq
def ty_api_Node : Ty api_Node where
  n := 19
  rep := fun R cs x => ∃ v0 v1 v2, cs = [.int .i64 x.Kind, .string x.S, .int .i64 x.N, .int .i64 x.From, .int .i64 x.To, .int .i64 x.V.Kind, .int .i64 x.V.N, .string x.V.S, .int .i64 x.V.H.a0, .int .i64 x.V.H.a1, .int .i64 x.V.H.a2, .int .i64 x.V.H.a3, .int .i64 x.V.H.a4, .int .i64 x.V.H.a5, .int .i64 x.V.H.a6, .int .i64 x.V.H.a7, v0, v1, v2] ∧ SlR (tyInt .i64) R v0 x.L ∧ SlR tyStr R v1 x.Names ∧ SlR ty_api_Agg R v2 x.Aggs
  mono := fun hR ⟨v0, v1, v2, h, h0, h1, h2⟩ => ⟨v0, v1, v2, h, h0.mono hR, h1.mono hR, h2.mono hR⟩
  len := fun ⟨v0, v1, v2, h, h0, h1, h2⟩ => by subst h; rfl
  one := fun ⟨v0, v1, v2, h, h0, h1, h2⟩ => by subst h; exact all_cons rfl (all_cons rfl (all_cons rfl (all_cons rfl (all_cons rfl (all_cons rfl (all_cons rfl (all_cons rfl (all_cons rfl (all_cons rfl (all_cons rfl (all_cons rfl (all_cons rfl (all_cons rfl (all_cons rfl (all_cons rfl (all_cons h0.one (all_cons h1.one (all_cons h2.one (all_nil)))))))))))))))))))
def ok_api_Node (x : api_Node) : Prop := (fun x => (Lit.int .i64 x).wf = true) x.Kind ∧ (fun s => s.size ≤ 140737488351232) x.S ∧ (fun x => (Lit.int .i64 x).wf = true) x.N ∧ (fun x => (Lit.int .i64 x).wf = true) x.From ∧ (fun x => (Lit.int .i64 x).wf = true) x.To ∧ ok_api_Value x.V ∧ (fun xs => xs.length * 8 ≤ 140737488351232 ∧ ∀ x ∈ xs, (fun x => (Lit.int .i64 x).wf = true) x) x.L ∧ (fun xs => xs.length * 16 ≤ 140737488351232 ∧ ∀ x ∈ xs, (fun s => s.size ≤ 140737488351232) x) x.Names ∧ (fun xs => xs.length * 24 ≤ 140737488351232 ∧ ∀ x ∈ xs, ok_api_Agg x) x.Aggs

structure api_Query where
  N : List api_Node
  deriving DecidableEq
def ty_api_Query : Ty api_Query where
  n := 1
  rep := fun R cs x => ∃ v0, cs = [v0] ∧ SlR ty_api_Node R v0 x.N
  mono := fun hR ⟨v0, h, h0⟩ => ⟨v0, h, h0.mono hR⟩
  len := fun ⟨v0, h, h0⟩ => by subst h; rfl
  one := fun ⟨v0, h, h0⟩ => by subst h; exact all_cons h0.one (all_nil)
def ok_api_Query (x : api_Query) : Prop := (fun xs => xs.length * 216 ≤ 140737488351232 ∧ ∀ x ∈ xs, ok_api_Node x) x.N

/-! ### catchment/catchmentlaw16.pairs -/
def law16_pairs.l0 (a0 : List Int) : Nat → (List api_Col) → (List (List api_Value)) → Int → Option api_Table
  | 0, _, _, _ => none
  | k + 1, x_78, x_83, x_87 => (if (decide ((IntKind.i64.wrap (x_87 + 1)) < (a0.length : Int))) = true then ((ix a0 x_87).bind fun y_183 => ((ix a0 (IntKind.i64.wrap (x_87 + 1))).bind fun y_192 => ((apd 24 x_83 [[(⟨1, y_183, (⟨#[]⟩ : ByteArray), (⟨0, 0, 0, 0, 0, 0, 0, 0⟩ : Arr8)⟩ : api_Value), (⟨1, y_192, (⟨#[]⟩ : ByteArray), (⟨0, 0, 0, 0, 0, 0, 0, 0⟩ : Arr8)⟩ : api_Value)]]).bind fun y_206 => (law16_pairs.l0 a0 k x_78 y_206 (IntKind.i64.wrap (x_87 + 2)))))) else some (⟨x_78, x_83⟩ : api_Table))

def law16_pairs (a0 : List Int) : Option api_Table :=
  (law16_pairs.l0 a0 (((a0.length : Int) - (IntKind.i64.wrap (0 + 1))).toNat + 1) [(⟨(⟨#[116, 105, 109, 101]⟩ : ByteArray), 1⟩ : api_Col), (⟨(⟨#[110]⟩ : ByteArray), 1⟩ : api_Col)] [] 0)

/-! ### catchment/table.Name -/
def table_Name.j2 (kl0 : Int → Option Bool) (a0 : ByteArray) (x_11 : Int) : Option Bool :=
  (kl0 (IntKind.i64.wrap (x_11 + 1)))

def table_Name.j3 (kl0 : Int → Option Bool) (a0 : ByteArray) (x_11 : Int) (x_77 : Bool) : Option Bool :=
  (if x_77 = true then (table_Name.j2 kl0 a0 x_11) else some false)

def table_Name.j1 (kl0 : Int → Option Bool) (a0 : ByteArray) (x_11 : Int) (y_50 : Int) (x_53 : Bool) : Option Bool :=
  (if x_53 = true then (table_Name.j2 kl0 a0 x_11) else (if (decide (x_11 > 0)) = true then (if (decide (y_50 ≥ 48)) = true then (if (decide (y_50 ≤ 57)) = true then (table_Name.j3 kl0 a0 x_11 true) else (if (y_50 == 95) = true then (table_Name.j3 kl0 a0 x_11 true) else (table_Name.j3 kl0 a0 x_11 (y_50 == 35)))) else (if (y_50 == 95) = true then (table_Name.j3 kl0 a0 x_11 true) else (table_Name.j3 kl0 a0 x_11 (y_50 == 35)))) else (table_Name.j3 kl0 a0 x_11 false)))

def table_Name.l0 (a0 : ByteArray) : Nat → Int → Option Bool
  | 0, _ => none
  | k + 1, x_11 => (if (decide (x_11 < (a0.size : Int))) = true then ((ixs a0 x_11).bind fun y_50 => (if (decide (y_50 ≥ 97)) = true then (table_Name.j1 (table_Name.l0 a0 k) a0 x_11 y_50 (decide (y_50 ≤ 122))) else (table_Name.j1 (table_Name.l0 a0 k) a0 x_11 y_50 false))) else (if (decide ((a0.size : Int) ≥ 1)) = true then some (decide ((a0.size : Int) ≤ 24)) else some false))

def table_Name (a0 : ByteArray) : Option Bool :=
  (table_Name.l0 a0 (((a0.size : Int) - 0).toNat + 1) 0)

/-! ### catchment/table.Find$1 -/
def table_Find_1_cp (a0 : api_Col) (a1 : ByteArray) : Option Bool :=
  some (a0.Name.toList == a1.toList)

/-! ### slices.IndexFunc[[]catchment/api.Col,catchment/api.Col] -/
def slices_IndexFunc_api_Col_api_Col_f_table_Find_1p.l0 (a0 : List api_Col) (a1_0 : ByteArray) : Nat → Int → Option Int
  | 0, _ => none
  | k + 1, x_15 => (if (decide (x_15 < (a0.length : Int))) = true then ((ix a0 x_15).bind fun y_31 => ((table_Find_1_cp y_31 a1_0).bind fun y_40 => (if y_40 = true then some x_15 else (slices_IndexFunc_api_Col_api_Col_f_table_Find_1p.l0 a0 a1_0 k (IntKind.i64.wrap (x_15 + 1)))))) else some (-1))

def slices_IndexFunc_api_Col_api_Col_f_table_Find_1p (a0 : List api_Col) (a1_0 : ByteArray) : Option Int :=
  (slices_IndexFunc_api_Col_api_Col_f_table_Find_1p.l0 a0 a1_0 (((a0.length : Int) - 0).toNat + 1) 0)

/-! ### catchment/table.Find -/
def table_Find (a0 : List api_Col) (a1 : ByteArray) : Option Int :=
  ((slices_IndexFunc_api_Col_api_Col_f_table_Find_1p a0 a1).bind fun y_2 => some y_2)

/-! ### catchment/table.columns -/
def table_columns.j1 (kl0 : Int → Option Bool) (a0 : List api_Col) (x_30 : Int) (x_78 : Bool) : Option Bool :=
  (if x_78 = true then some false else (kl0 (IntKind.i64.wrap (x_30 + 1))))

def table_columns.l0 (a0 : List api_Col) : Nat → Int → Option Bool
  | 0, _ => none
  | k + 1, x_30 => (if (decide (x_30 < (a0.length : Int))) = true then ((ix a0 x_30).bind fun y_61 => ((table_Name y_61.Name).bind fun y_80 => (if (!y_80) = true then (table_columns.j1 (table_columns.l0 a0 k) a0 x_30 true) else (if (decide (y_61.Kind < 1)) = true then (table_columns.j1 (table_columns.l0 a0 k) a0 x_30 true) else (if (decide (y_61.Kind > 4)) = true then (table_columns.j1 (table_columns.l0 a0 k) a0 x_30 true) else ((table_Find a0 y_61.Name).bind fun y_85 => (table_columns.j1 (table_columns.l0 a0 k) a0 x_30 (y_85 != x_30)))))))) else (if (decide ((a0.length : Int) ≥ 1)) = true then some (decide ((a0.length : Int) ≤ 16)) else some false))

def table_columns (a0 : List api_Col) : Option Bool :=
  (table_columns.l0 a0 (((a0.length : Int) - 0).toNat + 1) 0)

/-! ### catchment/value.Valid -/
def value_Valid.j0 (x_59 : Int) (x_60 : ByteArray) (x_61 : Arr8) (x_62 : Bool) : Option Bool :=
  (if x_62 = true then some (decide ((⟨0, x_59, x_60, x_61⟩ : api_Value) = (⟨0, 0, (⟨#[]⟩ : ByteArray), (⟨0, 0, 0, 0, 0, 0, 0, 0⟩ : Arr8)⟩ : api_Value))) else some false)

def value_Valid.j1 (x_90 : Int) (x_91 : ByteArray) (x_92 : Arr8) (x_93 : Bool) : Option Bool :=
  (value_Valid.j0 x_90 x_91 x_92 x_93)

def value_Valid.j2 (a0 : api_Value) (x_106 : Int) (x_107 : Arr8) (x_108 : Bool) : Option Bool :=
  (value_Valid.j1 x_106 a0.S x_107 x_108)

def value_Valid.j3 (a0 : api_Value) (x_112 : Bool) : Option Bool :=
  (value_Valid.j2 a0 0 a0.H x_112)

def value_Valid.j4 (a0 : api_Value) (x_116 : Arr8) (x_117 : Bool) : Option Bool :=
  (value_Valid.j2 a0 a0.N x_116 x_117)

def value_Valid (a0 : api_Value) : Option Bool :=
  (if (a0.Kind == 1) = true then (value_Valid.j0 0 a0.S a0.H true) else (if (a0.Kind == 2) = true then (value_Valid.j1 a0.N (⟨#[]⟩ : ByteArray) a0.H (decide ((a0.S.size : Int) ≤ 64))) else (if (a0.Kind == 3) = true then (if (a0.N == 0) = true then (value_Valid.j3 a0 true) else (value_Valid.j3 a0 (a0.N == 1))) else (if (a0.Kind == 4) = true then (value_Valid.j4 a0 (⟨0, 0, 0, 0, 0, 0, 0, 0⟩ : Arr8) true) else (value_Valid.j4 a0 a0.H false)))))

/-! ### catchment/table.Check -/
def table_Check.j2 (kl1 : Int → Option Int) (y_413 : List api_Value) (x_488 : Int) (x_587 : Bool) : Option Int :=
  (if x_587 = true then some 21 else (kl1 (IntKind.i64.wrap (x_488 + 1))))

def table_Check.l1 (kl0 : Int → Option Int) (a0 : api_Table) (x_208 : Int) (y_413 : List api_Value) : Nat → Int → Option Int
  | 0, _ => none
  | k + 1, x_488 => (if (decide (x_488 < (y_413.length : Int))) = true then ((ix y_413 x_488).bind fun y_553 => ((ix a0.Cols x_488).bind fun y_601 => (if (y_553.Kind != y_601.Kind) = true then (table_Check.j2 (table_Check.l1 kl0 a0 x_208 y_413 k) y_413 x_488 true) else ((value_Valid y_553).bind fun y_611 => (table_Check.j2 (table_Check.l1 kl0 a0 x_208 y_413 k) y_413 x_488 (!y_611)))))) else (kl0 (IntKind.i64.wrap (x_208 + 1))))

def table_Check.l0 (a0 : api_Table) : Nat → Int → Option Int
  | 0, _ => none
  | k + 1, x_208 => (if (decide (x_208 < (a0.Rows.length : Int))) = true then ((ix a0.Rows x_208).bind fun y_413 => (if ((y_413.length : Int) != (a0.Cols.length : Int)) = true then some 21 else (table_Check.l1 (table_Check.l0 a0 k) a0 x_208 y_413 (((y_413.length : Int) - 0).toNat + 1) 0))) else some 0)

def table_Check (a0 : api_Table) : Option Int :=
  ((table_columns a0.Cols).bind fun y_2 => (if (!y_2) = true then some 20 else (table_Check.l0 a0 (((a0.Rows.length : Int) - 0).toNat + 1) 0)))

/-! ### slices.Index[[]catchment/api.Col,catchment/api.Col] -/
def slices_Index_api_Col_api_Col.l0 (a0 : List api_Col) (a1 : api_Col) : Nat → Int → Option Int
  | 0, _ => none
  | k + 1, x_23 => (if (decide (x_23 < (a0.length : Int))) = true then ((ix a0 x_23).bind fun y_55 => (if (decide (a1 = y_55)) = true then some x_23 else (slices_Index_api_Col_api_Col.l0 a0 a1 k (IntKind.i64.wrap (x_23 + 1))))) else some (-1))

def slices_Index_api_Col_api_Col (a0 : List api_Col) (a1 : api_Col) : Option Int :=
  (slices_Index_api_Col_api_Col.l0 a0 a1 (((a0.length : Int) - 0).toNat + 1) 0)

/-! ### slices.Clone[[]catchment/api.Col,catchment/api.Col] -/
def slices_Clone_api_Col_api_Col (a0 : List api_Col) : Option (List api_Col) :=
  ((apd 24 ([] : List api_Col) a0).bind fun y_4 => some y_4)

/-! ### slices.Clone[[]catchment/api.Value,catchment/api.Value] -/
def slices_Clone_api_Value_api_Value (a0 : List api_Value) : Option (List api_Value) :=
  ((apd 96 ([] : List api_Value) a0).bind fun y_4 => some y_4)

/-! ### cmp.isNaN[int] -/
def cmp_isNaN_int (a0 : Int) : Option Bool :=
  some (a0 != a0)

/-! ### cmp.Compare[int] -/
def cmp_Compare_int (a0 : Int) (a1 : Int) : Option Int :=
  ((cmp_isNaN_int a0).bind fun y_1 => ((cmp_isNaN_int a1).bind fun y_3 => (if y_1 = true then (if y_3 = true then some 0 else some (-1)) else (if y_3 = true then some 1 else (if (decide (a0 < a1)) = true then some (-1) else (if (decide (a0 > a1)) = true then some 1 else some 0))))))

/-! ### internal/bytealg.CompareString -/
def internal_bytealg_CompareString (a0 : ByteArray) (a1 : ByteArray) : Option Int :=
  some (Lib.compareBytes a0.data.toList a1.data.toList)

/-! ### strings.Compare -/
def strings_Compare (a0 : ByteArray) (a1 : ByteArray) : Option Int :=
  ((internal_bytealg_CompareString a0 a1).bind fun y_1 => some y_1)

/-! ### slices.Compare[[]int,int] -/
def slices_Compare_int_int.l0 (a0 : List Int) (a1 : List Int) : Nat → Int → Option Int
  | 0, _ => none
  | k + 1, x_25 => (if (decide (x_25 < (a0.length : Int))) = true then ((ix a0 x_25).bind fun y_51 => (if (decide (x_25 ≥ (a1.length : Int))) = true then some 1 else ((ix a1 x_25).bind fun y_61 => ((cmp_Compare_int y_51 y_61).bind fun y_70 => (if (y_70 != 0) = true then some y_70 else (slices_Compare_int_int.l0 a0 a1 k (IntKind.i64.wrap (x_25 + 1)))))))) else (if (decide ((a0.length : Int) < (a1.length : Int))) = true then some (-1) else some 0))

def slices_Compare_int_int (a0 : List Int) (a1 : List Int) : Option Int :=
  (slices_Compare_int_int.l0 a0 a1 (((a0.length : Int) - 0).toNat + 1) 0)

/-! ### cmp.Or[int] -/
def cmp_Or_int.l0 (a0 : List Int) : Nat → Int → Option Int
  | 0, _ => none
  | k + 1, x_13 => (if (decide (x_13 < (a0.length : Int))) = true then ((ix a0 x_13).bind fun y_27 => (if (y_27 != 0) = true then some y_27 else (cmp_Or_int.l0 a0 k (IntKind.i64.wrap (x_13 + 1))))) else some 0)

def cmp_Or_int (a0 : List Int) : Option Int :=
  (cmp_Or_int.l0 a0 (((a0.length : Int) - 0).toNat + 1) 0)

/-! ### catchment/value.Compare -/
def value_Compare (a0 : api_Value) (a1 : api_Value) : Option Int :=
  ((cmp_Compare_int a0.Kind a1.Kind).bind fun y_14 => ((cmp_Compare_int a0.N a1.N).bind fun y_16 => ((strings_Compare a0.S a1.S).bind fun y_18 => ((slices_Compare_int_int a0.H.list a1.H.list).bind fun y_20 => ((cmp_Or_int [y_14, y_16, y_18, y_20]).bind fun y_23 => some y_23)))))

/-! ### slices.CompareFunc[[]catchment/api.Value,[]catchment/api.Value,catchment/api.Value,catchment/api.Value] -/
def slices_CompareFunc_api_Value_api_Value_api_Value_api_Value_f_value_Compare.l0 (a0 : List api_Value) (a1 : List api_Value) : Nat → Int → Option Int
  | 0, _ => none
  | k + 1, x_27 => (if (decide (x_27 < (a0.length : Int))) = true then ((ix a0 x_27).bind fun y_55 => (if (decide (x_27 ≥ (a1.length : Int))) = true then some 1 else ((ix a1 x_27).bind fun y_66 => ((value_Compare y_55 y_66).bind fun y_76 => (if (y_76 != 0) = true then some y_76 else (slices_CompareFunc_api_Value_api_Value_api_Value_api_Value_f_value_Compare.l0 a0 a1 k (IntKind.i64.wrap (x_27 + 1)))))))) else (if (decide ((a0.length : Int) < (a1.length : Int))) = true then some (-1) else some 0))

def slices_CompareFunc_api_Value_api_Value_api_Value_api_Value_f_value_Compare (a0 : List api_Value) (a1 : List api_Value) : Option Int :=
  (slices_CompareFunc_api_Value_api_Value_api_Value_api_Value_f_value_Compare.l0 a0 a1 (((a0.length : Int) - 0).toNat + 1) 0)

/-! ### catchment/table.order -/
def table_order (a0 : List api_Value) (a1 : List api_Value) : Option Int :=
  ((slices_CompareFunc_api_Value_api_Value_api_Value_api_Value_f_value_Compare a0 a1).bind fun y_1 => some y_1)

/-! ### slices.SortFunc[[][]catchment/api.Value,[]catchment/api.Value] -/
noncomputable def slices_SortFunc_api_Value_api_Value_f_table_order (a0 : List (List api_Value)) : Option (List (List api_Value)) := sortBy table_order a0

/-! ### catchment/table.Canon -/
def table_Canon.l0 (a0 : api_Table) (y_3 : List api_Col) : Nat → (List (List api_Value)) → Int → Option api_Table
  | 0, _, _ => none
  | k + 1, x_79, x_84 => (if (decide (x_84 < (a0.Rows.length : Int))) = true then ((ix a0.Rows x_84).bind fun y_146 => ((slices_Clone_api_Value_api_Value y_146).bind fun y_179 => ((apd 24 x_79 [y_179]).bind fun y_193 => (table_Canon.l0 a0 y_3 k y_193 (IntKind.i64.wrap (x_84 + 1)))))) else ((slices_SortFunc_api_Value_api_Value_f_table_order x_79).bind fun y_201 => some (⟨y_3, y_201⟩ : api_Table)))

def table_Canon (a0 : api_Table) : Option api_Table :=
  ((slices_Clone_api_Col_api_Col a0.Cols).bind fun y_3 => (table_Canon.l0 a0 y_3 (((a0.Rows.length : Int) - 0).toNat + 1) [] 0))

/-! ### catchment/rowops.down -/
def rowops_down.j0 (a0 : Int) (x_3 : Int) : Option Int :=
  (if (decide (a0 < (IntKind.i64.wrap ((-9223372036854775808) + x_3)))) = true then some a0 else some (IntKind.i64.wrap (a0 - x_3)))

def rowops_down (a0 : Int) (a1 : Int) : Option Int :=
  (if (a1 != 0) = true then (if (decide ((a0.tmod a1) < 0)) = true then (rowops_down.j0 a0 (IntKind.i64.wrap ((a0.tmod a1) + a1))) else (rowops_down.j0 a0 (a0.tmod a1))) else none)

/-! ### catchment/rowops.Align -/
def rowops_Align.l1 (a1 : Int) (y_10 : Int) (y_21 : api_Table) : Nat → (List (List api_Value)) → Int → Option (api_Table × Int)
  | 0, _, _ => none
  | k + 1, x_76, x_81 => (if (decide (x_81 < (y_21.Rows.length : Int))) = true then ((ix x_76 x_81).bind fun y_124 => ((ix y_124 y_10).bind fun y_134 => ((rowops_down y_134.N a1).bind fun y_143 => ((ix y_124 y_10).bind fun y_145 => (rowops_Align.l1 a1 y_10 y_21 k (upd x_76 x_81 (upd y_124 y_10 (⟨y_145.Kind, y_143, y_145.S, y_145.H⟩ : api_Value))) (IntKind.i64.wrap (x_81 + 1))))))) else ((table_Canon (⟨y_21.Cols, x_76⟩ : api_Table)).bind fun y_162 => some (y_162, 0)))

def rowops_Align.j0 (a0 : api_Table) (a1 : Int) (y_10 : Int) (x_13 : Bool) : Option (api_Table × Int) :=
  (if x_13 = true then some ((⟨([] : List api_Col), ([] : List (List api_Value))⟩ : api_Table), 1) else ((table_Canon a0).bind fun y_21 => (rowops_Align.l1 a1 y_10 y_21 (((y_21.Rows.length : Int) - 0).toNat + 1) y_21.Rows 0)))

def rowops_Align (a0 : api_Table) (a1 : Int) : Option (api_Table × Int) :=
  ((table_Check a0).bind fun y_3 => (if (y_3 != 0) = true then some ((⟨([] : List api_Col), ([] : List (List api_Value))⟩ : api_Table), y_3) else ((slices_Index_api_Col_api_Col a0.Cols (⟨(⟨#[116, 105, 109, 101]⟩ : ByteArray), 1⟩ : api_Col)).bind fun y_10 => (if (decide (a1 < 1)) = true then (rowops_Align.j0 a0 a1 y_10 true) else (rowops_Align.j0 a0 a1 y_10 (decide (y_10 < 0)))))))

/-! ### catchment/rowops.Top$1 -/
def rowops_Top_1_cp (a0 : List api_Value) (a1 : List api_Value) (a2 : Int) : Option Int :=
  ((ix a1 a2).bind fun y_21 => ((ix a0 a2).bind fun y_30 => ((value_Compare y_21 y_30).bind fun y_39 => some y_39)))

/-! ### slices.insertionSortCmpFunc[[]catchment/api.Value] -/
def slices_insertionSortCmpFunc_api_Value_f_rowops_Top_1p.j2 (kl0 : (List (List api_Value)) → Int → Option (List (List api_Value))) (kl1 : (List (List api_Value)) → Int → Option (List (List api_Value))) (a1 : Int) (a2 : Int) (x_695 : Int) (x_1599 : List (List api_Value)) (x_1603 : Int) (x_1908 : Bool) : Option (List (List api_Value)) :=
  (if x_1908 = true then ((ix x_1599 (IntKind.i64.wrap (x_1603 - 1))).bind fun y_2015 => ((ix x_1599 x_1603).bind fun y_2025 => ((ix x_1599 x_1603).bind fun y_2035 => ((ix (upd x_1599 x_1603 y_2015) (IntKind.i64.wrap (x_1603 - 1))).bind fun y_2054 => (kl1 (upd (upd x_1599 x_1603 y_2015) (IntKind.i64.wrap (x_1603 - 1)) y_2025) (IntKind.i64.wrap (x_1603 - 1))))))) else (kl0 x_1599 (IntKind.i64.wrap (x_695 + 1))))

def slices_insertionSortCmpFunc_api_Value_f_rowops_Top_1p.l1 (kl0 : (List (List api_Value)) → Int → Option (List (List api_Value))) (a1 : Int) (a2 : Int) (a3_0 : Int) (x_695 : Int) : Nat → (List (List api_Value)) → Int → Option (List (List api_Value))
  | 0, _, _ => none
  | k + 1, x_1599, x_1603 => (if (decide (x_1603 > a1)) = true then ((ix x_1599 x_1603).bind fun y_1934 => ((ix x_1599 (IntKind.i64.wrap (x_1603 - 1))).bind fun y_1944 => ((rowops_Top_1_cp y_1934 y_1944 a3_0).bind fun y_1954 => (slices_insertionSortCmpFunc_api_Value_f_rowops_Top_1p.j2 kl0 (slices_insertionSortCmpFunc_api_Value_f_rowops_Top_1p.l1 kl0 a1 a2 a3_0 x_695 k) a1 a2 x_695 x_1599 x_1603 (decide (y_1954 < 0)))))) else (slices_insertionSortCmpFunc_api_Value_f_rowops_Top_1p.j2 kl0 (slices_insertionSortCmpFunc_api_Value_f_rowops_Top_1p.l1 kl0 a1 a2 a3_0 x_695 k) a1 a2 x_695 x_1599 x_1603 false))

def slices_insertionSortCmpFunc_api_Value_f_rowops_Top_1p.l0 (a1 : Int) (a2 : Int) (a3_0 : Int) : Nat → (List (List api_Value)) → Int → Option (List (List api_Value))
  | 0, _, _ => none
  | k + 1, x_691, x_695 => (if (decide (x_695 < a2)) = true then (slices_insertionSortCmpFunc_api_Value_f_rowops_Top_1p.l1 (slices_insertionSortCmpFunc_api_Value_f_rowops_Top_1p.l0 a1 a2 a3_0 k) a1 a2 a3_0 x_695 ((x_695 - a1).toNat + 1) x_691 x_695) else some x_691)

def slices_insertionSortCmpFunc_api_Value_f_rowops_Top_1p (a0 : List (List api_Value)) (a1 : Int) (a2 : Int) (a3_0 : Int) : Option (List (List api_Value)) :=
  (slices_insertionSortCmpFunc_api_Value_f_rowops_Top_1p.l0 a1 a2 a3_0 ((a2 - (IntKind.i64.wrap (a1 + 1))).toNat + 1) a0 (IntKind.i64.wrap (a1 + 1)))

/-! ### slices.swapRangeCmpFunc[[]catchment/api.Value] -/
def slices_swapRangeCmpFunc_api_Value_f_rowops_Top_1p.l0 (a1 : Int) (a2 : Int) (a3 : Int) : Nat → (List (List api_Value)) → Int → Option (List (List api_Value))
  | 0, _, _ => none
  | k + 1, x_120, x_124 => (if (decide (x_124 < a3)) = true then ((ix x_120 (IntKind.i64.wrap (a2 + x_124))).bind fun y_302 => ((ix x_120 (IntKind.i64.wrap (a1 + x_124))).bind fun y_312 => ((ix x_120 (IntKind.i64.wrap (a1 + x_124))).bind fun y_322 => ((ix (upd x_120 (IntKind.i64.wrap (a1 + x_124)) y_302) (IntKind.i64.wrap (a2 + x_124))).bind fun y_341 => (slices_swapRangeCmpFunc_api_Value_f_rowops_Top_1p.l0 a1 a2 a3 k (upd (upd x_120 (IntKind.i64.wrap (a1 + x_124)) y_302) (IntKind.i64.wrap (a2 + x_124)) y_312) (IntKind.i64.wrap (x_124 + 1))))))) else some x_120)

def slices_swapRangeCmpFunc_api_Value_f_rowops_Top_1p (a0 : List (List api_Value)) (a1 : Int) (a2 : Int) (a3 : Int) (a4_0 : Int) : Option (List (List api_Value)) :=
  (slices_swapRangeCmpFunc_api_Value_f_rowops_Top_1p.l0 a1 a2 a3 ((a3 - 0).toNat + 1) a0 0)

/-! ### slices.rotateCmpFunc[[]catchment/api.Value] -/
def slices_rotateCmpFunc_api_Value_f_rowops_Top_1p.j1 (kl0 : (List (List api_Value)) → Int → Int → Option (List (List api_Value))) (a1 : Int) (a3 : Int) (x_108 : List (List api_Value)) (x_112 : Int) (x_113 : Int) : Option (List (List api_Value)) :=
  (kl0 x_108 x_112 x_113)

def slices_rotateCmpFunc_api_Value_f_rowops_Top_1p.l0 (a1 : Int) (a2 : Int) (a3 : Int) (a4_0 : Int) : Nat → (List (List api_Value)) → Int → Int → Option (List (List api_Value))
  | 0, _, _, _ => none
  | k + 1, x_43, x_47, x_48 => (if (x_47 != x_48) = true then (if (decide (x_47 > x_48)) = true then ((slices_swapRangeCmpFunc_api_Value_f_rowops_Top_1p x_43 (IntKind.i64.wrap (a2 - x_47)) a2 x_48 a4_0).bind fun y_117 => (slices_rotateCmpFunc_api_Value_f_rowops_Top_1p.j1 (slices_rotateCmpFunc_api_Value_f_rowops_Top_1p.l0 a1 a2 a3 a4_0 k) a1 a3 y_117 (IntKind.i64.wrap (x_47 - x_48)) x_48)) else ((slices_swapRangeCmpFunc_api_Value_f_rowops_Top_1p x_43 (IntKind.i64.wrap (a2 - x_47)) (IntKind.i64.wrap ((IntKind.i64.wrap (a2 + x_48)) - x_47)) x_47 a4_0).bind fun y_124 => (slices_rotateCmpFunc_api_Value_f_rowops_Top_1p.j1 (slices_rotateCmpFunc_api_Value_f_rowops_Top_1p.l0 a1 a2 a3 a4_0 k) a1 a3 y_124 x_47 (IntKind.i64.wrap (x_48 - x_47))))) else ((slices_swapRangeCmpFunc_api_Value_f_rowops_Top_1p x_43 (IntKind.i64.wrap (a2 - x_47)) a2 x_47 a4_0).bind fun y_131 => some y_131))

def slices_rotateCmpFunc_api_Value_f_rowops_Top_1p (a0 : List (List api_Value)) (a1 : Int) (a2 : Int) (a3 : Int) (a4_0 : Int) : Option (List (List api_Value)) :=
  (slices_rotateCmpFunc_api_Value_f_rowops_Top_1p.l0 a1 a2 a3 a4_0 ((a3 - a1).toNat + 1) a0 (IntKind.i64.wrap (a2 - a1)) (IntKind.i64.wrap (a3 - a2)))

/-! ### slices.symMergeCmpFunc[[]catchment/api.Value] -/
def slices_symMergeCmpFunc_api_Value_f_rowops_Top_1p.j8 (kl7 : Int → Int → Option (List (List api_Value))) (x_1030 : Int) (x_1031 : Int) (x_1184 : Int) (x_1185 : Int) : Option (List (List api_Value)) :=
  (kl7 x_1184 x_1185)

def slices_symMergeCmpFunc_api_Value_f_rowops_Top_1p.j13 (a1 : Int) (a2 : Int) (a3 : Int) (a4_0 : Int) (kr_62 : (List (List api_Value)) → Int → Int → Int → Int → Option (List (List api_Value))) (x_1085 : Int) (x_1228 : List (List api_Value)) (x_1243 : Bool) : Option (List (List api_Value)) :=
  (if x_1243 = true then ((kr_62 x_1228 (IntKind.i64.wrap ((IntKind.u64.wrap (IntKind.i64.wrap (a1 + a3))).fdiv (2 ^ (min (1 : Int).toNat 64)))) (IntKind.i64.wrap ((IntKind.i64.wrap ((IntKind.i64.wrap ((IntKind.u64.wrap (IntKind.i64.wrap (a1 + a3))).fdiv (2 ^ (min (1 : Int).toNat 64)))) + a2)) - x_1085)) a3 a4_0).bind fun y_1247 => some y_1247) else some x_1228)

def slices_symMergeCmpFunc_api_Value_f_rowops_Top_1p.j12 (a1 : Int) (a2 : Int) (a3 : Int) (a4_0 : Int) (kr_62 : (List (List api_Value)) → Int → Int → Int → Int → Option (List (List api_Value))) (x_1085 : Int) (x_1228 : List (List api_Value)) : Option (List (List api_Value)) :=
  (if (decide ((IntKind.i64.wrap ((IntKind.u64.wrap (IntKind.i64.wrap (a1 + a3))).fdiv (2 ^ (min (1 : Int).toNat 64)))) < (IntKind.i64.wrap ((IntKind.i64.wrap ((IntKind.i64.wrap ((IntKind.u64.wrap (IntKind.i64.wrap (a1 + a3))).fdiv (2 ^ (min (1 : Int).toNat 64)))) + a2)) - x_1085)))) = true then (slices_symMergeCmpFunc_api_Value_f_rowops_Top_1p.j13 a1 a2 a3 a4_0 kr_62 x_1085 x_1228 (decide ((IntKind.i64.wrap ((IntKind.i64.wrap ((IntKind.i64.wrap ((IntKind.u64.wrap (IntKind.i64.wrap (a1 + a3))).fdiv (2 ^ (min (1 : Int).toNat 64)))) + a2)) - x_1085)) < a3))) else (slices_symMergeCmpFunc_api_Value_f_rowops_Top_1p.j13 a1 a2 a3 a4_0 kr_62 x_1085 x_1228 false))

def slices_symMergeCmpFunc_api_Value_f_rowops_Top_1p.j11 (a1 : Int) (a2 : Int) (a3 : Int) (a4_0 : Int) (kr_62 : (List (List api_Value)) → Int → Int → Int → Int → Option (List (List api_Value))) (x_1085 : Int) (x_1201 : List (List api_Value)) (x_1216 : Bool) : Option (List (List api_Value)) :=
  (if x_1216 = true then ((kr_62 x_1201 a1 x_1085 (IntKind.i64.wrap ((IntKind.u64.wrap (IntKind.i64.wrap (a1 + a3))).fdiv (2 ^ (min (1 : Int).toNat 64)))) a4_0).bind fun y_1235 => (slices_symMergeCmpFunc_api_Value_f_rowops_Top_1p.j12 a1 a2 a3 a4_0 kr_62 x_1085 y_1235)) else (slices_symMergeCmpFunc_api_Value_f_rowops_Top_1p.j12 a1 a2 a3 a4_0 kr_62 x_1085 x_1201))

def slices_symMergeCmpFunc_api_Value_f_rowops_Top_1p.j10 (a1 : Int) (a2 : Int) (a3 : Int) (a4_0 : Int) (kr_62 : (List (List api_Value)) → Int → Int → Int → Int → Option (List (List api_Value))) (x_1085 : Int) (x_1201 : List (List api_Value)) : Option (List (List api_Value)) :=
  (if (decide (a1 < x_1085)) = true then (slices_symMergeCmpFunc_api_Value_f_rowops_Top_1p.j11 a1 a2 a3 a4_0 kr_62 x_1085 x_1201 (decide (x_1085 < (IntKind.i64.wrap ((IntKind.u64.wrap (IntKind.i64.wrap (a1 + a3))).fdiv (2 ^ (min (1 : Int).toNat 64))))))) else (slices_symMergeCmpFunc_api_Value_f_rowops_Top_1p.j11 a1 a2 a3 a4_0 kr_62 x_1085 x_1201 false))

def slices_symMergeCmpFunc_api_Value_f_rowops_Top_1p.j9 (a0 : List (List api_Value)) (a1 : Int) (a2 : Int) (a3 : Int) (a4_0 : Int) (kr_62 : (List (List api_Value)) → Int → Int → Int → Int → Option (List (List api_Value))) (x_1085 : Int) (x_1189 : Bool) : Option (List (List api_Value)) :=
  (if x_1189 = true then ((slices_rotateCmpFunc_api_Value_f_rowops_Top_1p a0 x_1085 a2 (IntKind.i64.wrap ((IntKind.i64.wrap ((IntKind.i64.wrap ((IntKind.u64.wrap (IntKind.i64.wrap (a1 + a3))).fdiv (2 ^ (min (1 : Int).toNat 64)))) + a2)) - x_1085)) a4_0).bind fun y_1208 => (slices_symMergeCmpFunc_api_Value_f_rowops_Top_1p.j10 a1 a2 a3 a4_0 kr_62 x_1085 y_1208)) else (slices_symMergeCmpFunc_api_Value_f_rowops_Top_1p.j10 a1 a2 a3 a4_0 kr_62 x_1085 a0))

def slices_symMergeCmpFunc_api_Value_f_rowops_Top_1p.l7 (a0 : List (List api_Value)) (a1 : Int) (a2 : Int) (a3 : Int) (a4_0 : Int) (kr_62 : (List (List api_Value)) → Int → Int → Int → Int → Option (List (List api_Value))) (x_1030 : Int) (x_1031 : Int) : Nat → Int → Int → Option (List (List api_Value))
  | 0, _, _ => none
  | k + 1, x_1085, x_1086 => (if (decide (x_1085 < x_1086)) = true then ((ix a0 (IntKind.i64.wrap ((IntKind.i64.wrap ((IntKind.i64.wrap ((IntKind.i64.wrap ((IntKind.u64.wrap (IntKind.i64.wrap (a1 + a3))).fdiv (2 ^ (min (1 : Int).toNat 64)))) + a2)) - 1)) - (IntKind.i64.wrap ((IntKind.u64.wrap (IntKind.i64.wrap (x_1085 + x_1086))).fdiv (2 ^ (min (1 : Int).toNat 64))))))).bind fun y_1161 => ((ix a0 (IntKind.i64.wrap ((IntKind.u64.wrap (IntKind.i64.wrap (x_1085 + x_1086))).fdiv (2 ^ (min (1 : Int).toNat 64))))).bind fun y_1171 => ((rowops_Top_1_cp y_1161 y_1171 a4_0).bind fun y_1181 => (if (!(decide (y_1181 < 0))) = true then (slices_symMergeCmpFunc_api_Value_f_rowops_Top_1p.j8 (slices_symMergeCmpFunc_api_Value_f_rowops_Top_1p.l7 a0 a1 a2 a3 a4_0 kr_62 x_1030 x_1031 k) x_1030 x_1031 (IntKind.i64.wrap ((IntKind.i64.wrap ((IntKind.u64.wrap (IntKind.i64.wrap (x_1085 + x_1086))).fdiv (2 ^ (min (1 : Int).toNat 64)))) + 1)) x_1086) else (slices_symMergeCmpFunc_api_Value_f_rowops_Top_1p.j8 (slices_symMergeCmpFunc_api_Value_f_rowops_Top_1p.l7 a0 a1 a2 a3 a4_0 kr_62 x_1030 x_1031 k) x_1030 x_1031 x_1085 (IntKind.i64.wrap ((IntKind.u64.wrap (IntKind.i64.wrap (x_1085 + x_1086))).fdiv (2 ^ (min (1 : Int).toNat 64))))))))) else (if (decide (x_1085 < a2)) = true then (slices_symMergeCmpFunc_api_Value_f_rowops_Top_1p.j9 a0 a1 a2 a3 a4_0 kr_62 x_1085 (decide (a2 < (IntKind.i64.wrap ((IntKind.i64.wrap ((IntKind.i64.wrap ((IntKind.u64.wrap (IntKind.i64.wrap (a1 + a3))).fdiv (2 ^ (min (1 : Int).toNat 64)))) + a2)) - x_1085))))) else (slices_symMergeCmpFunc_api_Value_f_rowops_Top_1p.j9 a0 a1 a2 a3 a4_0 kr_62 x_1085 false)))

def slices_symMergeCmpFunc_api_Value_f_rowops_Top_1p.j6 (a0 : List (List api_Value)) (a1 : Int) (a2 : Int) (a3 : Int) (a4_0 : Int) (kr_62 : (List (List api_Value)) → Int → Int → Int → Int → Option (List (List api_Value))) (x_1030 : Int) (x_1031 : Int) : Option (List (List api_Value)) :=
  (slices_symMergeCmpFunc_api_Value_f_rowops_Top_1p.l7 a0 a1 a2 a3 a4_0 kr_62 x_1030 x_1031 ((x_1031 - x_1030).toNat + 1) x_1030 x_1031)

def slices_symMergeCmpFunc_api_Value_f_rowops_Top_1p.j1 (kl0 : Int → Int → Option (List (List api_Value))) (a2 : Int) (a3 : Int) (x_152 : Int) (x_153 : Int) : Option (List (List api_Value)) :=
  (kl0 x_152 x_153)

def slices_symMergeCmpFunc_api_Value_f_rowops_Top_1p.l2 (a1 : Int) (x_53 : Int) : Nat → (List (List api_Value)) → Int → Option (List (List api_Value))
  | 0, _, _ => none
  | k + 1, x_275, x_279 => (if (decide (x_279 < (IntKind.i64.wrap (x_53 - 1)))) = true then ((ix x_275 (IntKind.i64.wrap (x_279 + 1))).bind fun y_457 => ((ix x_275 x_279).bind fun y_467 => ((ix x_275 x_279).bind fun y_477 => ((ix (upd x_275 x_279 y_457) (IntKind.i64.wrap (x_279 + 1))).bind fun y_496 => (slices_symMergeCmpFunc_api_Value_f_rowops_Top_1p.l2 a1 x_53 k (upd (upd x_275 x_279 y_457) (IntKind.i64.wrap (x_279 + 1)) y_467) (IntKind.i64.wrap (x_279 + 1))))))) else some x_275)

def slices_symMergeCmpFunc_api_Value_f_rowops_Top_1p.l0 (a0 : List (List api_Value)) (a1 : Int) (a2 : Int) (a3 : Int) (a4_0 : Int) : Nat → Int → Int → Option (List (List api_Value))
  | 0, _, _ => none
  | k + 1, x_53, x_54 => (if (decide (x_53 < x_54)) = true then ((ix a0 (IntKind.i64.wrap ((IntKind.u64.wrap (IntKind.i64.wrap (x_53 + x_54))).fdiv (2 ^ (min (1 : Int).toNat 64))))).bind fun y_129 => ((ix a0 a1).bind fun y_139 => ((rowops_Top_1_cp y_129 y_139 a4_0).bind fun y_149 => (if (decide (y_149 < 0)) = true then (slices_symMergeCmpFunc_api_Value_f_rowops_Top_1p.j1 (slices_symMergeCmpFunc_api_Value_f_rowops_Top_1p.l0 a0 a1 a2 a3 a4_0 k) a2 a3 (IntKind.i64.wrap ((IntKind.i64.wrap ((IntKind.u64.wrap (IntKind.i64.wrap (x_53 + x_54))).fdiv (2 ^ (min (1 : Int).toNat 64)))) + 1)) x_54) else (slices_symMergeCmpFunc_api_Value_f_rowops_Top_1p.j1 (slices_symMergeCmpFunc_api_Value_f_rowops_Top_1p.l0 a0 a1 a2 a3 a4_0 k) a2 a3 x_53 (IntKind.i64.wrap ((IntKind.u64.wrap (IntKind.i64.wrap (x_53 + x_54))).fdiv (2 ^ (min (1 : Int).toNat 64))))))))) else (slices_symMergeCmpFunc_api_Value_f_rowops_Top_1p.l2 a1 x_53 (((IntKind.i64.wrap (x_53 - 1)) - a1).toNat + 1) a0 a1))

def slices_symMergeCmpFunc_api_Value_f_rowops_Top_1p.j4 (kl3 : Int → Int → Option (List (List api_Value))) (a1 : Int) (a2 : Int) (x_666 : Int) (x_667 : Int) : Option (List (List api_Value)) :=
  (kl3 x_666 x_667)

def slices_symMergeCmpFunc_api_Value_f_rowops_Top_1p.l5 (a2 : Int) (x_567 : Int) : Nat → (List (List api_Value)) → Int → Option (List (List api_Value))
  | 0, _, _ => none
  | k + 1, x_789, x_793 => (if (decide (x_793 > x_567)) = true then ((ix x_789 (IntKind.i64.wrap (x_793 - 1))).bind fun y_971 => ((ix x_789 x_793).bind fun y_981 => ((ix x_789 x_793).bind fun y_991 => ((ix (upd x_789 x_793 y_971) (IntKind.i64.wrap (x_793 - 1))).bind fun y_1010 => (slices_symMergeCmpFunc_api_Value_f_rowops_Top_1p.l5 a2 x_567 k (upd (upd x_789 x_793 y_971) (IntKind.i64.wrap (x_793 - 1)) y_981) (IntKind.i64.wrap (x_793 - 1))))))) else some x_789)

def slices_symMergeCmpFunc_api_Value_f_rowops_Top_1p.l3 (a0 : List (List api_Value)) (a1 : Int) (a2 : Int) (a4_0 : Int) : Nat → Int → Int → Option (List (List api_Value))
  | 0, _, _ => none
  | k + 1, x_567, x_568 => (if (decide (x_567 < x_568)) = true then ((ix a0 a2).bind fun y_643 => ((ix a0 (IntKind.i64.wrap ((IntKind.u64.wrap (IntKind.i64.wrap (x_567 + x_568))).fdiv (2 ^ (min (1 : Int).toNat 64))))).bind fun y_653 => ((rowops_Top_1_cp y_643 y_653 a4_0).bind fun y_663 => (if (!(decide (y_663 < 0))) = true then (slices_symMergeCmpFunc_api_Value_f_rowops_Top_1p.j4 (slices_symMergeCmpFunc_api_Value_f_rowops_Top_1p.l3 a0 a1 a2 a4_0 k) a1 a2 (IntKind.i64.wrap ((IntKind.i64.wrap ((IntKind.u64.wrap (IntKind.i64.wrap (x_567 + x_568))).fdiv (2 ^ (min (1 : Int).toNat 64)))) + 1)) x_568) else (slices_symMergeCmpFunc_api_Value_f_rowops_Top_1p.j4 (slices_symMergeCmpFunc_api_Value_f_rowops_Top_1p.l3 a0 a1 a2 a4_0 k) a1 a2 x_567 (IntKind.i64.wrap ((IntKind.u64.wrap (IntKind.i64.wrap (x_567 + x_568))).fdiv (2 ^ (min (1 : Int).toNat 64))))))))) else (slices_symMergeCmpFunc_api_Value_f_rowops_Top_1p.l5 a2 x_567 ((a2 - x_567).toNat + 1) a0 a2))

def slices_symMergeCmpFunc_api_Value_f_rowops_Top_1p.b (kr_62 : (List (List api_Value)) → Int → Int → Int → Int → Option (List (List api_Value))) (a0 : List (List api_Value)) (a1 : Int) (a2 : Int) (a3 : Int) (a4_0 : Int) : Option (List (List api_Value)) :=
  (if ((IntKind.i64.wrap (a2 - a1)) == 1) = true then (slices_symMergeCmpFunc_api_Value_f_rowops_Top_1p.l0 a0 a1 a2 a3 a4_0 ((a3 - a2).toNat + 1) a2 a3) else (if ((IntKind.i64.wrap (a3 - a2)) == 1) = true then (slices_symMergeCmpFunc_api_Value_f_rowops_Top_1p.l3 a0 a1 a2 a4_0 ((a2 - a1).toNat + 1) a1 a2) else (if (decide (a2 > (IntKind.i64.wrap ((IntKind.u64.wrap (IntKind.i64.wrap (a1 + a3))).fdiv (2 ^ (min (1 : Int).toNat 64)))))) = true then (slices_symMergeCmpFunc_api_Value_f_rowops_Top_1p.j6 a0 a1 a2 a3 a4_0 kr_62 (IntKind.i64.wrap ((IntKind.i64.wrap ((IntKind.i64.wrap ((IntKind.u64.wrap (IntKind.i64.wrap (a1 + a3))).fdiv (2 ^ (min (1 : Int).toNat 64)))) + a2)) - a3)) (IntKind.i64.wrap ((IntKind.u64.wrap (IntKind.i64.wrap (a1 + a3))).fdiv (2 ^ (min (1 : Int).toNat 64))))) else (slices_symMergeCmpFunc_api_Value_f_rowops_Top_1p.j6 a0 a1 a2 a3 a4_0 kr_62 a1 a2))))

def slices_symMergeCmpFunc_api_Value_f_rowops_Top_1p.r : Nat → (List (List api_Value)) → Int → Int → Int → Int → Option (List (List api_Value))
  | 0, _, _, _, _, _ => none
  | k + 1, a0, a1, a2, a3, a4_0 => slices_symMergeCmpFunc_api_Value_f_rowops_Top_1p.b (slices_symMergeCmpFunc_api_Value_f_rowops_Top_1p.r k) a0 a1 a2 a3 a4_0

def slices_symMergeCmpFunc_api_Value_f_rowops_Top_1p (a0 : List (List api_Value)) (a1 : Int) (a2 : Int) (a3 : Int) (a4_0 : Int) : Option (List (List api_Value)) := slices_symMergeCmpFunc_api_Value_f_rowops_Top_1p.r (a0.length + 1) a0 a1 a2 a3 a4_0

/-! ### slices.stableCmpFunc[[]catchment/api.Value] -/
def slices_stableCmpFunc_api_Value_f_rowops_Top_1p.j3 (kl1 : (List (List api_Value)) → Int → Option (List (List api_Value))) (a1 : Int) (x_106 : Int) (x_211 : List (List api_Value)) : Option (List (List api_Value)) :=
  (kl1 x_211 (IntKind.i64.wrap (x_106 * 2)))

def slices_stableCmpFunc_api_Value_f_rowops_Top_1p.l2 (kl1 : (List (List api_Value)) → Int → Option (List (List api_Value))) (a1 : Int) (a2_0 : Int) (x_106 : Int) : Nat → (List (List api_Value)) → Int → Int → Option (List (List api_Value))
  | 0, _, _, _ => none
  | k + 1, x_178, x_182, x_183 => (if (decide (x_183 ≤ a1)) = true then ((slices_symMergeCmpFunc_api_Value_f_rowops_Top_1p x_178 x_182 (IntKind.i64.wrap (x_182 + x_106)) x_183 a2_0).bind fun y_195 => (slices_stableCmpFunc_api_Value_f_rowops_Top_1p.l2 kl1 a1 a2_0 x_106 k y_195 x_183 (IntKind.i64.wrap (x_183 + (IntKind.i64.wrap (2 * x_106)))))) else (if (decide ((IntKind.i64.wrap (x_182 + x_106)) < a1)) = true then ((slices_symMergeCmpFunc_api_Value_f_rowops_Top_1p x_178 x_182 (IntKind.i64.wrap (x_182 + x_106)) a1 a2_0).bind fun y_218 => (slices_stableCmpFunc_api_Value_f_rowops_Top_1p.j3 kl1 a1 x_106 y_218)) else (slices_stableCmpFunc_api_Value_f_rowops_Top_1p.j3 kl1 a1 x_106 x_178)))

def slices_stableCmpFunc_api_Value_f_rowops_Top_1p.l1 (a1 : Int) (a2_0 : Int) : Nat → (List (List api_Value)) → Int → Option (List (List api_Value))
  | 0, _, _ => none
  | k + 1, x_102, x_106 => (if (decide (x_106 < a1)) = true then (slices_stableCmpFunc_api_Value_f_rowops_Top_1p.l2 (slices_stableCmpFunc_api_Value_f_rowops_Top_1p.l1 a1 a2_0 k) a1 a2_0 x_106 ((a1 - (IntKind.i64.wrap (2 * x_106))).toNat + 2) x_102 0 (IntKind.i64.wrap (2 * x_106))) else some x_102)

def slices_stableCmpFunc_api_Value_f_rowops_Top_1p.l0 (a1 : Int) (a2_0 : Int) : Nat → (List (List api_Value)) → Int → Int → Option (List (List api_Value))
  | 0, _, _, _ => none
  | k + 1, x_11, x_15, x_16 => (if (decide (x_16 ≤ a1)) = true then ((slices_insertionSortCmpFunc_api_Value_f_rowops_Top_1p x_11 x_15 x_16 a2_0).bind fun y_28 => (slices_stableCmpFunc_api_Value_f_rowops_Top_1p.l0 a1 a2_0 k y_28 x_16 (IntKind.i64.wrap (x_16 + 20)))) else ((slices_insertionSortCmpFunc_api_Value_f_rowops_Top_1p x_11 x_15 a1 a2_0).bind fun y_35 => (slices_stableCmpFunc_api_Value_f_rowops_Top_1p.l1 a1 a2_0 ((a1 - 20).toNat + 1) y_35 20)))

def slices_stableCmpFunc_api_Value_f_rowops_Top_1p (a0 : List (List api_Value)) (a1 : Int) (a2_0 : Int) : Option (List (List api_Value)) :=
  (slices_stableCmpFunc_api_Value_f_rowops_Top_1p.l0 a1 a2_0 ((a1 - 20).toNat + 2) a0 0 20)

/-! ### slices.SortStableFunc[[][]catchment/api.Value,[]catchment/api.Value] -/
def slices_SortStableFunc_api_Value_api_Value_f_rowops_Top_1p (a0 : List (List api_Value)) (a1_0 : Int) : Option (List (List api_Value)) :=
  ((slices_stableCmpFunc_api_Value_f_rowops_Top_1p a0 (a0.length : Int) a1_0).bind fun y_1 => some y_1)

/-! ### catchment/rowops.Top -/
def rowops_Top.j0 (a0 : api_Table) (a1 : Int) (y_10 : Int) (x_25 : Bool) : Option (api_Table × Int) :=
  (if x_25 = true then some ((⟨([] : List api_Col), ([] : List (List api_Value))⟩ : api_Table), 1) else ((table_Canon a0).bind fun y_44 => ((slices_SortStableFunc_api_Value_api_Value_f_rowops_Top_1p y_44.Rows y_10).bind fun y_58 => ((cut y_58 0 (min a1 (y_58.length : Int))).bind fun y_68 => ((table_Canon (⟨y_44.Cols, y_68⟩ : api_Table)).bind fun y_73 => some (y_73, 0))))))

def rowops_Top (a0 : api_Table) (a1 : Int) (a2 : ByteArray) : Option (api_Table × Int) :=
  ((table_Check a0).bind fun y_3 => (if (y_3 != 0) = true then some ((⟨([] : List api_Col), ([] : List (List api_Value))⟩ : api_Table), y_3) else ((table_Find a0.Cols a2).bind fun y_10 => (if (decide (a1 < 1)) = true then (rowops_Top.j0 a0 a1 y_10 true) else (if (decide (a1 > 1000)) = true then (rowops_Top.j0 a0 a1 y_10 true) else (if (decide (y_10 < 0)) = true then (rowops_Top.j0 a0 a1 y_10 true) else ((ix a0.Cols y_10).bind fun y_30 => (rowops_Top.j0 a0 a1 y_10 (y_30.Kind == 4)))))))))

/-! ### catchment/catchmentref02.SameCols -/
def ref02_SameCols.l0 (a0 : List api_Col) (a1 : List api_Col) : Nat → Int → Option Bool
  | 0, _ => none
  | k + 1, x_41 => (if (decide (x_41 < (a0.length : Int))) = true then ((ix a0 x_41).bind fun y_100 => ((ix a1 x_41).bind fun y_109 => (if (!decide (y_100 = y_109)) = true then some false else (ref02_SameCols.l0 a0 a1 k (IntKind.i64.wrap (x_41 + 1)))))) else some true)

def ref02_SameCols (a0 : List api_Col) (a1 : List api_Col) : Option Bool :=
  (if ((a0.length : Int) != (a1.length : Int)) = true then some false else (ref02_SameCols.l0 a0 a1 (((a0.length : Int) - 0).toNat + 1) 0))

/-! ### catchment/catchmentref01.order -/
def ref01_order (a0 : Int) (a1 : Int) : Option Int :=
  (if (decide (a0 < a1)) = true then some (-1) else (if (decide (a0 > a1)) = true then some 1 else some 0))

/-! ### catchment/catchmentref01.Compare -/
def ref01_Compare.l2 (a0 : api_Value) (a1 : api_Value) : Nat → Int → Option Int
  | 0, _ => none
  | k + 1, x_100 => (if (decide (x_100 < 8)) = true then ((Arr8.ix a0.H x_100).bind fun y_129 => ((Arr8.ix a1.H x_100).bind fun y_131 => (if (y_129 != y_131) = true then ((Arr8.ix a0.H x_100).bind fun y_140 => ((Arr8.ix a1.H x_100).bind fun y_142 => ((ref01_order y_140 y_142).bind fun y_144 => some y_144))) else (ref01_Compare.l2 a0 a1 k (IntKind.i64.wrap (x_100 + 1)))))) else some 0)

def ref01_Compare.j1 (kl0 : Int → Option Int) (a0 : api_Value) (a1 : api_Value) (x_36 : Int) (x_66 : Bool) : Option Int :=
  (if x_66 = true then ((ixs a0.S x_36).bind fun y_74 => ((ixs a1.S x_36).bind fun y_76 => (if (y_74 != y_76) = true then ((ixs a0.S x_36).bind fun y_85 => ((ixs a1.S x_36).bind fun y_87 => ((ref01_order (IntKind.i64.wrap y_85) (IntKind.i64.wrap y_87)).bind fun y_89 => some y_89))) else (kl0 (IntKind.i64.wrap (x_36 + 1)))))) else (if ((a0.S.size : Int) != (a1.S.size : Int)) = true then ((ref01_order (a0.S.size : Int) (a1.S.size : Int)).bind fun y_92 => some y_92) else (ref01_Compare.l2 a0 a1 (((8 : Int) - 0).toNat + 1) 0)))

def ref01_Compare.l0 (a0 : api_Value) (a1 : api_Value) : Nat → Int → Option Int
  | 0, _ => none
  | k + 1, x_36 => (if (decide (x_36 < (a0.S.size : Int))) = true then (ref01_Compare.j1 (ref01_Compare.l0 a0 a1 k) a0 a1 x_36 (decide (x_36 < (a1.S.size : Int)))) else (ref01_Compare.j1 (ref01_Compare.l0 a0 a1 k) a0 a1 x_36 false))

def ref01_Compare (a0 : api_Value) (a1 : api_Value) : Option Int :=
  (if (a0.Kind != a1.Kind) = true then ((ref01_order a0.Kind a1.Kind).bind fun y_4 => some y_4) else (if (a0.N != a1.N) = true then ((ref01_order a0.N a1.N).bind fun y_7 => some y_7) else (ref01_Compare.l0 a0 a1 (((a0.S.size : Int) - 0).toNat + 1) 0)))

/-! ### catchment/catchmentref02.Row -/
def ref02_Row.j1 (kl0 : Int → Option Int) (a0 : List api_Value) (a1 : List api_Value) (x_48 : Int) (x_98 : Bool) : Option Int :=
  (if x_98 = true then ((ix a0 x_48).bind fun y_122 => ((ix a1 x_48).bind fun y_131 => ((ref01_Compare y_122 y_131).bind fun y_140 => (if (y_140 != 0) = true then some y_140 else (kl0 (IntKind.i64.wrap (x_48 + 1))))))) else (if (decide ((a0.length : Int) < (a1.length : Int))) = true then some (-1) else (if (decide ((a0.length : Int) > (a1.length : Int))) = true then some 1 else some 0)))

def ref02_Row.l0 (a0 : List api_Value) (a1 : List api_Value) : Nat → Int → Option Int
  | 0, _ => none
  | k + 1, x_48 => (if (decide (x_48 < (a0.length : Int))) = true then (ref02_Row.j1 (ref02_Row.l0 a0 a1 k) a0 a1 x_48 (decide (x_48 < (a1.length : Int)))) else (ref02_Row.j1 (ref02_Row.l0 a0 a1 k) a0 a1 x_48 false))

def ref02_Row (a0 : List api_Value) (a1 : List api_Value) : Option Int :=
  (ref02_Row.l0 a0 a1 (((a0.length : Int) - 0).toNat + 1) 0)

/-! ### catchment/catchmentref02.Same -/
def ref02_Same.l1 (a0 : api_Table) (a1 : api_Table) : Nat → Int → Option Bool
  | 0, _ => none
  | k + 1, x_63 => (if (decide (x_63 < (a0.Rows.length : Int))) = true then ((ix a0.Rows x_63).bind fun y_140 => ((ix a1.Rows x_63).bind fun y_151 => ((ref02_Row y_140 y_151).bind fun y_162 => (if (y_162 != 0) = true then some false else (ref02_Same.l1 a0 a1 k (IntKind.i64.wrap (x_63 + 1))))))) else some true)

def ref02_Same.j0 (a0 : api_Table) (a1 : api_Table) (x_6 : Bool) : Option Bool :=
  (if x_6 = true then some false else (ref02_Same.l1 a0 a1 (((a0.Rows.length : Int) - 0).toNat + 1) 0))

def ref02_Same (a0 : api_Table) (a1 : api_Table) : Option Bool :=
  ((ref02_SameCols a0.Cols a1.Cols).bind fun y_8 => (if (!y_8) = true then (ref02_Same.j0 a0 a1 true) else (ref02_Same.j0 a0 a1 ((a0.Rows.length : Int) != (a1.Rows.length : Int)))))

/-! ### catchment/catchmentlaw16.shown -/
def law16_shown : Option Bool :=
  ((law16_pairs [(-1), 0, 25, 1]).bind fun y_2 => ((rowops_Align y_2 10).bind fun y_14 => ((law16_pairs [1, 5, 2, 7, 3, 7]).bind fun y_28 => ((rowops_Top y_28 2 (⟨#[110]⟩ : ByteArray)).bind fun y_40 => ((law16_pairs [1, 5]).bind fun y_54 => ((rowops_Top y_54 0 (⟨#[110]⟩ : ByteArray)).bind fun y_66 => ((law16_pairs [1, 5]).bind fun y_80 => ((rowops_Top y_80 1 (⟨#[120]⟩ : ByteArray)).bind fun y_92 => ((law16_pairs [1, 5]).bind fun y_106 => ((rowops_Align y_106 0).bind fun y_118 => ((law16_pairs [(-10), 0, 20, 1]).bind fun y_147 => ((ref02_Same y_14.1 y_147).bind fun y_159 => ((law16_pairs [2, 7, 3, 7]).bind fun y_177 => ((ref02_Same y_40.1 y_177).bind fun y_189 => (if y_159 = true then (if y_189 = true then (if (y_14.2 == 0) = true then (if (y_40.2 == 0) = true then (if (y_66.2 == 1) = true then (if (y_92.2 == 1) = true then some (y_118.2 == 1) else some false) else some false) else some false) else some false) else some false) else some false)))))))))))))))

/-! ### catchment/catchmentlaw16.cut -/
def law16_cut (a0 : api_Table) : Option api_Table :=
  (if (decide ((a0.Rows.length : Int) > 100)) = true then ((cut a0.Rows 0 100).bind fun y_4 => some (⟨a0.Cols, y_4⟩ : api_Table)) else some a0)

/-! ### catchment/catchmentref02.sorted -/
def ref02_sorted.j3 (kl0 : (List (List api_Value)) → Int → Int → Option (List (List api_Value))) (y_16 : List (List api_Value)) (y_29 : List (List api_Value)) (x_557 : List (List api_Value)) (x_561 : Int) (x_562 : Int) : Option (List (List api_Value)) :=
  (kl0 x_557 x_561 x_562)

def ref02_sorted.j2 (kl0 : (List (List api_Value)) → Int → Int → Option (List (List api_Value))) (y_16 : List (List api_Value)) (y_29 : List (List api_Value)) (x_228 : List (List api_Value)) (x_232 : Int) (x_233 : Int) (x_471 : Bool) : Option (List (List api_Value)) :=
  (if x_471 = true then ((ix y_16 x_232).bind fun y_565 => ((apd 24 x_228 [y_565]).bind fun y_576 => (ref02_sorted.j3 kl0 y_16 y_29 y_576 (IntKind.i64.wrap (x_232 + 1)) x_233))) else ((ix y_29 x_233).bind fun y_582 => ((apd 24 x_228 [y_582]).bind fun y_593 => (ref02_sorted.j3 kl0 y_16 y_29 y_593 x_232 (IntKind.i64.wrap (x_233 + 1))))))

def ref02_sorted.j1 (kl0 : (List (List api_Value)) → Int → Int → Option (List (List api_Value))) (y_16 : List (List api_Value)) (y_29 : List (List api_Value)) (x_228 : List (List api_Value)) (x_232 : Int) (x_233 : Int) (x_419 : Bool) : Option (List (List api_Value)) :=
  (if x_419 = true then (if (x_233 == (y_29.length : Int)) = true then (ref02_sorted.j2 kl0 y_16 y_29 x_228 x_232 x_233 true) else (if (decide (x_232 < (y_16.length : Int))) = true then ((ix y_16 x_232).bind fun y_499 => ((ix y_29 x_233).bind fun y_509 => ((ref02_Row y_499 y_509).bind fun y_519 => (ref02_sorted.j2 kl0 y_16 y_29 x_228 x_232 x_233 (decide (y_519 ≤ 0)))))) else (ref02_sorted.j2 kl0 y_16 y_29 x_228 x_232 x_233 false))) else some x_228)

def ref02_sorted.l0 (y_16 : List (List api_Value)) (y_29 : List (List api_Value)) : Nat → (List (List api_Value)) → Int → Int → Option (List (List api_Value))
  | 0, _, _, _ => none
  | k + 1, x_228, x_232, x_233 => (if (decide (x_232 < (y_16.length : Int))) = true then (ref02_sorted.j1 (ref02_sorted.l0 y_16 y_29 k) y_16 y_29 x_228 x_232 x_233 true) else (ref02_sorted.j1 (ref02_sorted.l0 y_16 y_29 k) y_16 y_29 x_228 x_232 x_233 (decide (x_233 < (y_29.length : Int)))))

def ref02_sorted.b (kr_23 : (List (List api_Value)) → Option (List (List api_Value))) (a0 : List (List api_Value)) : Option (List (List api_Value)) :=
  (if (decide ((a0.length : Int) < 2)) = true then ((apd 24 ([] : List (List api_Value)) a0).bind fun y_5 => some y_5) else ((cut a0 0 (IntKind.i64.wrap ((a0.length : Int).tdiv 2))).bind fun y_11 => ((kr_23 y_11).bind fun y_16 => ((cut a0 (IntKind.i64.wrap ((a0.length : Int).tdiv 2)) a0.length).bind fun y_24 => ((kr_23 y_24).bind fun y_29 => (ref02_sorted.l0 y_16 y_29 (y_16.length + y_29.length + 1) [] 0 0))))))

def ref02_sorted.r : Nat → (List (List api_Value)) → Option (List (List api_Value))
  | 0, _ => none
  | k + 1, a0 => ref02_sorted.b (ref02_sorted.r k) a0

def ref02_sorted (a0 : List (List api_Value)) : Option (List (List api_Value)) := ref02_sorted.r (a0.length + 1) a0

/-! ### catchment/catchmentref02.Canon -/
def ref02_Canon (a0 : api_Table) : Option api_Table :=
  ((apd 24 ([] : List api_Col) a0.Cols).bind fun y_25 => ((ref02_sorted a0.Rows).bind fun y_31 => some (⟨y_25, y_31⟩ : api_Table)))

/-! ### catchment/catchmentref02.Name -/
def ref02_Name.j2 (kl1 : Int → Option Bool) (a0 : ByteArray) (x_45 : Int) (x_86 : Bool) : Option Bool :=
  (if x_86 = true then some false else (kl1 (IntKind.i64.wrap (x_45 + 1))))

def ref02_Name.l1 (a0 : ByteArray) : Nat → Int → Option Bool
  | 0, _ => none
  | k + 1, x_45 => (if (decide (x_45 < (a0.size : Int))) = true then ((ixs a0 x_45).bind fun y_74 => (if (decide (y_74 ≥ 97)) = true then (if (decide (y_74 ≤ 122)) = true then (ref02_Name.j2 (ref02_Name.l1 a0 k) a0 x_45 false) else (if (decide (y_74 ≥ 48)) = true then (if (decide (y_74 ≤ 57)) = true then (ref02_Name.j2 (ref02_Name.l1 a0 k) a0 x_45 false) else (if (y_74 == 95) = true then (ref02_Name.j2 (ref02_Name.l1 a0 k) a0 x_45 false) else (ref02_Name.j2 (ref02_Name.l1 a0 k) a0 x_45 (!(y_74 == 35))))) else (if (y_74 == 95) = true then (ref02_Name.j2 (ref02_Name.l1 a0 k) a0 x_45 false) else (ref02_Name.j2 (ref02_Name.l1 a0 k) a0 x_45 (!(y_74 == 35)))))) else (if (decide (y_74 ≥ 48)) = true then (if (decide (y_74 ≤ 57)) = true then (ref02_Name.j2 (ref02_Name.l1 a0 k) a0 x_45 false) else (if (y_74 == 95) = true then (ref02_Name.j2 (ref02_Name.l1 a0 k) a0 x_45 false) else (ref02_Name.j2 (ref02_Name.l1 a0 k) a0 x_45 (!(y_74 == 35))))) else (if (y_74 == 95) = true then (ref02_Name.j2 (ref02_Name.l1 a0 k) a0 x_45 false) else (ref02_Name.j2 (ref02_Name.l1 a0 k) a0 x_45 (!(y_74 == 35))))))) else some true)

def ref02_Name.j0 (a0 : ByteArray) (x_8 : Bool) : Option Bool :=
  (if x_8 = true then some false else (ref02_Name.l1 a0 (((a0.size : Int) - 0).toNat + 1) 0))

def ref02_Name (a0 : ByteArray) : Option Bool :=
  (if (decide ((a0.size : Int) < 1)) = true then (ref02_Name.j0 a0 true) else (if (decide ((a0.size : Int) > 24)) = true then (ref02_Name.j0 a0 true) else ((ixs a0 0).bind fun y_12 => (if (decide (y_12 < 97)) = true then (ref02_Name.j0 a0 true) else ((ixs a0 0).bind fun y_15 => (ref02_Name.j0 a0 (decide (y_15 > 122))))))))

/-! ### catchment/catchmentref02.Find -/
def ref02_Find.l0 (a0 : List api_Col) (a1 : ByteArray) : Nat → Int → Option Int
  | 0, _ => none
  | k + 1, x_13 => (if (decide (x_13 < (a0.length : Int))) = true then ((ix a0 x_13).bind fun y_27 => (if (y_27.Name.toList == a1.toList) = true then some x_13 else (ref02_Find.l0 a0 a1 k (IntKind.i64.wrap (x_13 + 1))))) else some (-1))

def ref02_Find (a0 : List api_Col) (a1 : ByteArray) : Option Int :=
  (ref02_Find.l0 a0 a1 (((a0.length : Int) - 0).toNat + 1) 0)

/-! ### catchment/catchmentref02.Cols -/
def ref02_Cols.j2 (kl1 : Int → Option Bool) (a0 : List api_Col) (x_97 : Int) (x_233 : Bool) : Option Bool :=
  (if x_233 = true then some false else (kl1 (IntKind.i64.wrap (x_97 + 1))))

def ref02_Cols.l1 (a0 : List api_Col) : Nat → Int → Option Bool
  | 0, _ => none
  | k + 1, x_97 => (if (decide (x_97 < (a0.length : Int))) = true then ((ix a0 x_97).bind fun y_235 => ((ref02_Name y_235.Name).bind fun y_244 => (if (!y_244) = true then (ref02_Cols.j2 (ref02_Cols.l1 a0 k) a0 x_97 true) else ((ix a0 x_97).bind fun y_247 => ((ref02_Find a0 y_247.Name).bind fun y_256 => (if (y_256 != x_97) = true then (ref02_Cols.j2 (ref02_Cols.l1 a0 k) a0 x_97 true) else ((ix a0 x_97).bind fun y_259 => (if (decide (y_259.Kind < 1)) = true then (ref02_Cols.j2 (ref02_Cols.l1 a0 k) a0 x_97 true) else ((ix a0 x_97).bind fun y_269 => (ref02_Cols.j2 (ref02_Cols.l1 a0 k) a0 x_97 (decide (y_269.Kind > 4)))))))))))) else some true)

def ref02_Cols.j0 (a0 : List api_Col) (x_2 : Bool) : Option Bool :=
  (if x_2 = true then some false else (ref02_Cols.l1 a0 (((a0.length : Int) - 0).toNat + 1) 0))

def ref02_Cols (a0 : List api_Col) : Option Bool :=
  (if (decide ((a0.length : Int) < 1)) = true then (ref02_Cols.j0 a0 true) else (ref02_Cols.j0 a0 (decide ((a0.length : Int) > 16))))

/-! ### catchment/catchmentref01.Valid -/
def ref01_Valid (a0 : api_Value) : Option Bool :=
  (if (a0.Kind == 1) = true then (if (a0.S.toList == (⟨#[]⟩ : ByteArray).toList) = true then some (decide (a0.H = (⟨0, 0, 0, 0, 0, 0, 0, 0⟩ : Arr8))) else some false) else (if (a0.Kind == 2) = true then (if (a0.N == 0) = true then (if (decide (a0.H = (⟨0, 0, 0, 0, 0, 0, 0, 0⟩ : Arr8))) = true then some (decide ((a0.S.size : Int) ≤ 64)) else some false) else some false) else (if (a0.Kind == 3) = true then (if (a0.N == 0) = true then (if (a0.S.toList == (⟨#[]⟩ : ByteArray).toList) = true then some (decide (a0.H = (⟨0, 0, 0, 0, 0, 0, 0, 0⟩ : Arr8))) else some false) else (if (a0.N == 1) = true then (if (a0.S.toList == (⟨#[]⟩ : ByteArray).toList) = true then some (decide (a0.H = (⟨0, 0, 0, 0, 0, 0, 0, 0⟩ : Arr8))) else some false) else some false)) else (if (a0.Kind == 4) = true then (if (a0.N == 0) = true then some (a0.S.toList == (⟨#[]⟩ : ByteArray).toList) else some false) else some false))))

/-! ### catchment/catchmentref02.Check -/
def ref02_Check.j2 (kl1 : Int → Option Int) (a0 : api_Table) (x_1571 : Int) (x_1890 : Bool) : Option Int :=
  (if x_1890 = true then some 21 else (kl1 (IntKind.i64.wrap (x_1571 + 1))))

def ref02_Check.l1 (kl0 : Int → Option Int) (a0 : api_Table) (x_669 : Int) : Nat → Int → Option Int
  | 0, _ => none
  | k + 1, x_1571 => (if (decide (x_1571 < (a0.Cols.length : Int))) = true then ((ix a0.Rows x_669).bind fun y_1944 => ((ix y_1944 x_1571).bind fun y_1955 => ((ix a0.Cols x_1571).bind fun y_1964 => (if (y_1955.Kind != y_1964.Kind) = true then (ref02_Check.j2 (ref02_Check.l1 kl0 a0 x_669 k) a0 x_1571 true) else ((ix a0.Rows x_669).bind fun y_1974 => ((ix y_1974 x_1571).bind fun y_1985 => ((ref01_Valid y_1985).bind fun y_1994 => (ref02_Check.j2 (ref02_Check.l1 kl0 a0 x_669 k) a0 x_1571 (!y_1994))))))))) else (kl0 (IntKind.i64.wrap (x_669 + 1))))

def ref02_Check.l0 (a0 : api_Table) : Nat → Int → Option Int
  | 0, _ => none
  | k + 1, x_669 => (if (decide (x_669 < (a0.Rows.length : Int))) = true then ((ix a0.Rows x_669).bind fun y_1346 => (if ((y_1346.length : Int) != (a0.Cols.length : Int)) = true then some 21 else (ref02_Check.l1 (ref02_Check.l0 a0 k) a0 x_669 (((a0.Cols.length : Int) - 0).toNat + 1) 0))) else some 0)

def ref02_Check (a0 : api_Table) : Option Int :=
  ((ref02_Cols a0.Cols).bind fun y_2 => (if (!y_2) = true then some 20 else (ref02_Check.l0 a0 (((a0.Rows.length : Int) - 0).toNat + 1) 0)))

/-! ### catchment/catchmentref16.down -/
def ref16_down.j0 (a0 : Int) (x_3 : Int) : Option Int :=
  (if (decide (a0 < (IntKind.i64.wrap ((-9223372036854775808) + x_3)))) = true then some a0 else some (IntKind.i64.wrap (a0 - x_3)))

def ref16_down (a0 : Int) (a1 : Int) : Option Int :=
  (if (a1 != 0) = true then (if (decide ((a0.tmod a1) < 0)) = true then (ref16_down.j0 a0 (IntKind.i64.wrap ((a0.tmod a1) + a1))) else (ref16_down.j0 a0 (a0.tmod a1))) else none)

/-! ### catchment/catchmentref16.Align -/
def ref16_Align.l1 (a0 : api_Table) (a1 : Int) (y_10 : Int) : Nat → (List (List api_Value)) → Int → Option (api_Table × Int)
  | 0, _, _ => none
  | k + 1, x_110, x_114 => (if (decide (x_114 < (a0.Rows.length : Int))) = true then ((ix a0.Rows x_114).bind fun y_183 => ((apd 96 ([] : List api_Value) y_183).bind fun y_196 => ((ix y_196 y_10).bind fun y_202 => ((ref16_down y_202.N a1).bind fun y_210 => ((ix y_196 y_10).bind fun y_212 => ((apd 24 x_110 [upd y_196 y_10 (⟨y_212.Kind, y_210, y_212.S, y_212.H⟩ : api_Value)]).bind fun y_237 => (ref16_Align.l1 a0 a1 y_10 k y_237 (IntKind.i64.wrap (x_114 + 1))))))))) else ((ref02_Canon (⟨a0.Cols, x_110⟩ : api_Table)).bind fun y_246 => some (y_246, 0)))

def ref16_Align.j0 (a0 : api_Table) (a1 : Int) (y_10 : Int) (x_23 : Bool) : Option (api_Table × Int) :=
  (if x_23 = true then some ((⟨([] : List api_Col), ([] : List (List api_Value))⟩ : api_Table), 1) else (ref16_Align.l1 a0 a1 y_10 (((a0.Rows.length : Int) - 0).toNat + 1) [] 0))

def ref16_Align (a0 : api_Table) (a1 : Int) : Option (api_Table × Int) :=
  ((ref02_Check a0).bind fun y_3 => (if (y_3 != 0) = true then some ((⟨([] : List api_Col), ([] : List (List api_Value))⟩ : api_Table), y_3) else ((ref02_Find a0.Cols (⟨#[116, 105, 109, 101]⟩ : ByteArray)).bind fun y_10 => (if (decide (a1 < 1)) = true then (ref16_Align.j0 a0 a1 y_10 true) else (if (decide (y_10 < 0)) = true then (ref16_Align.j0 a0 a1 y_10 true) else ((ix a0.Cols y_10).bind fun y_27 => (ref16_Align.j0 a0 a1 y_10 (y_27.Kind != 1))))))))

/-! ### catchment/catchmentlaw16.RowopsAligns -/
def law16_RowopsAligns.j0 (y_2 : Bool) (y_25 : api_Table × Int) (y_38 : api_Table × Int) (y_51 : Bool) (y_79 : Bool) : Option Bool :=
  (if y_2 = true then (if y_51 = true then (if (y_25.2 == y_38.2) = true then some y_79 else some false) else some false) else some false)

def law16_RowopsAligns.j1 (y_2 : Bool) (y_25 : api_Table × Int) (y_38 : api_Table × Int) (y_51 : Bool) (y_79 : Bool) (x_121 : Bool) : Option Bool :=
  (if x_121 = true then some false else (law16_RowopsAligns.j0 y_2 y_25 y_38 y_51 y_79))

def law16_RowopsAligns (a0 : api_Table) (a1 : Int) : Option Bool :=
  ((law16_shown).bind fun y_2 => ((law16_cut a0).bind fun y_4 => ((ref02_Canon y_4).bind fun y_12 => ((rowops_Align y_4 a1).bind fun y_25 => ((ref16_Align y_4 a1).bind fun y_38 => ((ref02_Same y_25.1 y_38.1).bind fun y_51 => ((ref02_Canon y_4).bind fun y_67 => ((ref02_Same y_67 y_12).bind fun y_79 => (if (y_25.2 == 0) = true then ((rowops_Align y_25.1 a1).bind fun y_105 => ((ref02_Same y_25.1 y_105.1).bind fun y_118 => (if (y_105.2 != 0) = true then (law16_RowopsAligns.j1 y_2 y_25 y_38 y_51 y_79 true) else (law16_RowopsAligns.j1 y_2 y_25 y_38 y_51 y_79 (!y_118))))) else (law16_RowopsAligns.j0 y_2 y_25 y_38 y_51 y_79))))))))))

/-! ### catchment/catchmentlaw16.RowopsWidths -/
def law16_RowopsWidths.j2 (kl0 : Int → Option Bool) (a0 : List Int) (x_320 : Int) : Option Bool :=
  (kl0 (IntKind.i64.wrap (x_320 + 1)))

def law16_RowopsWidths.j4 (kl0 : Int → Option Bool) (a0 : List Int) (x_320 : Int) (x_930 : Bool) : Option Bool :=
  (if x_930 = true then some false else (law16_RowopsWidths.j2 kl0 a0 x_320))

def law16_RowopsWidths.j3 (kl0 : Int → Option Bool) (a0 : List Int) (a1 : Int) (x_320 : Int) (y_832 : api_Table × Int) (x_866 : Bool) : Option Bool :=
  (if x_866 = true then some false else ((ix y_832.1.Rows 0).bind fun y_890 => ((ix y_890 0).bind fun y_900 => (if (a1 != 0) = true then (if ((y_900.N.tmod a1) != 0) = true then (law16_RowopsWidths.j4 kl0 a0 x_320 true) else ((ix a0 x_320).bind fun y_934 => (if (decide (y_900.N > y_934)) = true then (law16_RowopsWidths.j4 kl0 a0 x_320 true) else ((ix a0 x_320).bind fun y_944 => (law16_RowopsWidths.j4 kl0 a0 x_320 (decide ((IntKind.i64.wrap (y_944 - y_900.N)) ≥ a1))))))) else none))))

def law16_RowopsWidths.j1 (kl0 : Int → Option Bool) (a0 : List Int) (a1 : Int) (y_1 : Bool) (x_320 : Int) (x_640 : Bool) : Option Bool :=
  (if x_640 = true then ((ix a0 x_320).bind fun y_800 => (if (decide (y_800 < (IntKind.i64.wrap ((-9223372036854775808) + a1)))) = true then (law16_RowopsWidths.j2 kl0 a0 x_320) else ((ix a0 x_320).bind fun y_810 => ((law16_pairs [y_810, x_320]).bind fun y_820 => ((rowops_Align y_820 a1).bind fun y_832 => (if (y_832.2 != 0) = true then (law16_RowopsWidths.j3 kl0 a0 a1 x_320 y_832 true) else (if ((y_832.1.Rows.length : Int) != 1) = true then (law16_RowopsWidths.j3 kl0 a0 a1 x_320 y_832 true) else ((ix y_832.1.Rows 0).bind fun y_870 => ((ix y_870 1).bind fun y_880 => (law16_RowopsWidths.j3 kl0 a0 a1 x_320 y_832 (y_880.N != x_320))))))))))) else some y_1)

def law16_RowopsWidths.l0 (a0 : List Int) (a1 : Int) (y_1 : Bool) : Nat → Int → Option Bool
  | 0, _ => none
  | k + 1, x_320 => (if (decide (x_320 < (a0.length : Int))) = true then (law16_RowopsWidths.j1 (law16_RowopsWidths.l0 a0 a1 y_1 k) a0 a1 y_1 x_320 (decide (x_320 < 100))) else (law16_RowopsWidths.j1 (law16_RowopsWidths.l0 a0 a1 y_1 k) a0 a1 y_1 x_320 false))

def law16_RowopsWidths (a0 : List Int) (a1 : Int) : Option Bool :=
  ((law16_shown).bind fun y_1 => (if (decide (a1 < 1)) = true then some y_1 else (law16_RowopsWidths.l0 a0 a1 y_1 (((a0.length : Int) - 0).toNat + 1) 0)))

/-! ### catchment/catchmentref16.Top -/
def ref16_Top.j4 (kl3 : Int → Int → Option (api_Table × Int)) (x_415 : List (List api_Value)) (x_872 : Int) (x_1041 : Int) : Option (api_Table × Int) :=
  (kl3 x_1041 (IntKind.i64.wrap (x_872 + 1)))

def ref16_Top.l3 (kl1 : (List (List api_Value)) → (List (List api_Value)) → Option (api_Table × Int)) (a1 : Int) (y_10 : Int) (x_415 : List (List api_Value)) (x_420 : List (List api_Value)) : Nat → Int → Int → Option (api_Table × Int)
  | 0, _, _ => none
  | k + 1, x_871, x_872 => (if (decide (x_872 < (x_415.length : Int))) = true then ((ix x_415 x_872).bind fun y_1000 => ((ix y_1000 y_10).bind fun y_1010 => ((ix x_415 x_871).bind fun y_1019 => ((ix y_1019 y_10).bind fun y_1029 => ((ref01_Compare y_1010 y_1029).bind fun y_1038 => (if (decide (y_1038 > 0)) = true then (ref16_Top.j4 (ref16_Top.l3 kl1 a1 y_10 x_415 x_420 k) x_415 x_872 x_872) else (ref16_Top.j4 (ref16_Top.l3 kl1 a1 y_10 x_415 x_420 k) x_415 x_872 x_871))))))) else ((ix x_415 x_871).bind fun y_1061 => ((apd 24 x_420 [y_1061]).bind fun y_1072 => ((cut x_415 0 x_871).bind fun y_1106 => ((cut x_415 (IntKind.i64.wrap (x_871 + 1)) x_415.length).bind fun y_1111 => ((apd 24 ([] : List (List api_Value)) y_1106).bind fun y_1119 => ((apd 24 y_1119 y_1111).bind fun y_1125 => (kl1 y_1125 y_1072))))))))

def ref16_Top.j2 (kl1 : (List (List api_Value)) → (List (List api_Value)) → Option (api_Table × Int)) (a1 : Int) (y_10 : Int) (y_43 : api_Table) (x_415 : List (List api_Value)) (x_420 : List (List api_Value)) (x_781 : Bool) : Option (api_Table × Int) :=
  (if x_781 = true then (ref16_Top.l3 kl1 a1 y_10 x_415 x_420 (((x_415.length : Int) - 1).toNat + 1) 0 1) else ((ref02_Canon (⟨y_43.Cols, x_420⟩ : api_Table)).bind fun y_1137 => some (y_1137, 0)))

def ref16_Top.l1 (a1 : Int) (y_10 : Int) (y_43 : api_Table) : Nat → (List (List api_Value)) → (List (List api_Value)) → Option (api_Table × Int)
  | 0, _, _ => none
  | k + 1, x_415, x_420 => (if (decide ((x_420.length : Int) < a1)) = true then (ref16_Top.j2 (ref16_Top.l1 a1 y_10 y_43 k) a1 y_10 y_43 x_415 x_420 (decide ((x_415.length : Int) > 0))) else (ref16_Top.j2 (ref16_Top.l1 a1 y_10 y_43 k) a1 y_10 y_43 x_415 x_420 false))

def ref16_Top.j0 (a0 : api_Table) (a1 : Int) (y_10 : Int) (x_24 : Bool) : Option (api_Table × Int) :=
  (if x_24 = true then some ((⟨([] : List api_Col), ([] : List (List api_Value))⟩ : api_Table), 1) else ((ref02_Canon a0).bind fun y_43 => (ref16_Top.l1 a1 y_10 y_43 ((a1 - 0).toNat + 1) y_43.Rows [])))

def ref16_Top (a0 : api_Table) (a1 : Int) (a2 : ByteArray) : Option (api_Table × Int) :=
  ((ref02_Check a0).bind fun y_3 => (if (y_3 != 0) = true then some ((⟨([] : List api_Col), ([] : List (List api_Value))⟩ : api_Table), y_3) else ((ref02_Find a0.Cols a2).bind fun y_10 => (if (decide (a1 < 1)) = true then (ref16_Top.j0 a0 a1 y_10 true) else (if (decide (a1 > 1000)) = true then (ref16_Top.j0 a0 a1 y_10 true) else (if (decide (y_10 < 0)) = true then (ref16_Top.j0 a0 a1 y_10 true) else ((ix a0.Cols y_10).bind fun y_29 => (ref16_Top.j0 a0 a1 y_10 (y_29.Kind == 4)))))))))

/-! ### catchment/catchmentlaw16.RowopsTops -/
def law16_RowopsTops (a0 : api_Table) (a1 : Int) (a2 : ByteArray) : Option Bool :=
  ((law16_shown).bind fun y_2 => ((law16_cut a0).bind fun y_4 => ((rowops_Top y_4 a1 a2).bind fun y_12 => ((ref16_Top y_4 a1 a2).bind fun y_25 => ((ref02_Same y_12.1 y_25.1).bind fun y_38 => (if y_2 = true then (if y_38 = true then some (y_12.2 == y_25.2) else some false) else some false))))))

/-! ### catchment/catchmentref02.Union -/
def ref02_Union.j0 (a0 : api_Table) (a1 : api_Table) (x_9 : Int) : Option (api_Table × Int) :=
  (if (x_9 != 0) = true then some ((⟨([] : List api_Col), ([] : List (List api_Value))⟩ : api_Table), x_9) else ((ref02_SameCols a0.Cols a1.Cols).bind fun y_19 => (if (!y_19) = true then some ((⟨([] : List api_Col), ([] : List (List api_Value))⟩ : api_Table), 20) else ((apd 24 ([] : List (List api_Value)) a0.Rows).bind fun y_60 => ((apd 24 y_60 a1.Rows).bind fun y_66 => ((ref02_Canon (⟨a0.Cols, y_66⟩ : api_Table)).bind fun y_76 => some (y_76, 0)))))))

def ref02_Union (a0 : api_Table) (a1 : api_Table) : Option (api_Table × Int) :=
  ((ref02_Check a0).bind fun y_4 => (if (y_4 == 0) = true then ((ref02_Check a1).bind fun y_12 => (ref02_Union.j0 a0 a1 y_12)) else (ref02_Union.j0 a0 a1 y_4)))

/-! ### catchment/catchmentlaw16.RowopsParts -/
def law16_RowopsParts.j3 (x_66 : Bool) : Option Bool :=
  some x_66

def law16_RowopsParts.j5 (y_3 : Bool) (y_5 : api_Table) (y_32 : api_Col) (x_43 : Int) (y_51 : api_Table × Int) (x_133 : List api_Col) (x_138 : List (List api_Value)) (x_142 : Int) (x_271 : List api_Col) (x_276 : List (List api_Value)) (x_280 : Int) : Option Bool :=
  ((ref02_Union (⟨x_133, x_138⟩ : api_Table) (⟨x_271, x_276⟩ : api_Table)).bind fun y_357 => ((rowops_Top y_357.1 (IntKind.i64.wrap (x_43 + 1)) y_32.Name).bind fun y_370 => ((rowops_Top y_51.1 1 y_32.Name).bind fun y_383 => ((rowops_Top y_5 1 y_32.Name).bind fun y_396 => ((ref02_Same y_51.1 y_370.1).bind fun y_409 => ((ref02_Same y_383.1 y_396.1).bind fun y_411 => (if y_3 = true then (if (y_51.2 == 0) = true then (if (x_142 == 0) = true then (if (x_280 == 0) = true then (if (y_357.2 == 0) = true then (if (y_370.2 == 0) = true then (if (y_383.2 == 0) = true then (if (y_396.2 == 0) = true then (if y_409 = true then (if y_411 = true then some ((y_51.1.Rows.length : Int) == (min (IntKind.i64.wrap (x_43 + 1)) (y_5.Rows.length : Int))) else some false) else some false) else some false) else some false) else some false) else some false) else some false) else some false) else some false) else some false)))))))

def law16_RowopsParts.j4 (y_3 : Bool) (y_5 : api_Table) (y_32 : api_Col) (x_43 : Int) (x_48 : Int) (y_51 : api_Table × Int) (x_133 : List api_Col) (x_138 : List (List api_Value)) (x_142 : Int) : Option Bool :=
  ((cut y_5.Rows x_48 y_5.Rows.length).bind fun y_314 => ((rowops_Top (⟨y_5.Cols, y_314⟩ : api_Table) (IntKind.i64.wrap (x_43 + 1)) y_32.Name).bind fun y_319 => (law16_RowopsParts.j5 y_3 y_5 y_32 x_43 y_51 x_133 x_138 x_142 y_319.1.Cols y_319.1.Rows y_319.2)))

def law16_RowopsParts.j2 (y_3 : Bool) (y_5 : api_Table) (y_32 : api_Col) (x_43 : Int) (x_48 : Int) : Option Bool :=
  ((rowops_Top y_5 (IntKind.i64.wrap (x_43 + 1)) y_32.Name).bind fun y_51 => (if (y_32.Kind == 4) = true then (if y_3 = true then (law16_RowopsParts.j3 (y_51.2 == 1)) else (law16_RowopsParts.j3 false)) else ((cut y_5.Rows 0 x_48).bind fun y_176 => ((rowops_Top (⟨y_5.Cols, y_176⟩ : api_Table) (IntKind.i64.wrap (x_43 + 1)) y_32.Name).bind fun y_181 => (law16_RowopsParts.j4 y_3 y_5 y_32 x_43 x_48 y_51 y_181.1.Cols y_181.1.Rows y_181.2)))))

def law16_RowopsParts.j1 (a1 : Arr2) (y_3 : Bool) (y_5 : api_Table) (y_32 : api_Col) (x_43 : Int) : Option Bool :=
  (if ((IntKind.i64.wrap ((y_5.Rows.length : Int) + 1)) != 0) = true then (if (decide ((a1.a1.tmod (IntKind.i64.wrap ((y_5.Rows.length : Int) + 1))) < 0)) = true then (law16_RowopsParts.j2 y_3 y_5 y_32 x_43 (IntKind.i64.wrap (0 - (a1.a1.tmod (IntKind.i64.wrap ((y_5.Rows.length : Int) + 1)))))) else (law16_RowopsParts.j2 y_3 y_5 y_32 x_43 (a1.a1.tmod (IntKind.i64.wrap ((y_5.Rows.length : Int) + 1))))) else none)

def law16_RowopsParts.j0 (a0 : api_Table) (a1 : Arr2) (y_3 : Bool) (y_5 : api_Table) (x_17 : Int) : Option Bool :=
  (if ((y_5.Cols.length : Int) != 0) = true then ((ix y_5.Cols (x_17.tmod (y_5.Cols.length : Int))).bind fun y_32 => (if (decide ((a1.a0.tmod 30) < 0)) = true then (law16_RowopsParts.j1 a1 y_3 y_5 y_32 (IntKind.i64.wrap (0 - (a1.a0.tmod 30)))) else (law16_RowopsParts.j1 a1 y_3 y_5 y_32 (a1.a0.tmod 30)))) else none)

def law16_RowopsParts (a0 : api_Table) (a1 : Arr2) (a2 : Int) : Option Bool :=
  ((law16_shown).bind fun y_3 => ((law16_cut a0).bind fun y_5 => ((ref02_Check y_5).bind fun y_13 => (if (y_13 != 0) = true then some y_3 else (if (decide (a2 < 0)) = true then (law16_RowopsParts.j0 a0 a1 y_3 y_5 (IntKind.i64.wrap (0 - (IntKind.i64.wrap (a2 + 1))))) else (law16_RowopsParts.j0 a0 a1 y_3 y_5 a2))))))

/-! ### catchment/catchmentlaw16.RowopsWhole -/
def law16_RowopsWhole.j3 (x_217 : Bool) : Option Bool :=
  some x_217

def law16_RowopsWhole.j6 (kl5 : Int → Int → ByteArray → Arr8 → Int → Option Bool) (a1 : Int) (x_339 : Int) (x_492 : Int) (x_493 : Int) (x_494 : ByteArray) (x_495 : Arr8) : Option Bool :=
  (kl5 x_492 x_493 x_494 x_495 (IntKind.i64.wrap (x_339 + 1)))

def law16_RowopsWhole.j8 (kl7 : Int → Int → Option Bool) (y_199 : api_Table) (x_566 : Int) (x_659 : Int) : Option Bool :=
  (kl7 x_659 (IntKind.i64.wrap (x_566 + 1)))

def law16_RowopsWhole.l7 (a1 : Int) (y_2 : Bool) (y_4 : api_Table) (x_16 : Int) (y_199 : api_Table) (x_335 : Int) (x_336 : Int) (x_337 : ByteArray) (x_338 : Arr8) : Nat → Int → Int → Option Bool
  | 0, _, _ => none
  | k + 1, x_565, x_566 => (if (decide (x_566 < (y_199.Rows.length : Int))) = true then ((ix y_199.Rows x_566).bind fun y_637 => ((ix y_637 (x_16.tmod (y_4.Cols.length : Int))).bind fun y_647 => ((ref01_Compare y_647 (⟨x_335, x_336, x_337, x_338⟩ : api_Value)).bind fun y_656 => (if (decide (y_656 > 0)) = true then (law16_RowopsWhole.j8 (law16_RowopsWhole.l7 a1 y_2 y_4 x_16 y_199 x_335 x_336 x_337 x_338 k) y_199 x_566 (IntKind.i64.wrap (x_565 + 1))) else (law16_RowopsWhole.j8 (law16_RowopsWhole.l7 a1 y_2 y_4 x_16 y_199 x_335 x_336 x_337 x_338 k) y_199 x_566 x_565))))) else (if y_2 = true then some (decide (x_565 < a1)) else some false))

def law16_RowopsWhole.l5 (a1 : Int) (y_2 : Bool) (y_4 : api_Table) (x_16 : Int) (x_122 : List (List api_Value)) (y_199 : api_Table) : Nat → Int → Int → ByteArray → Arr8 → Int → Option Bool
  | 0, _, _, _, _, _ => none
  | k + 1, x_335, x_336, x_337, x_338, x_339 => (if (decide (x_339 < a1)) = true then ((ix x_122 x_339).bind fun y_451 => ((ix y_451 (x_16.tmod (y_4.Cols.length : Int))).bind fun y_461 => ((ref01_Compare y_461 (⟨x_335, x_336, x_337, x_338⟩ : api_Value)).bind fun y_470 => (if (decide (y_470 < 0)) = true then ((ix x_122 x_339).bind fun y_498 => ((ix y_498 (x_16.tmod (y_4.Cols.length : Int))).bind fun y_508 => (law16_RowopsWhole.j6 (law16_RowopsWhole.l5 a1 y_2 y_4 x_16 x_122 y_199 k) a1 x_339 y_508.Kind y_508.N y_508.S y_508.H))) else (law16_RowopsWhole.j6 (law16_RowopsWhole.l5 a1 y_2 y_4 x_16 x_122 y_199 k) a1 x_339 x_335 x_336 x_337 x_338))))) else (law16_RowopsWhole.l7 a1 y_2 y_4 x_16 y_199 x_335 x_336 x_337 x_338 (((y_199.Rows.length : Int) - 0).toNat + 1) 0 0))

def law16_RowopsWhole.j4 (a1 : Int) (y_2 : Bool) (y_4 : api_Table) (x_16 : Int) (x_122 : List (List api_Value)) (y_199 : api_Table) (x_222 : Bool) : Option Bool :=
  (if x_222 = true then some false else ((ix x_122 0).bind fun y_226 => ((ix y_226 (x_16.tmod (y_4.Cols.length : Int))).bind fun y_236 => (law16_RowopsWhole.l5 a1 y_2 y_4 x_16 x_122 y_199 ((a1 - 0).toNat + 1) y_236.Kind y_236.N y_236.S y_236.H 0))))

def law16_RowopsWhole.j2 (a1 : Int) (y_2 : Bool) (y_4 : api_Table) (x_16 : Int) (x_117 : List api_Col) (x_122 : List (List api_Value)) (x_126 : Int) : Option Bool :=
  ((ref02_Canon y_4).bind fun y_199 => (if (decide (a1 ≥ (y_4.Rows.length : Int))) = true then ((ref02_Same (⟨x_117, x_122⟩ : api_Table) y_199).bind fun y_213 => (if y_2 = true then (if (x_126 == 0) = true then (law16_RowopsWhole.j3 y_213) else (law16_RowopsWhole.j3 false)) else (law16_RowopsWhole.j3 false))) else (if (x_126 != 0) = true then (law16_RowopsWhole.j4 a1 y_2 y_4 x_16 x_122 y_199 true) else (law16_RowopsWhole.j4 a1 y_2 y_4 x_16 x_122 y_199 ((x_122.length : Int) != a1)))))

def law16_RowopsWhole.j1 (a1 : Int) (y_2 : Bool) (y_4 : api_Table) (x_16 : Int) (x_31 : Bool) : Option Bool :=
  (if x_31 = true then some y_2 else ((ix y_4.Cols (x_16.tmod (y_4.Cols.length : Int))).bind fun y_164 => ((rowops_Top y_4 a1 y_164.Name).bind fun y_173 => (law16_RowopsWhole.j2 a1 y_2 y_4 x_16 y_173.1.Cols y_173.1.Rows y_173.2))))

def law16_RowopsWhole.j0 (a1 : Int) (y_2 : Bool) (y_4 : api_Table) (x_16 : Int) : Option Bool :=
  (if ((y_4.Cols.length : Int) != 0) = true then ((ix y_4.Cols (x_16.tmod (y_4.Cols.length : Int))).bind fun y_33 => (if (y_33.Kind == 4) = true then (law16_RowopsWhole.j1 a1 y_2 y_4 x_16 true) else (if (decide (a1 < 1)) = true then (law16_RowopsWhole.j1 a1 y_2 y_4 x_16 true) else (law16_RowopsWhole.j1 a1 y_2 y_4 x_16 (decide (a1 > 1000)))))) else none)

def law16_RowopsWhole (a0 : api_Table) (a1 : Int) (a2 : Int) : Option Bool :=
  ((law16_shown).bind fun y_2 => ((law16_cut a0).bind fun y_4 => ((ref02_Check y_4).bind fun y_12 => (if (y_12 != 0) = true then some y_2 else (if (decide (a2 < 0)) = true then (law16_RowopsWhole.j0 a1 y_2 y_4 (IntKind.i64.wrap (0 - (IntKind.i64.wrap (a2 + 1))))) else (law16_RowopsWhole.j0 a1 y_2 y_4 a2))))))

/-! ### catchment/pred.Holds$1 -/
def pred_Holds_1_cp_cp.j0 (a2 : List api_Value) (y_3 : Int) (x_6 : Bool) : Option (api_Value × Bool) :=
  (if x_6 = true then some ((⟨0, 0, (⟨#[]⟩ : ByteArray), (⟨0, 0, 0, 0, 0, 0, 0, 0⟩ : Arr8)⟩ : api_Value), false) else ((ix a2 y_3).bind fun y_10 => some (y_10, true)))

def pred_Holds_1_cp_cp (a0 : api_Node) (a1 : List api_Col) (a2 : List api_Value) : Option (api_Value × Bool) :=
  ((table_Find a1 a0.S).bind fun y_3 => (if (decide (y_3 < 0)) = true then (pred_Holds_1_cp_cp.j0 a2 y_3 true) else (pred_Holds_1_cp_cp.j0 a2 y_3 (decide (y_3 ≥ (a2.length : Int))))))

/-! ### catchment/value.Holds -/
def value_Holds (a0 : Int) (a1 : api_Value) (a2 : api_Value) : Option Bool :=
  ((value_Compare a1 a2).bind fun y_3 => (if (a1.Kind != a2.Kind) = true then some false else (if (a0 == 1) = true then some (y_3 == 0) else (if (a0 == 2) = true then some (y_3 != 0) else (if (a0 == 3) = true then some (decide (y_3 < 0)) else (if (a0 == 4) = true then some (decide (y_3 ≤ 0)) else (if (a0 == 5) = true then some (decide (y_3 > 0)) else (if (a0 == 6) = true then some (decide (y_3 ≥ 0)) else some false))))))))

/-! ### strings.Contains -/
def strings_Contains (a0 : ByteArray) (a1 : ByteArray) : Option Bool := if a0.size < 4294967281 then some (Lib.contains a0.data.toList a1.data.toList) else none

/-! ### catchment/pred.Holds$2$1 -/
def pred_Holds_2_1_cp (a0 : Int) (a1 : Int) : Option Bool :=
  (if (decide (a0 < 0)) = true then some true else some (decide (a0 ≥ a1)))

/-! ### slices.IndexFunc[[]int,int] -/
def slices_IndexFunc_int_int_f_pred_Holds_2_1p.l0 (a0 : List Int) (a1_0 : Int) : Nat → Int → Option Int
  | 0, _ => none
  | k + 1, x_15 => (if (decide (x_15 < (a0.length : Int))) = true then ((ix a0 x_15).bind fun y_31 => ((pred_Holds_2_1_cp y_31 a1_0).bind fun y_40 => (if y_40 = true then some x_15 else (slices_IndexFunc_int_int_f_pred_Holds_2_1p.l0 a0 a1_0 k (IntKind.i64.wrap (x_15 + 1)))))) else some (-1))

def slices_IndexFunc_int_int_f_pred_Holds_2_1p (a0 : List Int) (a1_0 : Int) : Option Int :=
  (slices_IndexFunc_int_int_f_pred_Holds_2_1p.l0 a0 a1_0 (((a0.length : Int) - 0).toNat + 1) 0)

/-! ### slices.ContainsFunc[[]int,int] -/
def slices_ContainsFunc_int_int_f_pred_Holds_2_1p (a0 : List Int) (a1_0 : Int) : Option Bool :=
  ((slices_IndexFunc_int_int_f_pred_Holds_2_1p a0 a1_0).bind fun y_1 => some (decide (y_1 ≥ 0)))

/-! ### catchment/pred.Holds$2 -/
def pred_Holds_2_cp_cp (a0 : Int) (a1 : api_Node) (a2 : Int) : Option Bool :=
  (if ((a1.L.length : Int) == a0) = true then ((slices_ContainsFunc_int_int_f_pred_Holds_2_1p a1.L a2).bind fun y_2 => some (!y_2)) else some false)

/-! ### catchment/pred.Holds -/
def pred_Holds.j2 (kl1 : (List Bool) → Int → Option Bool) (y_15 : List api_Node) (x_18274 : Int) (x_45655 : List Bool) : Option Bool :=
  (kl1 x_45655 (IntKind.i64.wrap (x_18274 + 1)))

def pred_Holds.j4 (kl1 : (List Bool) → Int → Option Bool) (y_15 : List api_Node) (x_18274 : Int) (x_50269 : List Bool) : Option Bool :=
  (pred_Holds.j2 kl1 y_15 x_18274 x_50269)

def pred_Holds.j6 (kl1 : (List Bool) → Int → Option Bool) (y_15 : List api_Node) (x_18274 : Int) (x_52600 : List Bool) : Option Bool :=
  (pred_Holds.j4 kl1 y_15 x_18274 x_52600)

def pred_Holds.j8 (kl1 : (List Bool) → Int → Option Bool) (y_15 : List api_Node) (x_18274 : Int) (x_53780 : List Bool) : Option Bool :=
  (pred_Holds.j6 kl1 y_15 x_18274 x_53780)

def pred_Holds.j10 (kl1 : (List Bool) → Int → Option Bool) (y_15 : List api_Node) (x_18274 : Int) (x_54440 : List Bool) : Option Bool :=
  (pred_Holds.j8 kl1 y_15 x_18274 x_54440)

def pred_Holds.j11 (kl1 : (List Bool) → Int → Option Bool) (y_15 : List api_Node) (x_18274 : Int) (x_54607 : List Bool) : Option Bool :=
  (pred_Holds.j10 kl1 y_15 x_18274 x_54607)

def pred_Holds.j3 (kl1 : (List Bool) → Int → Option Bool) (y_15 : List api_Node) (x_18274 : Int) (x_45715 : List Bool) : Option Bool :=
  (pred_Holds.j2 kl1 y_15 x_18274 x_45715)

def pred_Holds.j5 (kl1 : (List Bool) → Int → Option Bool) (y_15 : List api_Node) (x_18274 : Int) (x_50353 : List Bool) : Option Bool :=
  (pred_Holds.j4 kl1 y_15 x_18274 x_50353)

def pred_Holds.j7 (kl1 : (List Bool) → Int → Option Bool) (y_15 : List api_Node) (x_18274 : Int) (x_52697 : List Bool) : Option Bool :=
  (pred_Holds.j6 kl1 y_15 x_18274 x_52697)

def pred_Holds.j9 (kl1 : (List Bool) → Int → Option Bool) (y_15 : List api_Node) (x_18274 : Int) (x_53947 : List Bool) : Option Bool :=
  (pred_Holds.j8 kl1 y_15 x_18274 x_53947)

def pred_Holds.l1 (a1 : Int) (a2 : List api_Col) (a3 : List api_Value) (y_15 : List api_Node) : Nat → (List Bool) → Int → Option Bool
  | 0, _, _ => none
  | k + 1, x_18270, x_18274 => (if (decide (x_18274 < (y_15.length : Int))) = true then ((ix y_15 x_18274).bind fun y_36525 => (if (y_36525.Kind == 14) = true then ((pred_Holds_1_cp_cp y_36525 a2 a3).bind fun y_45661 => (if y_45661.2 = true then ((value_Holds y_36525.N y_45661.1 y_36525.V).bind fun y_45746 => ((ix x_18270 x_18274).bind fun y_45748 => (pred_Holds.j3 (pred_Holds.l1 a1 a2 a3 y_15 k) y_15 x_18274 (upd x_18270 x_18274 y_45746)))) else ((ix x_18270 x_18274).bind fun y_45759 => (pred_Holds.j3 (pred_Holds.l1 a1 a2 a3 y_15 k) y_15 x_18274 (upd x_18270 x_18274 false))))) else (if (y_36525.Kind == 15) = true then ((pred_Holds_1_cp_cp y_36525 a2 a3).bind fun y_50275 => (if y_50275.2 = true then (if (y_50275.1.Kind == 2) = true then ((strings_Contains y_50275.1.S y_36525.V.S).bind fun y_50397 => ((ix x_18270 x_18274).bind fun y_50399 => (pred_Holds.j5 (pred_Holds.l1 a1 a2 a3 y_15 k) y_15 x_18274 (upd x_18270 x_18274 y_50397)))) else ((ix x_18270 x_18274).bind fun y_50410 => (pred_Holds.j5 (pred_Holds.l1 a1 a2 a3 y_15 k) y_15 x_18274 (upd x_18270 x_18274 false)))) else ((ix x_18270 x_18274).bind fun y_50421 => (pred_Holds.j5 (pred_Holds.l1 a1 a2 a3 y_15 k) y_15 x_18274 (upd x_18270 x_18274 false))))) else (if (y_36525.Kind == 13) = true then ((pred_Holds_2_cp_cp 1 y_36525 x_18274).bind fun y_52747 => (if y_52747 = true then ((ix y_36525.L 0).bind fun y_52750 => ((ix x_18270 y_52750).bind fun y_52759 => ((ix x_18270 x_18274).bind fun y_52767 => (pred_Holds.j7 (pred_Holds.l1 a1 a2 a3 y_15 k) y_15 x_18274 (upd x_18270 x_18274 (!y_52759)))))) else ((ix x_18270 x_18274).bind fun y_52781 => (pred_Holds.j7 (pred_Holds.l1 a1 a2 a3 y_15 k) y_15 x_18274 (upd x_18270 x_18274 false))))) else (if (y_36525.Kind == 11) = true then ((pred_Holds_2_cp_cp 2 y_36525 x_18274).bind fun y_54032 => (if y_54032 = true then ((ix y_36525.L 0).bind fun y_54035 => ((ix x_18270 y_54035).bind fun y_54044 => (if y_54044 = true then ((ix y_36525.L 1).bind fun y_54053 => ((ix x_18270 y_54053).bind fun y_54062 => ((ix x_18270 x_18274).bind fun y_54070 => (pred_Holds.j9 (pred_Holds.l1 a1 a2 a3 y_15 k) y_15 x_18274 (upd x_18270 x_18274 y_54062))))) else ((ix x_18270 x_18274).bind fun y_54087 => (pred_Holds.j9 (pred_Holds.l1 a1 a2 a3 y_15 k) y_15 x_18274 (upd x_18270 x_18274 false)))))) else ((ix x_18270 x_18274).bind fun y_54101 => (pred_Holds.j9 (pred_Holds.l1 a1 a2 a3 y_15 k) y_15 x_18274 (upd x_18270 x_18274 false))))) else (if (y_36525.Kind == 12) = true then ((pred_Holds_2_cp_cp 2 y_36525 x_18274).bind fun y_54692 => (if y_54692 = true then ((ix y_36525.L 0).bind fun y_54695 => ((ix x_18270 y_54695).bind fun y_54704 => (if y_54704 = true then ((ix x_18270 x_18274).bind fun y_54713 => (pred_Holds.j11 (pred_Holds.l1 a1 a2 a3 y_15 k) y_15 x_18274 (upd x_18270 x_18274 true))) else ((ix y_36525.L 1).bind fun y_54727 => ((ix x_18270 y_54727).bind fun y_54736 => ((ix x_18270 x_18274).bind fun y_54744 => (pred_Holds.j11 (pred_Holds.l1 a1 a2 a3 y_15 k) y_15 x_18274 (upd x_18270 x_18274 y_54736)))))))) else ((ix x_18270 x_18274).bind fun y_54761 => (pred_Holds.j11 (pred_Holds.l1 a1 a2 a3 y_15 k) y_15 x_18274 (upd x_18270 x_18274 false))))) else (pred_Holds.j10 (pred_Holds.l1 a1 a2 a3 y_15 k) y_15 x_18274 x_18270))))))) else ((ix x_18270 a1).bind fun y_54772 => some y_54772))

def pred_Holds.j0 (a0 : api_Query) (a1 : Int) (a2 : List api_Col) (a3 : List api_Value) (x_5 : Bool) : Option Bool :=
  (if x_5 = true then some false else ((mkS 1 (IntKind.i64.wrap (a1 + 1)) false).bind fun y_9 => ((cut a0.N 0 (IntKind.i64.wrap (a1 + 1))).bind fun y_15 => (pred_Holds.l1 a1 a2 a3 y_15 (((y_15.length : Int) - 0).toNat + 1) y_9 0))))

def pred_Holds (a0 : api_Query) (a1 : Int) (a2 : List api_Col) (a3 : List api_Value) : Option Bool :=
  (if (decide (a1 < 0)) = true then (pred_Holds.j0 a0 a1 a2 a3 true) else (pred_Holds.j0 a0 a1 a2 a3 (decide (a1 ≥ (a0.N.length : Int)))))

/-! ### catchment/pred.Where -/
def pred_Where.j1 (kl0 : (List (List api_Value)) → Int → Option api_Table) (a0 : api_Table) (x_151 : Int) (x_328 : List (List api_Value)) : Option api_Table :=
  (kl0 x_328 (IntKind.i64.wrap (x_151 + 1)))

def pred_Where.l0 (a0 : api_Table) (a1 : api_Query) (a2 : Int) (y_4 : List api_Col) : Nat → (List (List api_Value)) → Int → Option api_Table
  | 0, _, _ => none
  | k + 1, x_146, x_151 => (if (decide (x_151 < (a0.Rows.length : Int))) = true then ((ix a0.Rows x_151).bind fun y_269 => ((pred_Holds a1 a2 a0.Cols y_269).bind fun y_280 => (if y_280 = true then ((slices_Clone_api_Value_api_Value y_269).bind fun y_358 => ((apd 24 x_146 [y_358]).bind fun y_372 => (pred_Where.j1 (pred_Where.l0 a0 a1 a2 y_4 k) a0 x_151 y_372))) else (pred_Where.j1 (pred_Where.l0 a0 a1 a2 y_4 k) a0 x_151 x_146)))) else some (⟨y_4, x_146⟩ : api_Table))

def pred_Where (a0 : api_Table) (a1 : api_Query) (a2 : Int) : Option api_Table :=
  ((slices_Clone_api_Col_api_Col a0.Cols).bind fun y_4 => (pred_Where.l0 a0 a1 a2 y_4 (((a0.Rows.length : Int) - 0).toNat + 1) [] 0))

/-! ### catchment/rowops.Filter -/
def rowops_Filter (a0 : api_Table) (a1 : api_Query) (a2 : Int) : Option (api_Table × Int) :=
  ((table_Check a0).bind fun y_4 => (if (y_4 != 0) = true then some ((⟨([] : List api_Col), ([] : List (List api_Value))⟩ : api_Table), y_4) else ((pred_Where a0 a1 a2).bind fun y_11 => ((table_Canon y_11).bind fun y_24 => some (y_24, 0)))))

/-! ### catchment/catchmentref01.Holds -/
def ref01_Holds (a0 : Int) (a1 : api_Value) (a2 : api_Value) : Option Bool :=
  (if (a1.Kind != a2.Kind) = true then some false else ((ref01_Compare a1 a2).bind fun y_4 => (if (a0 == 1) = true then some (y_4 == 0) else (if (a0 == 2) = true then some (y_4 != 0) else (if (a0 == 3) = true then some (decide (y_4 < 0)) else (if (a0 == 4) = true then some (decide (y_4 ≤ 0)) else (if (a0 == 5) = true then some (decide (y_4 > 0)) else (if (a0 == 6) = true then some (decide (y_4 ≥ 0)) else some false))))))))

/-! ### catchment/catchmentref15.part -/
def ref15_part.l0 (a0 : ByteArray) (a1 : ByteArray) : Nat → Int → Option Bool
  | 0, _ => none
  | k + 1, x_6 => (if (decide ((IntKind.i64.wrap (x_6 + (a0.size : Int))) ≤ (a1.size : Int))) = true then ((cuts a1 x_6 (IntKind.i64.wrap (x_6 + (a0.size : Int)))).bind fun y_13 => (if (y_13.toList == a0.toList) = true then some true else (ref15_part.l0 a0 a1 k (IntKind.i64.wrap (x_6 + 1))))) else some false)

def ref15_part (a0 : ByteArray) (a1 : ByteArray) : Option Bool :=
  (ref15_part.l0 a0 a1 (((a1.size : Int) - (IntKind.i64.wrap (0 + (a0.size : Int)))).toNat + 2) 0)

/-! ### catchment/catchmentref15.Holds -/
def ref15_Holds.j5 (kl3 : Bool → Int → Option Bool) (y_20252 : api_Node) (x_20319 : Int) (x_20391 : Bool) : Option Bool :=
  (kl3 x_20391 (IntKind.i64.wrap (x_20319 + 1)))

def ref15_Holds.j7 (kl1 : (List Bool) → Int → Option Bool) (a1 : Int) (x_10134 : Int) (x_25390 : List Bool) : Option Bool :=
  (kl1 x_25390 (IntKind.i64.wrap (x_10134 + 1)))

def ref15_Holds.j9 (kl1 : (List Bool) → Int → Option Bool) (a1 : Int) (x_10134 : Int) (x_27950 : List Bool) : Option Bool :=
  (ref15_Holds.j7 kl1 a1 x_10134 x_27950)

def ref15_Holds.j10 (kl1 : (List Bool) → Int → Option Bool) (a1 : Int) (x_10134 : Int) (x_28067 : List Bool) : Option Bool :=
  (ref15_Holds.j9 kl1 a1 x_10134 x_28067)

def ref15_Holds.j11 (kl1 : (List Bool) → Int → Option Bool) (a1 : Int) (x_10134 : Int) (x_29272 : List Bool) : Option Bool :=
  (ref15_Holds.j9 kl1 a1 x_10134 x_29272)

def ref15_Holds.j12 (kl1 : (List Bool) → Int → Option Bool) (a1 : Int) (x_10134 : Int) (x_29322 : List Bool) : Option Bool :=
  (ref15_Holds.j11 kl1 a1 x_10134 x_29322)

def ref15_Holds.j13 (kl1 : (List Bool) → Int → Option Bool) (a1 : Int) (x_10134 : Int) (x_29866 : List Bool) : Option Bool :=
  (ref15_Holds.j11 kl1 a1 x_10134 x_29866)

def ref15_Holds.j14 (kl1 : (List Bool) → Int → Option Bool) (a1 : Int) (x_10134 : Int) (x_29951 : List Bool) : Option Bool :=
  (ref15_Holds.j13 kl1 a1 x_10134 x_29951)

def ref15_Holds.j15 (kl1 : (List Bool) → Int → Option Bool) (a1 : Int) (x_10134 : Int) (x_30198 : List Bool) : Option Bool :=
  (ref15_Holds.j13 kl1 a1 x_10134 x_30198)

def ref15_Holds.j16 (kl1 : (List Bool) → Int → Option Bool) (a1 : Int) (x_10134 : Int) (x_30283 : List Bool) : Option Bool :=
  (ref15_Holds.j15 kl1 a1 x_10134 x_30283)

def ref15_Holds.j8 (kl1 : (List Bool) → Int → Option Bool) (a1 : Int) (x_10134 : Int) (x_25465 : List Bool) : Option Bool :=
  (ref15_Holds.j7 kl1 a1 x_10134 x_25465)

def ref15_Holds.j6 (kl1 : (List Bool) → Int → Option Bool) (a1 : Int) (a3 : List api_Value) (x_10130 : List Bool) (x_10134 : Int) (y_20252 : api_Node) (x_20318 : Bool) (y_20412 : Int) (x_20415 : Bool) : Option Bool :=
  (if (y_20252.Kind == 14) = true then (if x_20415 = true then ((ix a3 y_20412).bind fun y_25505 => ((ref01_Holds y_20252.N y_25505 y_20252.V).bind fun y_25514 => ((ix x_10130 x_10134).bind fun y_25516 => (ref15_Holds.j8 kl1 a1 x_10134 (upd x_10130 x_10134 y_25514))))) else ((ix x_10130 x_10134).bind fun y_25527 => (ref15_Holds.j8 kl1 a1 x_10134 (upd x_10130 x_10134 false)))) else (if (y_20252.Kind == 15) = true then (if x_20415 = true then ((ix a3 y_20412).bind fun y_28128 => (if (y_28128.Kind == 2) = true then ((ix a3 y_20412).bind fun y_28138 => ((ref15_part y_20252.V.S y_28138.S).bind fun y_28147 => ((ix x_10130 x_10134).bind fun y_28149 => (ref15_Holds.j10 kl1 a1 x_10134 (upd x_10130 x_10134 y_28147))))) else ((ix x_10130 x_10134).bind fun y_28160 => (ref15_Holds.j10 kl1 a1 x_10134 (upd x_10130 x_10134 false))))) else ((ix x_10130 x_10134).bind fun y_28171 => (ref15_Holds.j10 kl1 a1 x_10134 (upd x_10130 x_10134 false)))) else (if (y_20252.Kind == 13) = true then (if x_20318 = true then ((ix y_20252.L 0).bind fun y_29328 => ((ix x_10130 y_29328).bind fun y_29337 => ((ix x_10130 x_10134).bind fun y_29345 => (ref15_Holds.j12 kl1 a1 x_10134 (upd x_10130 x_10134 (!y_29337)))))) else ((ix x_10130 x_10134).bind fun y_29359 => (ref15_Holds.j12 kl1 a1 x_10134 (upd x_10130 x_10134 false)))) else (if (y_20252.Kind == 11) = true then (if x_20318 = true then ((ix y_20252.L 0).bind fun y_29957 => ((ix x_10130 y_29957).bind fun y_29966 => (if y_29966 = true then ((ix y_20252.L 1).bind fun y_29975 => ((ix x_10130 y_29975).bind fun y_29984 => ((ix x_10130 x_10134).bind fun y_29992 => (ref15_Holds.j14 kl1 a1 x_10134 (upd x_10130 x_10134 y_29984))))) else ((ix x_10130 x_10134).bind fun y_30009 => (ref15_Holds.j14 kl1 a1 x_10134 (upd x_10130 x_10134 false)))))) else ((ix x_10130 x_10134).bind fun y_30023 => (ref15_Holds.j14 kl1 a1 x_10134 (upd x_10130 x_10134 false)))) else (if (y_20252.Kind == 12) = true then (if x_20318 = true then ((ix y_20252.L 0).bind fun y_30289 => ((ix x_10130 y_30289).bind fun y_30298 => (if y_30298 = true then ((ix x_10130 x_10134).bind fun y_30307 => (ref15_Holds.j16 kl1 a1 x_10134 (upd x_10130 x_10134 true))) else ((ix y_20252.L 1).bind fun y_30321 => ((ix x_10130 y_30321).bind fun y_30330 => ((ix x_10130 x_10134).bind fun y_30338 => (ref15_Holds.j16 kl1 a1 x_10134 (upd x_10130 x_10134 y_30330)))))))) else ((ix x_10130 x_10134).bind fun y_30355 => (ref15_Holds.j16 kl1 a1 x_10134 (upd x_10130 x_10134 false)))) else (ref15_Holds.j15 kl1 a1 x_10134 x_10130))))))

def ref15_Holds.j4 (kl1 : (List Bool) → Int → Option Bool) (kl3 : Bool → Int → Option Bool) (a1 : Int) (a2 : List api_Col) (a3 : List api_Value) (x_10130 : List Bool) (x_10134 : Int) (y_20252 : api_Node) (x_20318 : Bool) (x_20319 : Int) (x_20368 : Bool) : Option Bool :=
  (if x_20368 = true then ((ix y_20252.L x_20319).bind fun y_20393 => (if (decide (y_20393 ≥ 0)) = true then ((ix y_20252.L x_20319).bind fun y_20403 => (ref15_Holds.j5 kl3 y_20252 x_20319 (decide (y_20403 < x_10134)))) else (ref15_Holds.j5 kl3 y_20252 x_20319 false))) else ((ref02_Find a2 y_20252.S).bind fun y_20412 => (if (decide (y_20412 ≥ 0)) = true then (ref15_Holds.j6 kl1 a1 a3 x_10130 x_10134 y_20252 x_20318 y_20412 (decide (y_20412 < (a3.length : Int)))) else (ref15_Holds.j6 kl1 a1 a3 x_10130 x_10134 y_20252 x_20318 y_20412 false))))

def ref15_Holds.l3 (kl1 : (List Bool) → Int → Option Bool) (a1 : Int) (a2 : List api_Col) (a3 : List api_Value) (x_10130 : List Bool) (x_10134 : Int) (y_20252 : api_Node) : Nat → Bool → Int → Option Bool
  | 0, _, _ => none
  | k + 1, x_20318, x_20319 => (if (decide (x_20319 < (y_20252.L.length : Int))) = true then (ref15_Holds.j4 kl1 (ref15_Holds.l3 kl1 a1 a2 a3 x_10130 x_10134 y_20252 k) a1 a2 a3 x_10130 x_10134 y_20252 x_20318 x_20319 x_20318) else (ref15_Holds.j4 kl1 (ref15_Holds.l3 kl1 a1 a2 a3 x_10130 x_10134 y_20252 k) a1 a2 a3 x_10130 x_10134 y_20252 x_20318 x_20319 false))

def ref15_Holds.j2 (kl1 : (List Bool) → Int → Option Bool) (a1 : Int) (a2 : List api_Col) (a3 : List api_Value) (x_10130 : List Bool) (x_10134 : Int) (y_20252 : api_Node) (x_20269 : Int) : Option Bool :=
  (ref15_Holds.l3 kl1 a1 a2 a3 x_10130 x_10134 y_20252 (((y_20252.L.length : Int) - 0).toNat + 1) ((y_20252.L.length : Int) == x_20269) 0)

def ref15_Holds.l1 (a0 : api_Query) (a1 : Int) (a2 : List api_Col) (a3 : List api_Value) : Nat → (List Bool) → Int → Option Bool
  | 0, _, _ => none
  | k + 1, x_10130, x_10134 => (if (decide (x_10134 ≤ a1)) = true then ((ix a0.N x_10134).bind fun y_20252 => (if (y_20252.Kind == 13) = true then (ref15_Holds.j2 (ref15_Holds.l1 a0 a1 a2 a3 k) a1 a2 a3 x_10130 x_10134 y_20252 1) else (ref15_Holds.j2 (ref15_Holds.l1 a0 a1 a2 a3 k) a1 a2 a3 x_10130 x_10134 y_20252 2))) else ((ix x_10130 a1).bind fun y_30366 => some y_30366))

def ref15_Holds.j0 (a0 : api_Query) (a1 : Int) (a2 : List api_Col) (a3 : List api_Value) (x_3 : Bool) : Option Bool :=
  (if x_3 = true then some false else ((mkS 1 (IntKind.i64.wrap (a1 + 1)) false).bind fun y_7 => (ref15_Holds.l1 a0 a1 a2 a3 ((a1 - 0).toNat + 2) y_7 0)))

def ref15_Holds (a0 : api_Query) (a1 : Int) (a2 : List api_Col) (a3 : List api_Value) : Option Bool :=
  (if (decide (a1 < 0)) = true then (ref15_Holds.j0 a0 a1 a2 a3 true) else (ref15_Holds.j0 a0 a1 a2 a3 (decide (a1 ≥ (a0.N.length : Int)))))

/-! ### catchment/catchmentref15.Where -/
def ref15_Where.j1 (kl0 : (List (List api_Value)) → Int → Option api_Table) (a0 : api_Table) (x_199 : Int) (x_455 : List (List api_Value)) : Option api_Table :=
  (kl0 x_455 (IntKind.i64.wrap (x_199 + 1)))

def ref15_Where.l0 (a0 : api_Table) (a1 : api_Query) (a2 : Int) (y_7 : List api_Col) : Nat → (List (List api_Value)) → Int → Option api_Table
  | 0, _, _ => none
  | k + 1, x_195, x_199 => (if (decide (x_199 < (a0.Rows.length : Int))) = true then ((ix a0.Rows x_199).bind fun y_378 => ((ref15_Holds a1 a2 a0.Cols y_378).bind fun y_389 => (if y_389 = true then ((ix a0.Rows x_199).bind fun y_493 => ((apd 96 ([] : List api_Value) y_493).bind fun y_507 => ((apd 24 x_195 [y_507]).bind fun y_518 => (ref15_Where.j1 (ref15_Where.l0 a0 a1 a2 y_7 k) a0 x_199 y_518)))) else (ref15_Where.j1 (ref15_Where.l0 a0 a1 a2 y_7 k) a0 x_199 x_195)))) else some (⟨y_7, x_195⟩ : api_Table))

def ref15_Where (a0 : api_Table) (a1 : api_Query) (a2 : Int) : Option api_Table :=
  ((apd 24 ([] : List api_Col) a0.Cols).bind fun y_7 => (ref15_Where.l0 a0 a1 a2 y_7 (((a0.Rows.length : Int) - 0).toNat + 1) [] 0))

/-! ### catchment/catchmentref16.Filter -/
def ref16_Filter (a0 : api_Table) (a1 : api_Query) (a2 : Int) : Option (api_Table × Int) :=
  ((ref02_Check a0).bind fun y_4 => (if (y_4 != 0) = true then some ((⟨([] : List api_Col), ([] : List (List api_Value))⟩ : api_Table), y_4) else ((ref15_Where a0 a1 a2).bind fun y_11 => ((ref02_Canon y_11).bind fun y_29 => some (y_29, 0)))))

/-! ### catchment/catchmentlaw16.RowopsFilters -/
def law16_RowopsFilters.j0 (a2 : Int) (y_3 : Bool) (y_5 : api_Table) (x_21 : List api_Node) : Option Bool :=
  ((rowops_Filter y_5 (⟨x_21⟩ : api_Query) a2).bind fun y_29 => ((ref16_Filter y_5 (⟨x_21⟩ : api_Query) a2).bind fun y_42 => ((ref02_Same y_29.1 y_42.1).bind fun y_55 => (if y_3 = true then (if y_55 = true then some (y_29.2 == y_42.2) else some false) else some false))))

def law16_RowopsFilters (a0 : api_Table) (a1 : api_Query) (a2 : Int) : Option Bool :=
  ((law16_shown).bind fun y_3 => ((law16_cut a0).bind fun y_5 => (if (decide ((a1.N.length : Int) > 100)) = true then ((cut a1.N 0 100).bind fun y_24 => (law16_RowopsFilters.j0 a2 y_3 y_5 y_24)) else (law16_RowopsFilters.j0 a2 y_3 y_5 a1.N))))

end
end Go.Proofs.Ytjimddbbpjpgdaa.M
