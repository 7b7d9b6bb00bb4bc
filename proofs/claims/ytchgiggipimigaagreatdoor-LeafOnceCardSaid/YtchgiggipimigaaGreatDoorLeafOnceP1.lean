/- For the law LeafOnce: the functions that it comes to, as plain Lean functions (none: Go would panic, or the bound on rounds is used up); nothing is proved here. -/
import Derived.Lib.IndexMore
import Derived.Shelf.Strconv.Itoa3
import Derived.Test.YtchgiggipimigaaGreatDoorLeafOnceE2
section
namespace Go.Proofs.YtchgiggipimigaaGreatDoor.M
open Go Go.Eng Go.Proofs Go.RowKit
set_option linter.unusedVariables false
set_option maxRecDepth 100000
noncomputable section
structure api_Col where
  Name : ByteArray
  Kind : Int
  deriving DecidableEq
def ty_api_Col : Ty api_Col := Ty.flat 2 (fun x => [.string x.Name, .int .i64 x.Kind]) (fun _ => rfl) (fun _ => all_cons rfl (all_cons rfl (all_nil)))
structure api_Schema where
  Name : ByteArray
  Keys : List api_Col
  Vals : List api_Col
  deriving DecidableEq
def ty_api_Schema : Ty api_Schema where
  n := 3
  rep := fun R cs x => ∃ v0 v1, cs = [.string x.Name, v0, v1] ∧ SlR ty_api_Col R v0 x.Keys ∧ SlR ty_api_Col R v1 x.Vals
  mono := fun hR ⟨v0, v1, h, h0, h1⟩ => ⟨v0, v1, h, h0.mono hR, h1.mono hR⟩
  len := fun ⟨v0, v1, h, h0, h1⟩ => by subst h; rfl
  one := fun ⟨v0, v1, h, h0, h1⟩ => by subst h; exact all_cons rfl (all_cons h0.one (all_cons h1.one (all_nil)))
structure api_Value where
  Kind : Int
  N : Int
  S : ByteArray
  H : Arr8
  deriving DecidableEq
def ty_api_Value : Ty api_Value := Ty.flat 11 (fun x => [.int .i64 x.Kind, .int .i64 x.N, .string x.S, .int .i64 x.H.a0, .int .i64 x.H.a1, .int .i64 x.H.a2, .int .i64 x.H.a3, .int .i64 x.H.a4, .int .i64 x.H.a5, .int .i64 x.H.a6, .int .i64 x.H.a7]) (fun _ => rfl) (fun _ => all_cons rfl (all_cons rfl (all_cons rfl (all_cons rfl (all_cons rfl (all_cons rfl (all_cons rfl (all_cons rfl (all_cons rfl (all_cons rfl (all_cons rfl (all_nil))))))))))))
structure streams_stream where
  name : ByteArray
  keys : List api_Value
  deriving DecidableEq
def ty_streams_stream : Ty streams_stream where
  n := 2
  rep := fun R cs x => ∃ v0, cs = [.string x.name, v0] ∧ SlR ty_api_Value R v0 x.keys
  mono := fun hR ⟨v0, h, h0⟩ => ⟨v0, h, h0.mono hR⟩
  len := fun ⟨v0, h, h0⟩ => by subst h; rfl
  one := fun ⟨v0, h, h0⟩ => by subst h; exact all_cons rfl (all_cons h0.one (all_nil))
structure streams_Dict where
  most : Int
  l : List streams_stream
  ids : List (ByteArray × Int)
  deriving DecidableEq
structure api_Sample where
  Time : Int
  Vals : List api_Value
  deriving DecidableEq
def ty_api_Sample : Ty api_Sample where
  n := 2
  rep := fun R cs x => ∃ v0, cs = [.int .i64 x.Time, v0] ∧ SlR ty_api_Value R v0 x.Vals
  mono := fun hR ⟨v0, h, h0⟩ => ⟨v0, h, h0.mono hR⟩
  len := fun ⟨v0, h, h0⟩ => by subst h; rfl
  one := fun ⟨v0, h, h0⟩ => by subst h; exact all_cons rfl (all_cons h0.one (all_nil))
structure runs_Run where
  l : List api_Sample
  deriving DecidableEq
structure leaf_Leaf where
  schemas : List api_Schema
  room : Int
  points : Int
  dict : streams_Dict
  runs : List (Int × runs_Run)
  deriving DecidableEq
structure api_Point where
  Schema : ByteArray
  Keys : List api_Value
  Time : Int
  Vals : List api_Value
  deriving DecidableEq
def ty_api_Point : Ty api_Point where
  n := 4
  rep := fun R cs x => ∃ v0 v1, cs = [.string x.Schema, v0, .int .i64 x.Time, v1] ∧ SlR ty_api_Value R v0 x.Keys ∧ SlR ty_api_Value R v1 x.Vals
  mono := fun hR ⟨v0, v1, h, h0, h1⟩ => ⟨v0, v1, h, h0.mono hR, h1.mono hR⟩
  len := fun ⟨v0, v1, h, h0, h1⟩ => by subst h; rfl
  one := fun ⟨v0, v1, h, h0, h1⟩ => by subst h; exact all_cons rfl (all_cons h0.one (all_cons rfl (all_cons h1.one (all_nil))))
structure api_Table where
  Cols : List api_Col
  Rows : List (List api_Value)
  deriving DecidableEq
def law08_load : Option (List api_Schema) :=
  some [(⟨(⟨#[108, 111, 97, 100]⟩ : ByteArray), [(⟨(⟨#[104, 111, 115, 116]⟩ : ByteArray), 2⟩ : api_Col)], [(⟨(⟨#[110]⟩ : ByteArray), 1⟩ : api_Col)]⟩ : api_Schema)]
def table_Name.j2 (kl0 : Int → Option Bool) (a0 : ByteArray) (x_11 : Int) : Option Bool :=
  (kl0 (IntKind.i64.wrap (x_11 + 1)))
def table_Name.j3 (kl0 : Int → Option Bool) (a0 : ByteArray) (x_11 : Int) (x_77 : Bool) : Option Bool :=
  (if x_77 = true then (table_Name.j2 kl0 a0 x_11) else some false)
def table_Name.j1 (kl0 : Int → Option Bool) (a0 : ByteArray) (x_11 : Int) (y_50 : Int) (x_53 : Bool) : Option Bool :=
  (if x_53 = true then (table_Name.j2 kl0 a0 x_11) else (if (decide (x_11 > 0)) = true then (if (decide (y_50 ≥ 48)) = true then (if (decide (y_50 ≤ 57)) = true then (table_Name.j3 kl0 a0 x_11 true) else (if (y_50 == 95) = true then (table_Name.j3 kl0 a0 x_11 true) else (table_Name.j3 kl0 a0 x_11 (y_50 == 35)))) else (if (y_50 == 95) = true then (table_Name.j3 kl0 a0 x_11 true) else (table_Name.j3 kl0 a0 x_11 (y_50 == 35)))) else (table_Name.j3 kl0 a0 x_11 false)))
def table_Name.l0 (a0 : ByteArray) : Nat → Int → Option Bool
  | 0, _ => none
  | k + 1, x_11 => (if (decide (x_11 < (a0.size : Int))) = true then ((ixs a0 x_11).bind fun y_50 => (if (decide (y_50 ≥ 97)) = true then (table_Name.j1 (table_Name.l0 a0 k) a0 x_11 y_50 (decide (y_50 ≤ 122))) else (table_Name.j1 (table_Name.l0 a0 k) a0 x_11 y_50 false))) else (if (decide ((a0.size : Int) ≥ 1)) = true then some (decide ((a0.size : Int) ≤ 24)) else some false))
def table_Name (a0 : ByteArray) : Option Bool :=
  (table_Name.l0 a0 (((a0.size : Int) - 0).toNat + 1) 0)
def strings_Contains (a0 : ByteArray) (a1 : ByteArray) : Option Bool := if a0.size < 4294967281 then some (Lib.contains a0.data.toList a1.data.toList) else none
def schema_Word (a0 : ByteArray) : Option Bool :=
  ((table_Name a0).bind fun y_1 => (if y_1 = true then ((strings_Contains a0 (⟨#[35]⟩ : ByteArray)).bind fun y_4 => (if (!y_4) = true then (if (decide ((⟨#[32]⟩ : ByteArray).size + a0.size ≤ 9223372036854775807)) = true then (if (decide (((⟨#[32]⟩ : ByteArray) ++ a0).size + (⟨#[32]⟩ : ByteArray).size ≤ 9223372036854775807)) = true then ((strings_Contains (⟨#[32, 102, 101, 116, 99, 104, 32, 102, 114, 111, 109, 32, 116, 111, 32, 119, 104, 101, 114, 101, 32, 107, 101, 101, 112, 32, 97, 108, 105, 103, 110, 32, 103, 114, 111, 117, 112, 32, 116, 111, 112, 32, 98, 121, 32, 106, 111, 105, 110, 32, 117, 110, 105, 111, 110, 32, 97, 110, 100, 32, 111, 114, 32, 110, 111, 116, 32, 104, 97, 115, 32, 116, 114, 117, 101, 32, 102, 97, 108, 115, 101, 32, 99, 111, 117, 110, 116, 32, 115, 117, 109, 32, 109, 105, 110, 32, 109, 97, 120, 32, 109, 101, 97, 110, 32, 109, 101, 114, 103, 101, 32, 116, 105, 109, 101, 32]⟩ : ByteArray) (((⟨#[32]⟩ : ByteArray) ++ a0) ++ (⟨#[32]⟩ : ByteArray))).bind fun y_9 => some (!y_9)) else none) else none) else some false)) else some false))
def schema_one_1 (a0 : api_Col) : Option Bool :=
  ((schema_Word a0.Name).bind fun y_2 => some y_2)
def schema_all_f_schema_one_1.l1 (kl0 : Int → Option Bool) (a1 : List (List api_Col)) (x_59 : Int) (y_119 : List api_Col) : Nat → Int → Option Bool
  | 0, _ => none
  | k + 1, x_145 => (if (decide (x_145 < (y_119.length : Int))) = true then ((ix y_119 x_145).bind fun y_162 => ((schema_one_1 y_162).bind fun y_172 => (if (!y_172) = true then some false else (schema_all_f_schema_one_1.l1 kl0 a1 x_59 y_119 k (IntKind.i64.wrap (x_145 + 1)))))) else (kl0 (IntKind.i64.wrap (x_59 + 1))))
def schema_all_f_schema_one_1.l0 (a1 : List (List api_Col)) : Nat → Int → Option Bool
  | 0, _ => none
  | k + 1, x_59 => (if (decide (x_59 < (a1.length : Int))) = true then ((ix a1 x_59).bind fun y_119 => (schema_all_f_schema_one_1.l1 (schema_all_f_schema_one_1.l0 a1 k) a1 x_59 y_119 (((y_119.length : Int) - 0).toNat + 1) 0)) else some true)
def schema_all_f_schema_one_1 (a1 : List (List api_Col)) : Option Bool :=
  (schema_all_f_schema_one_1.l0 a1 (((a1.length : Int) - 0).toNat + 1) 0)
def schema_one_2 (a0 : api_Col) : Option Bool :=
  some (a0.Kind != 4)
def schema_all_f_schema_one_2.l1 (kl0 : Int → Option Bool) (a1 : List (List api_Col)) (x_59 : Int) (y_119 : List api_Col) : Nat → Int → Option Bool
  | 0, _ => none
  | k + 1, x_145 => (if (decide (x_145 < (y_119.length : Int))) = true then ((ix y_119 x_145).bind fun y_162 => ((schema_one_2 y_162).bind fun y_172 => (if (!y_172) = true then some false else (schema_all_f_schema_one_2.l1 kl0 a1 x_59 y_119 k (IntKind.i64.wrap (x_145 + 1)))))) else (kl0 (IntKind.i64.wrap (x_59 + 1))))
def schema_all_f_schema_one_2.l0 (a1 : List (List api_Col)) : Nat → Int → Option Bool
  | 0, _ => none
  | k + 1, x_59 => (if (decide (x_59 < (a1.length : Int))) = true then ((ix a1 x_59).bind fun y_119 => (schema_all_f_schema_one_2.l1 (schema_all_f_schema_one_2.l0 a1 k) a1 x_59 y_119 (((y_119.length : Int) - 0).toNat + 1) 0)) else some true)
def schema_all_f_schema_one_2 (a1 : List (List api_Col)) : Option Bool :=
  (schema_all_f_schema_one_2.l0 a1 (((a1.length : Int) - 0).toNat + 1) 0)
def slices_Grow_api_Col_api_Col (a0 : List api_Col) (a1 : Int) : Option (List api_Col) := grow0 24 a0 a1
def slices_Concat_api_Col_api_Col.l1 (a0 : List (List api_Col)) : Nat → (List api_Col) → Int → Option (List api_Col)
  | 0, _, _ => none
  | k + 1, x_75, x_79 => (if (decide (x_79 < (a0.length : Int))) = true then ((ix a0 x_79).bind fun y_100 => ((apd 24 x_75 y_100).bind fun y_111 => (slices_Concat_api_Col_api_Col.l1 a0 k y_111 (IntKind.i64.wrap (x_79 + 1))))) else some x_75)
def slices_Concat_api_Col_api_Col.l0 (a0 : List (List api_Col)) : Nat → Int → Int → Option (List api_Col)
  | 0, _, _ => none
  | k + 1, x_16, x_17 => (if (decide (x_17 < (a0.length : Int))) = true then ((ix a0 x_17).bind fun y_34 => (if (decide ((IntKind.i64.wrap (x_16 + (y_34.length : Int))) < 0)) = true then none else (slices_Concat_api_Col_api_Col.l0 a0 k (IntKind.i64.wrap (x_16 + (y_34.length : Int))) (IntKind.i64.wrap (x_17 + 1))))) else ((slices_Grow_api_Col_api_Col ([] : List api_Col) x_16).bind fun y_47 => (slices_Concat_api_Col_api_Col.l1 a0 (((a0.length : Int) - 0).toNat + 1) y_47 0)))
def slices_Concat_api_Col_api_Col (a0 : List (List api_Col)) : Option (List api_Col) :=
  (slices_Concat_api_Col_api_Col.l0 a0 (((a0.length : Int) - 0).toNat + 1) 0 0)
def table_Find_1_cp (a0 : api_Col) (a1 : ByteArray) : Option Bool :=
  some (a0.Name.toList == a1.toList)
def slices_IndexFunc_api_Col_api_Col_f_table_Find_1p.l0 (a0 : List api_Col) (a1_0 : ByteArray) : Nat → Int → Option Int
  | 0, _ => none
  | k + 1, x_15 => (if (decide (x_15 < (a0.length : Int))) = true then ((ix a0 x_15).bind fun y_31 => ((table_Find_1_cp y_31 a1_0).bind fun y_40 => (if y_40 = true then some x_15 else (slices_IndexFunc_api_Col_api_Col_f_table_Find_1p.l0 a0 a1_0 k (IntKind.i64.wrap (x_15 + 1)))))) else some (-1))
def slices_IndexFunc_api_Col_api_Col_f_table_Find_1p (a0 : List api_Col) (a1_0 : ByteArray) : Option Int :=
  (slices_IndexFunc_api_Col_api_Col_f_table_Find_1p.l0 a0 a1_0 (((a0.length : Int) - 0).toNat + 1) 0)
def table_Find (a0 : List api_Col) (a1 : ByteArray) : Option Int :=
  ((slices_IndexFunc_api_Col_api_Col_f_table_Find_1p a0 a1).bind fun y_2 => some y_2)
def table_columns.j1 (kl0 : Int → Option Bool) (a0 : List api_Col) (x_30 : Int) (x_78 : Bool) : Option Bool :=
  (if x_78 = true then some false else (kl0 (IntKind.i64.wrap (x_30 + 1))))
def table_columns.l0 (a0 : List api_Col) : Nat → Int → Option Bool
  | 0, _ => none
  | k + 1, x_30 => (if (decide (x_30 < (a0.length : Int))) = true then ((ix a0 x_30).bind fun y_61 => ((table_Name y_61.Name).bind fun y_80 => (if (!y_80) = true then (table_columns.j1 (table_columns.l0 a0 k) a0 x_30 true) else (if (decide (y_61.Kind < 1)) = true then (table_columns.j1 (table_columns.l0 a0 k) a0 x_30 true) else (if (decide (y_61.Kind > 4)) = true then (table_columns.j1 (table_columns.l0 a0 k) a0 x_30 true) else ((table_Find a0 y_61.Name).bind fun y_85 => (table_columns.j1 (table_columns.l0 a0 k) a0 x_30 (y_85 != x_30)))))))) else (if (decide ((a0.length : Int) ≥ 1)) = true then some (decide ((a0.length : Int) ≤ 16)) else some false))
def table_columns (a0 : List api_Col) : Option Bool :=
  (table_columns.l0 a0 (((a0.length : Int) - 0).toNat + 1) 0)
def value_Valid.j0 (x_59 : Int) (x_60 : ByteArray) (x_61 : Arr8) (x_62 : Bool) : Option Bool :=
  (if x_62 = true then some (decide ((⟨0, x_59, x_60, x_61⟩ : api_Value) = (⟨0, 0, (⟨#[]⟩ : ByteArray), (⟨0, 0, 0, 0, 0, 0, 0, 0⟩ : Arr8)⟩ : api_Value))) else some false)
def value_Valid.j1 (x_90 : Int) (x_91 : ByteArray) (x_92 : Arr8) (x_93 : Bool) : Option Bool :=
  (value_Valid.j0 x_90 x_91 x_92 x_93)
def value_Valid.j2 (a0 : api_Value) (x_106 : Int) (x_107 : Arr8) (x_108 : Bool) : Option Bool :=
  (value_Valid.j1 x_106 a0.S x_107 x_108)
def value_Valid.j3 (a0 : api_Value) (x_112 : Bool) : Option Bool :=
  (value_Valid.j2 a0 0 a0.H x_112)
def value_Valid.j4 (a0 : api_Value) (x_116 : Arr8) (x_117 : Bool) : Option Bool :=
  (value_Valid.j2 a0 a0.N x_116 x_117)
def value_Valid (a0 : api_Value) : Option Bool :=
  (if (a0.Kind == 1) = true then (value_Valid.j0 0 a0.S a0.H true) else (if (a0.Kind == 2) = true then (value_Valid.j1 a0.N (⟨#[]⟩ : ByteArray) a0.H (decide ((a0.S.size : Int) ≤ 64))) else (if (a0.Kind == 3) = true then (if (a0.N == 0) = true then (value_Valid.j3 a0 true) else (value_Valid.j3 a0 (a0.N == 1))) else (if (a0.Kind == 4) = true then (value_Valid.j4 a0 (⟨0, 0, 0, 0, 0, 0, 0, 0⟩ : Arr8) true) else (value_Valid.j4 a0 a0.H false)))))
def table_Check.j2 (kl1 : Int → Option Int) (y_413 : List api_Value) (x_488 : Int) (x_587 : Bool) : Option Int :=
  (if x_587 = true then some 21 else (kl1 (IntKind.i64.wrap (x_488 + 1))))
def table_Check.l1 (kl0 : Int → Option Int) (a0 : api_Table) (x_208 : Int) (y_413 : List api_Value) : Nat → Int → Option Int
  | 0, _ => none
  | k + 1, x_488 => (if (decide (x_488 < (y_413.length : Int))) = true then ((ix y_413 x_488).bind fun y_553 => ((ix a0.Cols x_488).bind fun y_601 => (if (y_553.Kind != y_601.Kind) = true then (table_Check.j2 (table_Check.l1 kl0 a0 x_208 y_413 k) y_413 x_488 true) else ((value_Valid y_553).bind fun y_611 => (table_Check.j2 (table_Check.l1 kl0 a0 x_208 y_413 k) y_413 x_488 (!y_611)))))) else (kl0 (IntKind.i64.wrap (x_208 + 1))))
def table_Check.l0 (a0 : api_Table) : Nat → Int → Option Int
  | 0, _ => none
  | k + 1, x_208 => (if (decide (x_208 < (a0.Rows.length : Int))) = true then ((ix a0.Rows x_208).bind fun y_413 => (if ((y_413.length : Int) != (a0.Cols.length : Int)) = true then some 21 else (table_Check.l1 (table_Check.l0 a0 k) a0 x_208 y_413 (((y_413.length : Int) - 0).toNat + 1) 0))) else some 0)
def table_Check (a0 : api_Table) : Option Int :=
  ((table_columns a0.Cols).bind fun y_2 => (if (!y_2) = true then some 20 else (table_Check.l0 a0 (((a0.Rows.length : Int) - 0).toNat + 1) 0)))
def schema_one.j0 (a0 : api_Schema) (y_7 : Bool) (y_10 : Bool) (x_15 : Bool) : Option Bool :=
  (if x_15 = true then (if y_7 = true then (if y_10 = true then ((slices_Concat_api_Col_api_Col [a0.Keys, a0.Vals]).bind fun y_24 => ((table_Check (⟨y_24, []⟩ : api_Table)).bind fun y_33 => some (y_33 == 0))) else some false) else some false) else some false)
def schema_one (a0 : api_Schema) : Option Bool :=
  ((schema_all_f_schema_one_1 [a0.Keys, a0.Vals, [(⟨a0.Name, 0⟩ : api_Col)]]).bind fun y_7 => ((schema_all_f_schema_one_2 [a0.Keys]).bind fun y_10 => (if (decide ((a0.Keys.length : Int) ≥ 1)) = true then (if (decide ((a0.Keys.length : Int) ≤ 4)) = true then (if (decide ((a0.Vals.length : Int) ≥ 1)) = true then (schema_one.j0 a0 y_7 y_10 (decide ((a0.Vals.length : Int) ≤ 4))) else (schema_one.j0 a0 y_7 y_10 false)) else (schema_one.j0 a0 y_7 y_10 false)) else (schema_one.j0 a0 y_7 y_10 false))))
def schema_Check_1_cp (a0 : api_Schema) (a1 : api_Schema) : Option Bool :=
  some (a0.Name.toList == a1.Name.toList)
def slices_IndexFunc_api_Schema_api_Schema_f_schema_Check_1p.l0 (a0 : List api_Schema) (a1_0 : api_Schema) : Nat → Int → Option Int
  | 0, _ => none
  | k + 1, x_19 => (if (decide (x_19 < (a0.length : Int))) = true then ((ix a0 x_19).bind fun y_39 => ((schema_Check_1_cp y_39 a1_0).bind fun y_52 => (if y_52 = true then some x_19 else (slices_IndexFunc_api_Schema_api_Schema_f_schema_Check_1p.l0 a0 a1_0 k (IntKind.i64.wrap (x_19 + 1)))))) else some (-1))
def slices_IndexFunc_api_Schema_api_Schema_f_schema_Check_1p (a0 : List api_Schema) (a1_0 : api_Schema) : Option Int :=
  (slices_IndexFunc_api_Schema_api_Schema_f_schema_Check_1p.l0 a0 a1_0 (((a0.length : Int) - 0).toNat + 1) 0)
def slices_ContainsFunc_api_Schema_api_Schema_f_schema_Check_1p (a0 : List api_Schema) (a1_0 : api_Schema) : Option Bool :=
  ((slices_IndexFunc_api_Schema_api_Schema_f_schema_Check_1p a0 a1_0).bind fun y_1 => some (decide (y_1 ≥ 0)))
def schema_Check.j2 (kl1 : Int → Option Int) (a0 : List api_Schema) (x_45 : Int) (x_110 : Bool) : Option Int :=
  (if x_110 = true then some 50 else (kl1 (IntKind.i64.wrap (x_45 + 1))))
def schema_Check.l1 (a0 : List api_Schema) : Nat → Int → Option Int
  | 0, _ => none
  | k + 1, x_45 => (if (decide (x_45 < (a0.length : Int))) = true then ((ix a0 x_45).bind fun y_86 => ((schema_one y_86).bind fun y_112 => (if (!y_112) = true then (schema_Check.j2 (schema_Check.l1 a0 k) a0 x_45 true) else ((cut a0 0 x_45).bind fun y_115 => ((slices_ContainsFunc_api_Schema_api_Schema_f_schema_Check_1p y_115 y_86).bind fun y_120 => (schema_Check.j2 (schema_Check.l1 a0 k) a0 x_45 y_120)))))) else some 0)
def schema_Check.j0 (a0 : List api_Schema) (x_2 : Bool) : Option Int :=
  (if x_2 = true then some 50 else (schema_Check.l1 a0 (((a0.length : Int) - 0).toNat + 1) 0))
def schema_Check (a0 : List api_Schema) : Option Int :=
  (if (decide ((a0.length : Int) < 1)) = true then (schema_Check.j0 a0 true) else (schema_Check.j0 a0 (decide ((a0.length : Int) > 8))))
def slices_Clone_api_Col_api_Col (a0 : List api_Col) : Option (List api_Col) :=
  ((apd 24 ([] : List api_Col) a0).bind fun y_4 => some y_4)
def streams_New (a0 : Int) : Option streams_Dict :=
  some (⟨a0, ([] : List streams_stream), ([] : List (ByteArray × Int))⟩ : streams_Dict)
def leaf_New.l0 (a0 : List api_Schema) (a1 : Int) : Nat → (List api_Schema) → Int → Option ((Option leaf_Leaf) × Int)
  | 0, _, _ => none
  | k + 1, x_95, x_99 => (if (decide (x_99 < (a0.length : Int))) = true then ((ix a0 x_99).bind fun y_182 => ((slices_Clone_api_Col_api_Col y_182.Keys).bind fun y_227 => ((slices_Clone_api_Col_api_Col y_182.Vals).bind fun y_235 => ((apd 64 x_95 [(⟨y_182.Name, y_227, y_235⟩ : api_Schema)]).bind fun y_252 => (leaf_New.l0 a0 a1 k y_252 (IntKind.i64.wrap (x_99 + 1))))))) else ((streams_New a1).bind fun y_258 => some ((some (⟨x_95, a1, 0, y_258, ([] : List (Int × runs_Run))⟩ : leaf_Leaf)), 0)))
def leaf_New (a0 : List api_Schema) (a1 : Int) : Option ((Option leaf_Leaf) × Int) :=
  ((schema_Check a0).bind fun y_1 => (if (y_1 != 0) = true then some (none, y_1) else (leaf_New.l0 a0 a1 (((a0.length : Int) - 0).toNat + 1) [] 0)))
def law08_point (a0 : ByteArray) (a1 : Int) (a2 : Int) : Option api_Point :=
  some (⟨(⟨#[108, 111, 97, 100]⟩ : ByteArray), [(⟨2, 0, a0, (⟨0, 0, 0, 0, 0, 0, 0, 0⟩ : Arr8)⟩ : api_Value)], a1, [(⟨1, a2, (⟨#[]⟩ : ByteArray), (⟨0, 0, 0, 0, 0, 0, 0, 0⟩ : Arr8)⟩ : api_Value)]⟩ : api_Point)
def schema_Find.l0 (a0 : List api_Schema) (a1 : ByteArray) : Nat → Int → Option (api_Schema × Bool)
  | 0, _ => none
  | k + 1, x_19 => (if (decide (x_19 < (a0.length : Int))) = true then ((ix a0 x_19).bind fun y_38 => (if (y_38.Name.toList == a1.toList) = true then some (y_38, true) else (schema_Find.l0 a0 a1 k (IntKind.i64.wrap (x_19 + 1))))) else some ((⟨(⟨#[]⟩ : ByteArray), [], []⟩ : api_Schema), false))
def schema_Find (a0 : List api_Schema) (a1 : ByteArray) : Option (api_Schema × Bool) :=
  (schema_Find.l0 a0 a1 (((a0.length : Int) - 0).toNat + 1) 0)
def schema_fit_1 (a0 : api_Value) (a1 : api_Col) : Option Bool :=
  (if (a0.Kind == a1.Kind) = true then ((value_Valid a0).bind fun y_4 => some y_4) else some false)
def slices_EqualFunc_api_Value_api_Col_api_Value_api_Col_f_schema_fit_1.l0 (a0 : List api_Value) (a1 : List api_Col) : Nat → Int → Option Bool
  | 0, _ => none
  | k + 1, x_27 => (if (decide (x_27 < (a0.length : Int))) = true then ((ix a0 x_27).bind fun y_54 => ((ix a1 x_27).bind fun y_64 => ((schema_fit_1 y_54 y_64).bind fun y_74 => (if (!y_74) = true then some false else (slices_EqualFunc_api_Value_api_Col_api_Value_api_Col_f_schema_fit_1.l0 a0 a1 k (IntKind.i64.wrap (x_27 + 1))))))) else some true)
def slices_EqualFunc_api_Value_api_Col_api_Value_api_Col_f_schema_fit_1 (a0 : List api_Value) (a1 : List api_Col) : Option Bool :=
  (if ((a0.length : Int) != (a1.length : Int)) = true then some false else (slices_EqualFunc_api_Value_api_Col_api_Value_api_Col_f_schema_fit_1.l0 a0 a1 (((a0.length : Int) - 0).toNat + 1) 0))
def schema_fit (a0 : List api_Value) (a1 : List api_Col) : Option Bool :=
  ((slices_EqualFunc_api_Value_api_Col_api_Value_api_Col_f_schema_fit_1 a0 a1).bind fun y_1 => some y_1)
def schema_Fits.j0 (x_29 : Bool) : Option Int :=
  (if x_29 = true then some 51 else some 0)
def schema_Fits.j1 (x_39 : Bool) : Option Int :=
  (schema_Fits.j0 x_39)
def schema_Fits.j2 (x_43 : Bool) : Option Int :=
  (schema_Fits.j1 x_43)
def schema_Fits (a0 : List api_Schema) (a1 : api_Point) : Option Int :=
  ((schema_Find a0 a1.Schema).bind fun y_2 => (if (!y_2.2) = true then some 50 else ((schema_fit a1.Keys y_2.1.Keys).bind fun y_12 => (if (!y_12) = true then (schema_Fits.j0 (!y_12)) else ((schema_fit a1.Vals y_2.1.Vals).bind fun y_32 => (if (!y_32) = true then (schema_Fits.j1 (!y_32)) else (if (decide (a1.Time < 0)) = true then (schema_Fits.j2 (decide (a1.Time < 0))) else (schema_Fits.j2 (decide (a1.Time ≥ 1099511627776))))))))))
def streams_Dict_Find_1 (a0 : api_Value) : Option Bool :=
  ((value_Valid a0).bind fun y_2 => some (!y_2))
def slices_IndexFunc_api_Value_api_Value_f_streams_Dict_Find_1.l0 (a0 : List api_Value) : Nat → Int → Option Int
  | 0, _ => none
  | k + 1, x_15 => (if (decide (x_15 < (a0.length : Int))) = true then ((ix a0 x_15).bind fun y_31 => ((streams_Dict_Find_1 y_31).bind fun y_40 => (if y_40 = true then some x_15 else (slices_IndexFunc_api_Value_api_Value_f_streams_Dict_Find_1.l0 a0 k (IntKind.i64.wrap (x_15 + 1)))))) else some (-1))
def slices_IndexFunc_api_Value_api_Value_f_streams_Dict_Find_1 (a0 : List api_Value) : Option Int :=
  (slices_IndexFunc_api_Value_api_Value_f_streams_Dict_Find_1.l0 a0 (((a0.length : Int) - 0).toNat + 1) 0)
def slices_ContainsFunc_api_Value_api_Value_f_streams_Dict_Find_1 (a0 : List api_Value) : Option Bool :=
  ((slices_IndexFunc_api_Value_api_Value_f_streams_Dict_Find_1 a0).bind fun y_1 => some (decide (y_1 ≥ 0)))
def strconv_Itoa (a0 : Int) : Option ByteArray := if -9223372036854775808 ≤ a0 ∧ a0 ≤ 9223372036854775807 then some ⟨(Lib.itoa a0).toArray⟩ else none
def slices_Clone_byte_byte (a0 : List Int) : Option (List Int) :=
  ((apd 1 ([] : List Int) a0).bind fun y_4 => some y_4)
def wire_big.l0 (a1 : Int) (a2 : Int) : Nat → (List Int) → Int → Option (List Int)
  | 0, _, _ => none
  | k + 1, x_12, x_16 => (if (decide (x_16 ≥ 0)) = true then (if (decide (0 ≤ (IntKind.i64.wrap (8 * x_16)))) = true then ((apd 1 x_12 [IntKind.u8.wrap (a1.fdiv (2 ^ (min (IntKind.i64.wrap (8 * x_16)).toNat 64)))]).bind fun y_30 => (wire_big.l0 a1 a2 k y_30 (IntKind.i64.wrap (x_16 - 1)))) else none) else some x_12)
def wire_big (a0 : List Int) (a1 : Int) (a2 : Int) : Option (List Int) :=
  (wire_big.l0 a1 a2 (((IntKind.i64.wrap (a2 - 1)) - 0).toNat + 2) a0 (IntKind.i64.wrap (a2 - 1)))
def wire_put.l0 (a1 : api_Value) : Nat → (List Int) → Int → Option (List Int)
  | 0, _, _ => none
  | k + 1, x_56, x_60 => (if (decide (x_60 < 8)) = true then ((Arr8.ix a1.H x_60).bind fun y_75 => ((wire_big x_56 y_75 8).bind fun y_77 => (wire_put.l0 a1 k y_77 (IntKind.i64.wrap (x_60 + 1))))) else some x_56)
def wire_put (a0 : List Int) (a1 : api_Value) : Option (List Int) :=
  (if (a1.Kind == 1) = true then ((wire_big a0 a1.N 8).bind fun y_3 => some y_3) else (if (a1.Kind == 2) = true then ((apd 1 a0 [IntKind.u8.wrap (a1.S.size : Int)]).bind fun y_26 => ((apd 1 y_26 (sbytes a1.S)).bind fun y_32 => some y_32)) else (if (a1.Kind == 3) = true then ((apd 1 a0 [IntKind.u8.wrap a1.N]).bind fun y_40 => some y_40) else (wire_put.l0 a1 (((8 : Int) - 0).toNat + 1) a0 0))))
def wire_Put (a0 : List Int) (a1 : api_Value) : Option ((List Int) × Int) :=
  ((value_Valid a1).bind fun y_2 => (if (!y_2) = true then some (([] : List Int), 10) else ((slices_Clone_byte_byte a0).bind fun y_23 => ((wire_put y_23 a1).bind fun y_31 => some (y_31, 0)))))
def streams_mark.l0 (a1 : List api_Value) : Nat → (List Int) → Int → Option (ByteArray × Bool)
  | 0, _, _ => none
  | k + 1, x_48, x_52 => (if (decide (x_52 < (a1.length : Int))) = true then ((ix a1 x_52).bind fun y_92 => ((wire_Put ([] : List Int) y_92).bind fun y_102 => (if (y_102.2 != 0) = true then some ((⟨#[]⟩ : ByteArray), false) else ((apd 1 x_48 [IntKind.u8.wrap y_92.Kind]).bind fun y_112 => ((apd 1 y_112 y_102.1).bind fun y_121 => (streams_mark.l0 a1 k y_121 (IntKind.i64.wrap (x_52 + 1)))))))) else some (bstr x_48, true))
def streams_mark (a0 : ByteArray) (a1 : List api_Value) : Option (ByteArray × Bool) :=
  ((strconv_Itoa (a0.size : Int)).bind fun y_1 => (if (decide (y_1.size + (⟨#[32]⟩ : ByteArray).size ≤ 9223372036854775807)) = true then (if (decide ((y_1 ++ (⟨#[32]⟩ : ByteArray)).size + a0.size ≤ 9223372036854775807)) = true then (if (decide ((sbytes ((y_1 ++ (⟨#[32]⟩ : ByteArray)) ++ a0)).length * 1 ≤ 140737488355328)) = true then (streams_mark.l0 a1 (((a1.length : Int) - 0).toNat + 1) (sbytes ((y_1 ++ (⟨#[32]⟩ : ByteArray)) ++ a0)) 0) else none) else none) else none))
def streams_Dict_Find (a0 : streams_Dict) (a1 : ByteArray) (a2 : List api_Value) : Option (Int × Bool) :=
  ((slices_ContainsFunc_api_Value_api_Value_f_streams_Dict_Find_1 a2).bind fun y_1 => (if y_1 = true then some (0, false) else ((streams_mark a1 a2).bind fun y_4 => some ((mget a0.ids y_4.1).getD 0, (mget a0.ids y_4.1).isSome))))
def cmp_isNaN_int (a0 : Int) : Option Bool :=
  some (a0 != a0)
def cmp_Compare_int (a0 : Int) (a1 : Int) : Option Int :=
  ((cmp_isNaN_int a0).bind fun y_1 => ((cmp_isNaN_int a1).bind fun y_3 => (if y_1 = true then (if y_3 = true then some 0 else some (-1)) else (if y_3 = true then some 1 else (if (decide (a0 < a1)) = true then some (-1) else (if (decide (a0 > a1)) = true then some 1 else some 0))))))
def runs_Run_place_1 (a0 : api_Sample) (a1 : Int) : Option Int :=
  ((cmp_Compare_int a0.Time a1).bind fun y_2 => some y_2)
def slices_BinarySearchFunc_api_Sample_api_Sample_int_f_runs_Run_place_1.j1 (kl0 : Int → Int → Option (Int × Bool)) (a0 : List api_Sample) (x_58 : Int) (x_59 : Int) : Option (Int × Bool) :=
  (kl0 x_58 x_59)
def slices_BinarySearchFunc_api_Sample_api_Sample_int_f_runs_Run_place_1.l0 (a0 : List api_Sample) (a1 : Int) : Nat → Int → Int → Option (Int × Bool)
  | 0, _, _ => none
  | k + 1, x_21, x_22 => (if (decide (x_21 < x_22)) = true then ((ix a0 (IntKind.i64.wrap ((IntKind.u64.wrap (IntKind.i64.wrap (x_21 + x_22))).fdiv (2 ^ (min (1 : Int).toNat 64))))).bind fun y_44 => ((runs_Run_place_1 y_44 a1).bind fun y_55 => (if (decide (y_55 < 0)) = true then (slices_BinarySearchFunc_api_Sample_api_Sample_int_f_runs_Run_place_1.j1 (slices_BinarySearchFunc_api_Sample_api_Sample_int_f_runs_Run_place_1.l0 a0 a1 k) a0 (IntKind.i64.wrap ((IntKind.i64.wrap ((IntKind.u64.wrap (IntKind.i64.wrap (x_21 + x_22))).fdiv (2 ^ (min (1 : Int).toNat 64)))) + 1)) x_22) else (slices_BinarySearchFunc_api_Sample_api_Sample_int_f_runs_Run_place_1.j1 (slices_BinarySearchFunc_api_Sample_api_Sample_int_f_runs_Run_place_1.l0 a0 a1 k) a0 x_21 (IntKind.i64.wrap ((IntKind.u64.wrap (IntKind.i64.wrap (x_21 + x_22))).fdiv (2 ^ (min (1 : Int).toNat 64)))))))) else (if (decide (x_21 < (a0.length : Int))) = true then ((ix a0 x_21).bind fun y_63 => ((runs_Run_place_1 y_63 a1).bind fun y_74 => some (x_21, (y_74 == 0)))) else some (x_21, false)))
def slices_BinarySearchFunc_api_Sample_api_Sample_int_f_runs_Run_place_1 (a0 : List api_Sample) (a1 : Int) : Option (Int × Bool) :=
  (slices_BinarySearchFunc_api_Sample_api_Sample_int_f_runs_Run_place_1.l0 a0 a1 (((a0.length : Int) - 0).toNat + 1) 0 (a0.length : Int))
def runs_Run_place (a0 : runs_Run) (a1 : Int) : Option (Int × Bool) :=
  ((slices_BinarySearchFunc_api_Sample_api_Sample_int_f_runs_Run_place_1 a0.l a1).bind fun y_1 => some (y_1.1, y_1.2))
def slices_Clone_api_Value_api_Value (a0 : List api_Value) : Option (List api_Value) :=
  ((apd 96 ([] : List api_Value) a0).bind fun y_4 => some y_4)
def runs_Run_Get (a0 : runs_Run) (a1 : Int) : Option ((List api_Value) × Bool) :=
  ((runs_Run_place a0 a1).bind fun y_1 => (if (!y_1.2) = true then some (([] : List api_Value), false) else ((ix a0.l y_1.1).bind fun y_6 => ((slices_Clone_api_Value_api_Value y_6.Vals).bind fun y_17 => some (y_17, true)))))
def streams_Dict_Add (a0 : streams_Dict) (a1 : ByteArray) (a2 : List api_Value) : Option (Int × Int × streams_Dict) :=
  ((streams_mark a1 a2).bind fun y_1 => (if (!y_1.2) = true then some (0, 10, a0) else (if ((mget a0.ids y_1.1).isSome) = true then some ((mget a0.ids y_1.1).getD 0, 0, a0) else (if (decide ((a0.l.length : Int) ≥ a0.most)) = true then some (0, 80, a0) else ((mkS 96 (a2.length : Int) (⟨0, 0, (⟨#[]⟩ : ByteArray), (⟨0, 0, 0, 0, 0, 0, 0, 0⟩ : Arr8)⟩ : api_Value)).bind fun y_6 => ((apd 40 a0.l [(⟨a1, cpy y_6 a2⟩ : streams_stream)]).bind fun y_20 => some (IntKind.i64.wrap ((y_20.length : Int) - 1), 0, (⟨a0.most, y_20, mset a0.ids y_1.1 (a0.l.length : Int)⟩ : streams_Dict))))))))
def runs_New : Option runs_Run :=
  some (⟨([] : List api_Sample)⟩ : runs_Run)
def slices_Insert_api_Sample_api_Sample (a0 : List api_Sample) (a1 : Int) (a2 : List api_Sample) : Option (List api_Sample) := ins 32 a0 a1 a2
def runs_Run_Add (a0 : runs_Run) (a1 : Int) (a2 : List api_Value) : Option (Bool × runs_Run) :=
  ((runs_Run_place a0 a1).bind fun y_1 => (if y_1.2 = true then some (false, a0) else ((slices_Clone_api_Value_api_Value a2).bind fun y_27 => ((slices_Insert_api_Sample_api_Sample a0.l y_1.1 [(⟨a1, y_27⟩ : api_Sample)]).bind fun y_42 => some (true, (⟨y_42⟩ : runs_Run))))))
def leaf_Leaf_Write.j0 (a0 : leaf_Leaf) (a1 : api_Point) : Option (Bool × Int × leaf_Leaf) :=
  (if (decide (a0.points ≥ a0.room)) = true then some (false, 80, a0) else ((streams_Dict_Add a0.dict a1.Schema a1.Keys).bind fun y_101 => (if (!(mget a0.runs y_101.1).isSome) = true then ((runs_New).bind fun y_122 => ((mget (mset a0.runs y_101.1 y_122) y_101.1).bind fun y_151 => ((runs_Run_Add y_151 a1.Time a1.Vals).bind fun y_159 => some (true, 0, (⟨a0.schemas, a0.room, IntKind.i64.wrap (a0.points + 1), y_101.2.2, mset (mset a0.runs y_101.1 y_122) y_101.1 y_159.2⟩ : leaf_Leaf))))) else ((mget a0.runs y_101.1).bind fun y_187 => ((runs_Run_Add y_187 a1.Time a1.Vals).bind fun y_195 => some (true, 0, (⟨a0.schemas, a0.room, IntKind.i64.wrap (a0.points + 1), y_101.2.2, mset a0.runs y_101.1 y_195.2⟩ : leaf_Leaf)))))))
def leaf_Leaf_Write (a0 : leaf_Leaf) (a1 : api_Point) : Option (Bool × Int × leaf_Leaf) :=
  ((schema_Fits a0.schemas a1).bind fun y_4 => (if (y_4 != 0) = true then some (false, y_4, a0) else ((streams_Dict_Find a0.dict a1.Schema a1.Keys).bind fun y_9 => (if y_9.2 = true then ((mget a0.runs y_9.1).bind fun y_72 => ((runs_Run_Get y_72 a1.Time).bind fun y_80 => (if y_80.2 = true then some (false, 0, a0) else (leaf_Leaf_Write.j0 a0 a1)))) else (leaf_Leaf_Write.j0 a0 a1)))))
def schema_Cols (a0 : api_Schema) : Option (List api_Col) :=
  ((slices_Concat_api_Col_api_Col [[(⟨(⟨#[116, 105, 109, 101]⟩ : ByteArray), 1⟩ : api_Col)], a0.Keys, a0.Vals]).bind fun y_7 => some y_7)
def streams_Dict_Of.j1 (kl0 : (List Int) → Int → Option (List Int)) (a0 : streams_Dict) (x_48 : Int) (x_109 : List Int) : Option (List Int) :=
  (kl0 x_109 (IntKind.i64.wrap (x_48 + 1)))
def streams_Dict_Of.l0 (a0 : streams_Dict) (a1 : ByteArray) : Nat → (List Int) → Int → Option (List Int)
  | 0, _, _ => none
  | k + 1, x_44, x_48 => (if (decide (x_48 < (a0.l.length : Int))) = true then ((ix a0.l x_48).bind fun y_88 => (if (y_88.name.toList == a1.toList) = true then ((apd 8 x_44 [x_48]).bind fun y_116 => (streams_Dict_Of.j1 (streams_Dict_Of.l0 a0 a1 k) a0 x_48 y_116)) else (streams_Dict_Of.j1 (streams_Dict_Of.l0 a0 a1 k) a0 x_48 x_44))) else some x_44)
def streams_Dict_Of (a0 : streams_Dict) (a1 : ByteArray) : Option (List Int) :=
  (streams_Dict_Of.l0 a0 a1 (((a0.l.length : Int) - 0).toNat + 1) [] 0)
def streams_Dict_Keys.j0 (a0 : streams_Dict) (a1 : Int) (x_2 : Bool) : Option (ByteArray × (List api_Value) × Bool) :=
  (if x_2 = true then some ((⟨#[]⟩ : ByteArray), ([] : List api_Value), false) else ((ix a0.l a1).bind fun y_38 => ((ix a0.l a1).bind fun y_49 => ((slices_Clone_api_Value_api_Value y_49.keys).bind fun y_60 => some (y_38.name, y_60, true)))))
def streams_Dict_Keys (a0 : streams_Dict) (a1 : Int) : Option (ByteArray × (List api_Value) × Bool) :=
  (if (decide (a1 < 0)) = true then (streams_Dict_Keys.j0 a0 a1 true) else (streams_Dict_Keys.j0 a0 a1 (decide (a1 ≥ (a0.l.length : Int)))))
def runs_Run_Range.l0 (a2 : Int) (y_3 : List api_Sample) : Nat → (List api_Sample) → Int → Option (List api_Sample)
  | 0, _, _ => none
  | k + 1, x_76, x_81 => (if (decide (x_81 < (y_3.length : Int))) = true then ((ix y_3 x_81).bind fun y_145 => (if (decide (y_145.Time > a2)) = true then some x_76 else ((slices_Clone_api_Value_api_Value y_145.Vals).bind fun y_180 => ((apd 32 x_76 [(⟨y_145.Time, y_180⟩ : api_Sample)]).bind fun y_194 => (runs_Run_Range.l0 a2 y_3 k y_194 (IntKind.i64.wrap (x_81 + 1))))))) else some x_76)
def runs_Run_Range (a0 : runs_Run) (a1 : Int) (a2 : Int) : Option (List api_Sample) :=
  ((runs_Run_place a0 a1).bind fun y_1 => ((cut a0.l y_1.1 a0.l.length).bind fun y_3 => (runs_Run_Range.l0 a2 y_3 (((y_3.length : Int) - 0).toNat + 1) [] 0)))
def slices_Grow_api_Value_api_Value (a0 : List api_Value) (a1 : Int) : Option (List api_Value) := grow0 96 a0 a1
def slices_Concat_api_Value_api_Value.l1 (a0 : List (List api_Value)) : Nat → (List api_Value) → Int → Option (List api_Value)
  | 0, _, _ => none
  | k + 1, x_75, x_79 => (if (decide (x_79 < (a0.length : Int))) = true then ((ix a0 x_79).bind fun y_100 => ((apd 96 x_75 y_100).bind fun y_111 => (slices_Concat_api_Value_api_Value.l1 a0 k y_111 (IntKind.i64.wrap (x_79 + 1))))) else some x_75)
def slices_Concat_api_Value_api_Value.l0 (a0 : List (List api_Value)) : Nat → Int → Int → Option (List api_Value)
  | 0, _, _ => none
  | k + 1, x_16, x_17 => (if (decide (x_17 < (a0.length : Int))) = true then ((ix a0 x_17).bind fun y_34 => (if (decide ((IntKind.i64.wrap (x_16 + (y_34.length : Int))) < 0)) = true then none else (slices_Concat_api_Value_api_Value.l0 a0 k (IntKind.i64.wrap (x_16 + (y_34.length : Int))) (IntKind.i64.wrap (x_17 + 1))))) else ((slices_Grow_api_Value_api_Value ([] : List api_Value) x_16).bind fun y_47 => (slices_Concat_api_Value_api_Value.l1 a0 (((a0.length : Int) - 0).toNat + 1) y_47 0)))
def slices_Concat_api_Value_api_Value (a0 : List (List api_Value)) : Option (List api_Value) :=
  (slices_Concat_api_Value_api_Value.l0 a0 (((a0.length : Int) - 0).toNat + 1) 0 0)
def internal_bytealg_CompareString (a0 : ByteArray) (a1 : ByteArray) : Option Int :=
  some (Lib.compareBytes a0.data.toList a1.data.toList)
def strings_Compare (a0 : ByteArray) (a1 : ByteArray) : Option Int :=
  ((internal_bytealg_CompareString a0 a1).bind fun y_1 => some y_1)
def slices_Compare_int_int.l0 (a0 : List Int) (a1 : List Int) : Nat → Int → Option Int
  | 0, _ => none
  | k + 1, x_25 => (if (decide (x_25 < (a0.length : Int))) = true then ((ix a0 x_25).bind fun y_51 => (if (decide (x_25 ≥ (a1.length : Int))) = true then some 1 else ((ix a1 x_25).bind fun y_61 => ((cmp_Compare_int y_51 y_61).bind fun y_70 => (if (y_70 != 0) = true then some y_70 else (slices_Compare_int_int.l0 a0 a1 k (IntKind.i64.wrap (x_25 + 1)))))))) else (if (decide ((a0.length : Int) < (a1.length : Int))) = true then some (-1) else some 0))
def slices_Compare_int_int (a0 : List Int) (a1 : List Int) : Option Int :=
  (slices_Compare_int_int.l0 a0 a1 (((a0.length : Int) - 0).toNat + 1) 0)
def cmp_Or_int.l0 (a0 : List Int) : Nat → Int → Option Int
  | 0, _ => none
  | k + 1, x_13 => (if (decide (x_13 < (a0.length : Int))) = true then ((ix a0 x_13).bind fun y_27 => (if (y_27 != 0) = true then some y_27 else (cmp_Or_int.l0 a0 k (IntKind.i64.wrap (x_13 + 1))))) else some 0)
def cmp_Or_int (a0 : List Int) : Option Int :=
  (cmp_Or_int.l0 a0 (((a0.length : Int) - 0).toNat + 1) 0)
def value_Compare (a0 : api_Value) (a1 : api_Value) : Option Int :=
  ((cmp_Compare_int a0.Kind a1.Kind).bind fun y_14 => ((cmp_Compare_int a0.N a1.N).bind fun y_16 => ((strings_Compare a0.S a1.S).bind fun y_18 => ((slices_Compare_int_int a0.H.list a1.H.list).bind fun y_20 => ((cmp_Or_int [y_14, y_16, y_18, y_20]).bind fun y_23 => some y_23)))))
def slices_CompareFunc_api_Value_api_Value_api_Value_api_Value_f_value_Compare.l0 (a0 : List api_Value) (a1 : List api_Value) : Nat → Int → Option Int
  | 0, _ => none
  | k + 1, x_27 => (if (decide (x_27 < (a0.length : Int))) = true then ((ix a0 x_27).bind fun y_55 => (if (decide (x_27 ≥ (a1.length : Int))) = true then some 1 else ((ix a1 x_27).bind fun y_66 => ((value_Compare y_55 y_66).bind fun y_76 => (if (y_76 != 0) = true then some y_76 else (slices_CompareFunc_api_Value_api_Value_api_Value_api_Value_f_value_Compare.l0 a0 a1 k (IntKind.i64.wrap (x_27 + 1)))))))) else (if (decide ((a0.length : Int) < (a1.length : Int))) = true then some (-1) else some 0))
def slices_CompareFunc_api_Value_api_Value_api_Value_api_Value_f_value_Compare (a0 : List api_Value) (a1 : List api_Value) : Option Int :=
  (slices_CompareFunc_api_Value_api_Value_api_Value_api_Value_f_value_Compare.l0 a0 a1 (((a0.length : Int) - 0).toNat + 1) 0)
def table_order (a0 : List api_Value) (a1 : List api_Value) : Option Int :=
  ((slices_CompareFunc_api_Value_api_Value_api_Value_api_Value_f_value_Compare a0 a1).bind fun y_1 => some y_1)
noncomputable def slices_SortFunc_api_Value_api_Value_f_table_order (a0 : List (List api_Value)) : Option (List (List api_Value)) := sortBy table_order a0
def table_Canon.l0 (a0 : api_Table) (y_3 : List api_Col) : Nat → (List (List api_Value)) → Int → Option api_Table
  | 0, _, _ => none
  | k + 1, x_79, x_84 => (if (decide (x_84 < (a0.Rows.length : Int))) = true then ((ix a0.Rows x_84).bind fun y_146 => ((slices_Clone_api_Value_api_Value y_146).bind fun y_179 => ((apd 24 x_79 [y_179]).bind fun y_193 => (table_Canon.l0 a0 y_3 k y_193 (IntKind.i64.wrap (x_84 + 1)))))) else ((slices_SortFunc_api_Value_api_Value_f_table_order x_79).bind fun y_201 => some (⟨y_3, y_201⟩ : api_Table)))
def table_Canon (a0 : api_Table) : Option api_Table :=
  ((slices_Clone_api_Col_api_Col a0.Cols).bind fun y_3 => (table_Canon.l0 a0 y_3 (((a0.Rows.length : Int) - 0).toNat + 1) [] 0))
def leaf_Leaf_Scan.l1 (kl0 : (List (List api_Value)) → Int → Option (api_Table × Int × leaf_Leaf)) (y_26 : List Int) (x_293 : Int) (y_548 : ByteArray × (List api_Value) × Bool) (y_564 : List api_Sample) : Nat → (List (List api_Value)) → Int → Option (api_Table × Int × leaf_Leaf)
  | 0, _, _ => none
  | k + 1, x_648, x_654 => (if (decide (x_654 < (y_564.length : Int))) = true then ((ix y_564 x_654).bind fun y_721 => ((slices_Concat_api_Value_api_Value [[(⟨1, y_721.Time, (⟨#[]⟩ : ByteArray), (⟨0, 0, 0, 0, 0, 0, 0, 0⟩ : Arr8)⟩ : api_Value)], y_548.2.1, y_721.Vals]).bind fun y_761 => ((apd 24 x_648 [y_761]).bind fun y_774 => (leaf_Leaf_Scan.l1 kl0 y_26 x_293 y_548 y_564 k y_774 (IntKind.i64.wrap (x_654 + 1)))))) else (kl0 x_648 (IntKind.i64.wrap (x_293 + 1))))
def leaf_Leaf_Scan.l0 (a0 : leaf_Leaf) (a2 : Int) (a3 : Int) (y_16 : List api_Col) (y_26 : List Int) : Nat → (List (List api_Value)) → Int → Option (api_Table × Int × leaf_Leaf)
  | 0, _, _ => none
  | k + 1, x_289, x_293 => (if (decide (x_293 < (y_26.length : Int))) = true then ((ix y_26 x_293).bind fun y_540 => ((streams_Dict_Keys a0.dict y_540).bind fun y_548 => ((mget a0.runs y_540).bind fun y_556 => ((runs_Run_Range y_556 a2 a3).bind fun y_564 => (leaf_Leaf_Scan.l1 (leaf_Leaf_Scan.l0 a0 a2 a3 y_16 y_26 k) y_26 x_293 y_548 y_564 (((y_564.length : Int) - 0).toNat + 1) x_289 0))))) else ((table_Canon (⟨y_16, x_289⟩ : api_Table)).bind fun y_780 => some (y_780, 0, a0)))
def leaf_Leaf_Scan (a0 : leaf_Leaf) (a1 : ByteArray) (a2 : Int) (a3 : Int) : Option (api_Table × Int × leaf_Leaf) :=
  ((schema_Find a0.schemas a1).bind fun y_2 => (if (!y_2.2) = true then some ((⟨([] : List api_Col), ([] : List (List api_Value))⟩ : api_Table), 50, a0) else ((schema_Cols y_2.1).bind fun y_16 => ((streams_Dict_Of a0.dict a1).bind fun y_26 => (leaf_Leaf_Scan.l0 a0 a2 a3 y_16 y_26 (((y_26.length : Int) - 0).toNat + 1) [] 0)))))
def leaf_Leaf_Points (a0 : leaf_Leaf) : Option (Int × leaf_Leaf) :=
  some (a0.points, a0)
def law08_shown.j0 (y_16 : leaf_Leaf) (x_76 : Bool) : Option Bool :=
  (if x_76 = true then some false else ((law08_point (⟨#[97]⟩ : ByteArray) 5 7).bind fun y_80 => ((leaf_Leaf_Write y_16 y_80).bind fun y_92 => ((law08_point (⟨#[97]⟩ : ByteArray) 5 8).bind fun y_107 => ((leaf_Leaf_Write y_92.2.2 y_107).bind fun y_119 => ((law08_point (⟨#[98]⟩ : ByteArray) 3 1).bind fun y_134 => ((leaf_Leaf_Write y_119.2.2 y_134).bind fun y_146 => ((law08_point (⟨#[99]⟩ : ByteArray) 1 1).bind fun y_161 => ((leaf_Leaf_Write y_146.2.2 y_161).bind fun y_173 => ((leaf_Leaf_Scan y_173.2.2 (⟨#[108, 111, 97, 100]⟩ : ByteArray) 0 9).bind fun y_188 => ((leaf_Leaf_Scan y_188.2.2 (⟨#[108, 111, 97, 100]⟩ : ByteArray) 4 9).bind fun y_212 => ((leaf_Leaf_Scan y_212.2.2 (⟨#[120]⟩ : ByteArray) 0 9).bind fun y_236 => (if y_92.1 = true then (if (y_92.2.1 == 0) = true then (if (!y_119.1) = true then (if (y_119.2.1 == 0) = true then (if y_146.1 = true then (if (y_146.2.1 == 0) = true then (if (!y_173.1) = true then (if (y_173.2.1 == 80) = true then (if (y_188.2.1 == 0) = true then (if ((y_188.1.Rows.length : Int) == 2) = true then ((ix y_188.1.Rows 0).bind fun y_270 => ((ix y_270 0).bind fun y_280 => (if (y_280.N == 3) = true then ((ix y_188.1.Rows 1).bind fun y_290 => ((ix y_290 2).bind fun y_300 => (if (y_300.N == 7) = true then (if (y_212.2.1 == 0) = true then (if ((y_212.1.Rows.length : Int) == 1) = true then (if (y_236.2.1 == 50) = true then ((leaf_Leaf_Points y_236.2.2).bind fun y_313 => some (y_313.1 == 2)) else some false) else some false) else some false) else some false))) else some false))) else some false) else some false) else some false) else some false) else some false) else some false) else some false) else some false) else some false) else some false)))))))))))))
def law08_shown.j1 (y_16 : leaf_Leaf) (x_329 : Bool) : Option Bool :=
  (if x_329 = true then some false else ((law08_point (⟨#[97]⟩ : ByteArray) 5 7).bind fun y_333 => ((leaf_Leaf_Write y_16 y_333).bind fun y_345 => ((law08_point (⟨#[97]⟩ : ByteArray) 5 8).bind fun y_360 => ((leaf_Leaf_Write y_345.2.2 y_360).bind fun y_372 => ((law08_point (⟨#[98]⟩ : ByteArray) 3 1).bind fun y_387 => ((leaf_Leaf_Write y_372.2.2 y_387).bind fun y_399 => ((law08_point (⟨#[99]⟩ : ByteArray) 1 1).bind fun y_414 => ((leaf_Leaf_Write y_399.2.2 y_414).bind fun y_426 => ((leaf_Leaf_Scan y_426.2.2 (⟨#[108, 111, 97, 100]⟩ : ByteArray) 0 9).bind fun y_441 => ((leaf_Leaf_Scan y_441.2.2 (⟨#[108, 111, 97, 100]⟩ : ByteArray) 4 9).bind fun y_465 => ((leaf_Leaf_Scan y_465.2.2 (⟨#[120]⟩ : ByteArray) 0 9).bind fun y_489 => (if y_345.1 = true then (if (y_345.2.1 == 0) = true then (if (!y_372.1) = true then (if (y_372.2.1 == 0) = true then (if y_399.1 = true then (if (y_399.2.1 == 0) = true then (if (!y_426.1) = true then (if (y_426.2.1 == 80) = true then (if (y_441.2.1 == 0) = true then (if ((y_441.1.Rows.length : Int) == 2) = true then ((ix y_441.1.Rows 0).bind fun y_523 => ((ix y_523 0).bind fun y_533 => (if (y_533.N == 3) = true then ((ix y_441.1.Rows 1).bind fun y_543 => ((ix y_543 2).bind fun y_553 => (if (y_553.N == 7) = true then (if (y_465.2.1 == 0) = true then (if ((y_465.1.Rows.length : Int) == 1) = true then (if (y_489.2.1 == 50) = true then ((leaf_Leaf_Points y_489.2.2).bind fun y_566 => some (y_566.1 == 2)) else some false) else some false) else some false) else some false))) else some false))) else some false) else some false) else some false) else some false) else some false) else some false) else some false) else some false) else some false) else some false)))))))))))))
def law08_shown : Option Bool :=
  ((law08_load).bind fun y_1 => ((leaf_New y_1 2).bind fun y_12 => (oel y_12.1 (((leaf_New ([] : List api_Schema) 2).bind fun y_33 => (oel y_33.1 (some false) fun y_37 => some false))) fun y_16 => ((leaf_New ([] : List api_Schema) 2).bind fun y_54 => (oel y_54.1 ((if (y_12.2 != 0) = true then (law08_shown.j0 y_16 true) else (law08_shown.j0 y_16 (y_54.2 != 50)))) fun y_58 => (if (y_12.2 != 0) = true then (law08_shown.j1 y_16 true) else (law08_shown.j1 y_16 (y_54.2 != 50))))))))
def ref02_SameCols.l0 (a0 : List api_Col) (a1 : List api_Col) : Nat → Int → Option Bool
  | 0, _ => none
  | k + 1, x_41 => (if (decide (x_41 < (a0.length : Int))) = true then ((ix a0 x_41).bind fun y_100 => ((ix a1 x_41).bind fun y_109 => (if (!decide (y_100 = y_109)) = true then some false else (ref02_SameCols.l0 a0 a1 k (IntKind.i64.wrap (x_41 + 1)))))) else some true)
def ref02_SameCols (a0 : List api_Col) (a1 : List api_Col) : Option Bool :=
  (if ((a0.length : Int) != (a1.length : Int)) = true then some false else (ref02_SameCols.l0 a0 a1 (((a0.length : Int) - 0).toNat + 1) 0))
def ref01_order (a0 : Int) (a1 : Int) : Option Int :=
  (if (decide (a0 < a1)) = true then some (-1) else (if (decide (a0 > a1)) = true then some 1 else some 0))
def ref01_Compare.l2 (a0 : api_Value) (a1 : api_Value) : Nat → Int → Option Int
  | 0, _ => none
  | k + 1, x_100 => (if (decide (x_100 < 8)) = true then ((Arr8.ix a0.H x_100).bind fun y_129 => ((Arr8.ix a1.H x_100).bind fun y_131 => (if (y_129 != y_131) = true then ((Arr8.ix a0.H x_100).bind fun y_140 => ((Arr8.ix a1.H x_100).bind fun y_142 => ((ref01_order y_140 y_142).bind fun y_144 => some y_144))) else (ref01_Compare.l2 a0 a1 k (IntKind.i64.wrap (x_100 + 1)))))) else some 0)
def ref01_Compare.j1 (kl0 : Int → Option Int) (a0 : api_Value) (a1 : api_Value) (x_36 : Int) (x_66 : Bool) : Option Int :=
  (if x_66 = true then ((ixs a0.S x_36).bind fun y_74 => ((ixs a1.S x_36).bind fun y_76 => (if (y_74 != y_76) = true then ((ixs a0.S x_36).bind fun y_85 => ((ixs a1.S x_36).bind fun y_87 => ((ref01_order (IntKind.i64.wrap y_85) (IntKind.i64.wrap y_87)).bind fun y_89 => some y_89))) else (kl0 (IntKind.i64.wrap (x_36 + 1)))))) else (if ((a0.S.size : Int) != (a1.S.size : Int)) = true then ((ref01_order (a0.S.size : Int) (a1.S.size : Int)).bind fun y_92 => some y_92) else (ref01_Compare.l2 a0 a1 (((8 : Int) - 0).toNat + 1) 0)))
def ref01_Compare.l0 (a0 : api_Value) (a1 : api_Value) : Nat → Int → Option Int
  | 0, _ => none
  | k + 1, x_36 => (if (decide (x_36 < (a0.S.size : Int))) = true then (ref01_Compare.j1 (ref01_Compare.l0 a0 a1 k) a0 a1 x_36 (decide (x_36 < (a1.S.size : Int)))) else (ref01_Compare.j1 (ref01_Compare.l0 a0 a1 k) a0 a1 x_36 false))
def ref01_Compare (a0 : api_Value) (a1 : api_Value) : Option Int :=
  (if (a0.Kind != a1.Kind) = true then ((ref01_order a0.Kind a1.Kind).bind fun y_4 => some y_4) else (if (a0.N != a1.N) = true then ((ref01_order a0.N a1.N).bind fun y_7 => some y_7) else (ref01_Compare.l0 a0 a1 (((a0.S.size : Int) - 0).toNat + 1) 0)))
def ref02_Row.j1 (kl0 : Int → Option Int) (a0 : List api_Value) (a1 : List api_Value) (x_48 : Int) (x_98 : Bool) : Option Int :=
  (if x_98 = true then ((ix a0 x_48).bind fun y_122 => ((ix a1 x_48).bind fun y_131 => ((ref01_Compare y_122 y_131).bind fun y_140 => (if (y_140 != 0) = true then some y_140 else (kl0 (IntKind.i64.wrap (x_48 + 1))))))) else (if (decide ((a0.length : Int) < (a1.length : Int))) = true then some (-1) else (if (decide ((a0.length : Int) > (a1.length : Int))) = true then some 1 else some 0)))
def ref02_Row.l0 (a0 : List api_Value) (a1 : List api_Value) : Nat → Int → Option Int
  | 0, _ => none
  | k + 1, x_48 => (if (decide (x_48 < (a0.length : Int))) = true then (ref02_Row.j1 (ref02_Row.l0 a0 a1 k) a0 a1 x_48 (decide (x_48 < (a1.length : Int)))) else (ref02_Row.j1 (ref02_Row.l0 a0 a1 k) a0 a1 x_48 false))
def ref02_Row (a0 : List api_Value) (a1 : List api_Value) : Option Int :=
  (ref02_Row.l0 a0 a1 (((a0.length : Int) - 0).toNat + 1) 0)
def ref02_Same.l1 (a0 : api_Table) (a1 : api_Table) : Nat → Int → Option Bool
  | 0, _ => none
  | k + 1, x_63 => (if (decide (x_63 < (a0.Rows.length : Int))) = true then ((ix a0.Rows x_63).bind fun y_140 => ((ix a1.Rows x_63).bind fun y_151 => ((ref02_Row y_140 y_151).bind fun y_162 => (if (y_162 != 0) = true then some false else (ref02_Same.l1 a0 a1 k (IntKind.i64.wrap (x_63 + 1))))))) else some true)
def ref02_Same.j0 (a0 : api_Table) (a1 : api_Table) (x_6 : Bool) : Option Bool :=
  (if x_6 = true then some false else (ref02_Same.l1 a0 a1 (((a0.Rows.length : Int) - 0).toNat + 1) 0))
def ref02_Same (a0 : api_Table) (a1 : api_Table) : Option Bool :=
  ((ref02_SameCols a0.Cols a1.Cols).bind fun y_8 => (if (!y_8) = true then (ref02_Same.j0 a0 a1 true) else (ref02_Same.j0 a0 a1 ((a0.Rows.length : Int) != (a1.Rows.length : Int)))))
def law08_LeafOnce.j0 : Option Bool :=
  some false
def law08_LeafOnce.j1 : Option Bool :=
  some false
def law08_LeafOnce.j2 : Option Bool :=
  some false
def law08_LeafOnce.j6 (kl4 : (List api_Point) → Int → Option Bool) (a0 : List Int) (a1 : List Int) (x_179 : List api_Point) (x_183 : Int) (x_264 : Int) (x_268 : Int) : Option Bool :=
  ((law08_point (bstr [IntKind.u8.wrap (IntKind.i64.wrap (97 + x_264))]) x_268 (IntKind.i64.wrap ((IntKind.i64.wrap (100 * x_264)) + x_268))).bind fun y_275 => ((apd 72 x_179 [y_275]).bind fun y_294 => (kl4 y_294 (IntKind.i64.wrap (x_183 + 1)))))
def law08_LeafOnce.j5 (kl4 : (List api_Point) → Int → Option Bool) (a0 : List Int) (a1 : List Int) (x_179 : List api_Point) (x_183 : Int) (y_254 : Int) (x_264 : Int) : Option Bool :=
  (if (decide ((y_254.tmod 50) < 0)) = true then (law08_LeafOnce.j6 kl4 a0 a1 x_179 x_183 x_264 (IntKind.i64.wrap (0 - (y_254.tmod 50)))) else (law08_LeafOnce.j6 kl4 a0 a1 x_179 x_183 x_264 (y_254.tmod 50)))
def law08_LeafOnce.j10 (kl9 : (List api_Schema) → Int → Int → Int → (List streams_stream) → (List (ByteArray × Int)) → (List (Int × runs_Run)) → Int → Option Bool) (a0 : List Int) (a1 : List Int) (x_591 : Int) (y_640 : Bool × Int × leaf_Leaf) (x_656 : Bool) : Option Bool :=
  (if x_656 = true then some false else (kl9 y_640.2.2.schemas y_640.2.2.room y_640.2.2.points y_640.2.2.dict.most y_640.2.2.dict.l y_640.2.2.dict.ids y_640.2.2.runs (IntKind.i64.wrap (x_591 + 1))))
def law08_LeafOnce.l9 (a0 : List Int) (a1 : List Int) (x_179 : List api_Point) (x_382 : List api_Schema) (x_383 : Int) (x_384 : Int) (x_386 : Int) (x_388 : List streams_stream) (x_393 : List (ByteArray × Int)) (x_395 : List (Int × runs_Run)) (y_515 : api_Table × Int × leaf_Leaf) : Nat → (List api_Schema) → Int → Int → Int → (List streams_stream) → (List (ByteArray × Int)) → (List (Int × runs_Run)) → Int → Option Bool
  | 0, _, _, _, _, _, _, _, _ => none
  | k + 1, x_575, x_576, x_577, x_579, x_581, x_586, x_588, x_591 => (if (decide (x_591 < (min (min (a0.length : Int) (a1.length : Int)) 100))) = true then ((ix x_179 x_591).bind fun y_628 => ((leaf_Leaf_Write (⟨x_575, x_576, x_577, (⟨x_579, x_581, x_586⟩ : streams_Dict), x_588⟩ : leaf_Leaf) y_628).bind fun y_640 => (if y_640.1 = true then (law08_LeafOnce.j10 (law08_LeafOnce.l9 a0 a1 x_179 x_382 x_383 x_384 x_386 x_388 x_393 x_395 y_515 k) a0 a1 x_591 y_640 true) else (law08_LeafOnce.j10 (law08_LeafOnce.l9 a0 a1 x_179 x_382 x_383 x_384 x_386 x_388 x_393 x_395 y_515 k) a0 a1 x_591 y_640 (y_640.2.1 != 0))))) else ((leaf_Leaf_Scan (⟨x_575, x_576, x_577, (⟨x_579, x_581, x_586⟩ : streams_Dict), x_588⟩ : leaf_Leaf) (⟨#[108, 111, 97, 100]⟩ : ByteArray) 0 100).bind fun y_660 => ((leaf_Leaf_Scan (⟨x_382, x_383, x_384, (⟨x_386, x_388, x_393⟩ : streams_Dict), x_395⟩ : leaf_Leaf) (⟨#[108, 111, 97, 100]⟩ : ByteArray) 0 100).bind fun y_684 => ((ref02_Same y_515.1 y_660.1).bind fun y_708 => ((ref02_Same y_515.1 y_684.1).bind fun y_710 => (if (y_515.2.1 == 0) = true then (if (y_660.2.1 == 0) = true then (if (y_684.2.1 == 0) = true then (if y_708 = true then (if y_710 = true then ((leaf_Leaf_Points y_660.2.2).bind fun y_737 => some (y_737.1 == (y_515.1.Rows.length : Int))) else some false) else some false) else some false) else some false) else some false))))))
def law08_LeafOnce.l8 (a0 : List Int) (a1 : List Int) (x_179 : List api_Point) (x_301 : Int) : Nat → (List api_Schema) → Int → Int → Int → (List streams_stream) → (List (ByteArray × Int)) → (List (Int × runs_Run)) → (List api_Schema) → Int → Int → Int → (List streams_stream) → (List (ByteArray × Int)) → (List (Int × runs_Run)) → Int → Option Bool
  | 0, _, _, _, _, _, _, _, _, _, _, _, _, _, _, _ => none
  | k + 1, x_364, x_365, x_366, x_368, x_370, x_375, x_377, x_382, x_383, x_384, x_386, x_388, x_393, x_395, x_398 => (if (decide (x_398 < (min (min (a0.length : Int) (a1.length : Int)) 100))) = true then ((ix x_179 x_398).bind fun y_459 => ((leaf_Leaf_Write (⟨x_364, x_365, x_366, (⟨x_368, x_370, x_375⟩ : streams_Dict), x_377⟩ : leaf_Leaf) y_459).bind fun y_471 => (if ((min (min (a0.length : Int) (a1.length : Int)) 100) != 0) = true then (if ((min (min (a0.length : Int) (a1.length : Int)) 100) != 0) = true then ((ix x_179 ((IntKind.i64.wrap (x_398 + (x_301.tmod (min (min (a0.length : Int) (a1.length : Int)) 100)))).tmod (min (min (a0.length : Int) (a1.length : Int)) 100))).bind fun y_488 => ((leaf_Leaf_Write (⟨x_382, x_383, x_384, (⟨x_386, x_388, x_393⟩ : streams_Dict), x_395⟩ : leaf_Leaf) y_488).bind fun y_500 => (law08_LeafOnce.l8 a0 a1 x_179 x_301 k y_471.2.2.schemas y_471.2.2.room y_471.2.2.points y_471.2.2.dict.most y_471.2.2.dict.l y_471.2.2.dict.ids y_471.2.2.runs y_500.2.2.schemas y_500.2.2.room y_500.2.2.points y_500.2.2.dict.most y_500.2.2.dict.l y_500.2.2.dict.ids y_500.2.2.runs (IntKind.i64.wrap (x_398 + 1))))) else none) else none))) else ((leaf_Leaf_Scan (⟨x_364, x_365, x_366, (⟨x_368, x_370, x_375⟩ : streams_Dict), x_377⟩ : leaf_Leaf) (⟨#[108, 111, 97, 100]⟩ : ByteArray) 0 100).bind fun y_515 => (law08_LeafOnce.l9 a0 a1 x_179 x_382 x_383 x_384 x_386 x_388 x_393 x_395 y_515 (((min (min (a0.length : Int) (a1.length : Int)) 100) - 0).toNat + 1) y_515.2.2.schemas y_515.2.2.room y_515.2.2.points y_515.2.2.dict.most y_515.2.2.dict.l y_515.2.2.dict.ids y_515.2.2.runs 0)))
def law08_LeafOnce.j7 (a0 : List Int) (a1 : List Int) (y_18 : leaf_Leaf) (y_88 : leaf_Leaf) (x_179 : List api_Point) (x_301 : Int) : Option Bool :=
  (law08_LeafOnce.l8 a0 a1 x_179 x_301 (((min (min (a0.length : Int) (a1.length : Int)) 100) - 0).toNat + 1) y_18.schemas y_18.room y_18.points y_18.dict.most y_18.dict.l y_18.dict.ids y_18.runs y_88.schemas y_88.room y_88.points y_88.dict.most y_88.dict.l y_88.dict.ids y_88.runs 0)
def law08_LeafOnce.l4 (a0 : List Int) (a1 : List Int) (a2 : Int) (y_18 : leaf_Leaf) (y_88 : leaf_Leaf) : Nat → (List api_Point) → Int → Option Bool
  | 0, _, _ => none
  | k + 1, x_179, x_183 => (if (decide (x_183 < (min (min (a0.length : Int) (a1.length : Int)) 100))) = true then ((ix a0 x_183).bind fun y_245 => ((ix a1 x_183).bind fun y_254 => (if (decide ((y_245.tmod 7) < 0)) = true then (law08_LeafOnce.j5 (law08_LeafOnce.l4 a0 a1 a2 y_18 y_88 k) a0 a1 x_179 x_183 y_254 (IntKind.i64.wrap (0 - (y_245.tmod 7)))) else (law08_LeafOnce.j5 (law08_LeafOnce.l4 a0 a1 a2 y_18 y_88 k) a0 a1 x_179 x_183 y_254 (y_245.tmod 7))))) else (if (decide (a2 < 0)) = true then (law08_LeafOnce.j7 a0 a1 y_18 y_88 x_179 (IntKind.i64.wrap (0 - (IntKind.i64.wrap (a2 + 1))))) else (law08_LeafOnce.j7 a0 a1 y_18 y_88 x_179 a2)))
def law08_LeafOnce.j3 (a0 : List Int) (a1 : List Int) (a2 : Int) (y_18 : leaf_Leaf) (y_88 : leaf_Leaf) (x_110 : Bool) : Option Bool :=
  (if x_110 = true then some false else (law08_LeafOnce.l4 a0 a1 a2 y_18 y_88 (((min (min (a0.length : Int) (a1.length : Int)) 100) - 0).toNat + 1) [] 0))
def law08_LeafOnce (a0 : List Int) (a1 : List Int) (a2 : Int) : Option Bool :=
  ((law08_shown).bind fun y_1 => ((law08_load).bind fun y_3 => ((leaf_New y_3 1000).bind fun y_14 => (oel y_14.1 (((law08_load).bind fun y_35 => ((leaf_New y_35 1000).bind fun y_46 => (oel y_46.1 ((if (!y_1) = true then (law08_LeafOnce.j0) else (law08_LeafOnce.j0))) fun y_50 => (if (!y_1) = true then (law08_LeafOnce.j1) else (law08_LeafOnce.j1)))))) fun y_18 => ((law08_load).bind fun y_73 => ((leaf_New y_73 1000).bind fun y_84 => (oel y_84.1 ((if (!y_1) = true then (law08_LeafOnce.j2) else (law08_LeafOnce.j2))) fun y_88 => (if (!y_1) = true then (law08_LeafOnce.j3 a0 a1 a2 y_18 y_88 true) else (if (y_14.2 != 0) = true then (law08_LeafOnce.j3 a0 a1 a2 y_18 y_88 true) else (law08_LeafOnce.j3 a0 a1 a2 y_18 y_88 (y_84.2 != 0)))))))))))
end
end Go.Proofs.YtchgiggipimigaaGreatDoor.M
end
