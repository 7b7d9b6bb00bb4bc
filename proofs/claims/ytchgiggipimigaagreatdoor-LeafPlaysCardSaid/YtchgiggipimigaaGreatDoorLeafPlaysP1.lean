/- For the law LeafPlays: the functions that it comes to, as plain Lean functions (none: Go would panic, or the bound on rounds is used up); nothing is proved here. -/
import Derived.Lib.IndexMore
import Derived.Shelf.Strconv.Itoa3
import Derived.Test.YtchgiggipimigaaGreatDoorLeafPlaysE2
section
namespace Go.Proofs.YtchgiggipimigaaGreatDoor.M
open Go Go.Eng Go.Proofs Go.RowKit
set_option linter.unusedVariables false
set_option maxRecDepth 100000
noncomputable section
structure api_Col where
  Name : ByteArray
  Kind : Int
  deriving DecidableEq
def ty_api_Col : Ty api_Col := Ty.flat 2 (fun x => [.string x.Name, .int .i64 x.Kind]) (fun _ => rfl) (fun _ => all_cons rfl (all_cons rfl (all_nil)))
def ok_api_Col (x : api_Col) : Prop := (fun s => s.size ≤ 140737488351232) x.Name ∧ (fun x => (Lit.int .i64 x).wf = true) x.Kind
structure api_Schema where
  Name : ByteArray
  Keys : List api_Col
  Vals : List api_Col
  deriving DecidableEq
def ty_api_Schema : Ty api_Schema where
  n := 3
  rep := fun R cs x => ∃ v0 v1, cs = [.string x.Name, v0, v1] ∧ SlR ty_api_Col R v0 x.Keys ∧ SlR ty_api_Col R v1 x.Vals
  mono := fun hR ⟨v0, v1, h, h0, h1⟩ => ⟨v0, v1, h, h0.mono hR, h1.mono hR⟩
  len := fun ⟨v0, v1, h, h0, h1⟩ => by subst h; rfl
  one := fun ⟨v0, v1, h, h0, h1⟩ => by subst h; exact all_cons rfl (all_cons h0.one (all_cons h1.one (all_nil)))
def ok_api_Schema (x : api_Schema) : Prop := (fun s => s.size ≤ 140737488351232) x.Name ∧ (fun xs => xs.length * 24 ≤ 140737488351232 ∧ ∀ x ∈ xs, ok_api_Col x) x.Keys ∧ (fun xs => xs.length * 24 ≤ 140737488351232 ∧ ∀ x ∈ xs, ok_api_Col x) x.Vals
structure api_Value where
  Kind : Int
  N : Int
  S : ByteArray
  H : Arr8
  deriving DecidableEq
def ty_api_Value : Ty api_Value := Ty.flat 11 (fun x => [.int .i64 x.Kind, .int .i64 x.N, .string x.S, .int .i64 x.H.a0, .int .i64 x.H.a1, .int .i64 x.H.a2, .int .i64 x.H.a3, .int .i64 x.H.a4, .int .i64 x.H.a5, .int .i64 x.H.a6, .int .i64 x.H.a7]) (fun _ => rfl) (fun _ => all_cons rfl (all_cons rfl (all_cons rfl (all_cons rfl (all_cons rfl (all_cons rfl (all_cons rfl (all_cons rfl (all_cons rfl (all_cons rfl (all_cons rfl (all_nil))))))))))))
def ok_api_Value (x : api_Value) : Prop := (fun x => (Lit.int .i64 x).wf = true) x.Kind ∧ (fun x => (Lit.int .i64 x).wf = true) x.N ∧ (fun s => s.size ≤ 140737488351232) x.S ∧ ok_Arr8 x.H
structure streams_stream where
  name : ByteArray
  keys : List api_Value
  deriving DecidableEq
def ty_streams_stream : Ty streams_stream where
  n := 2
  rep := fun R cs x => ∃ v0, cs = [.string x.name, v0] ∧ SlR ty_api_Value R v0 x.keys
  mono := fun hR ⟨v0, h, h0⟩ => ⟨v0, h, h0.mono hR⟩
  len := fun ⟨v0, h, h0⟩ => by subst h; rfl
  one := fun ⟨v0, h, h0⟩ => by subst h; exact all_cons rfl (all_cons h0.one (all_nil))
structure streams_Dict where
  most : Int
  l : List streams_stream
  ids : List (ByteArray × Int)
  deriving DecidableEq
structure api_Sample where
  Time : Int
  Vals : List api_Value
  deriving DecidableEq
def ty_api_Sample : Ty api_Sample where
  n := 2
  rep := fun R cs x => ∃ v0, cs = [.int .i64 x.Time, v0] ∧ SlR ty_api_Value R v0 x.Vals
  mono := fun hR ⟨v0, h, h0⟩ => ⟨v0, h, h0.mono hR⟩
  len := fun ⟨v0, h, h0⟩ => by subst h; rfl
  one := fun ⟨v0, h, h0⟩ => by subst h; exact all_cons rfl (all_cons h0.one (all_nil))
structure runs_Run where
  l : List api_Sample
  deriving DecidableEq
structure leaf_Leaf where
  schemas : List api_Schema
  room : Int
  points : Int
  dict : streams_Dict
  runs : List (Int × runs_Run)
  deriving DecidableEq
structure api_Point where
  Schema : ByteArray
  Keys : List api_Value
  Time : Int
  Vals : List api_Value
  deriving DecidableEq
def ty_api_Point : Ty api_Point where
  n := 4
  rep := fun R cs x => ∃ v0 v1, cs = [.string x.Schema, v0, .int .i64 x.Time, v1] ∧ SlR ty_api_Value R v0 x.Keys ∧ SlR ty_api_Value R v1 x.Vals
  mono := fun hR ⟨v0, v1, h, h0, h1⟩ => ⟨v0, v1, h, h0.mono hR, h1.mono hR⟩
  len := fun ⟨v0, v1, h, h0, h1⟩ => by subst h; rfl
  one := fun ⟨v0, v1, h, h0, h1⟩ => by subst h; exact all_cons rfl (all_cons h0.one (all_cons rfl (all_cons h1.one (all_nil))))
def ok_api_Point (x : api_Point) : Prop := (fun s => s.size ≤ 140737488351232) x.Schema ∧ (fun xs => xs.length * 96 ≤ 140737488351232 ∧ ∀ x ∈ xs, ok_api_Value x) x.Keys ∧ (fun x => (Lit.int .i64 x).wf = true) x.Time ∧ (fun xs => xs.length * 96 ≤ 140737488351232 ∧ ∀ x ∈ xs, ok_api_Value x) x.Vals
structure api_Table where
  Cols : List api_Col
  Rows : List (List api_Value)
  deriving DecidableEq
structure catchmentref08_Leaf where
  S : List api_Schema
  Room : Int
  L : List api_Point
  deriving DecidableEq
def law08_load : Option (List api_Schema) :=
  some [(⟨(⟨#[108, 111, 97, 100]⟩ : ByteArray), [(⟨(⟨#[104, 111, 115, 116]⟩ : ByteArray), 2⟩ : api_Col)], [(⟨(⟨#[110]⟩ : ByteArray), 1⟩ : api_Col)]⟩ : api_Schema)]
def table_Name.j2 (kl0 : Int → Option Bool) (a0 : ByteArray) (x_11 : Int) : Option Bool :=
  (kl0 (IntKind.i64.wrap (x_11 + 1)))
def table_Name.j3 (kl0 : Int → Option Bool) (a0 : ByteArray) (x_11 : Int) (x_77 : Bool) : Option Bool :=
  (if x_77 = true then (table_Name.j2 kl0 a0 x_11) else some false)
def table_Name.j1 (kl0 : Int → Option Bool) (a0 : ByteArray) (x_11 : Int) (y_50 : Int) (x_53 : Bool) : Option Bool :=
  (if x_53 = true then (table_Name.j2 kl0 a0 x_11) else (if (decide (x_11 > 0)) = true then (if (decide (y_50 ≥ 48)) = true then (if (decide (y_50 ≤ 57)) = true then (table_Name.j3 kl0 a0 x_11 true) else (if (y_50 == 95) = true then (table_Name.j3 kl0 a0 x_11 true) else (table_Name.j3 kl0 a0 x_11 (y_50 == 35)))) else (if (y_50 == 95) = true then (table_Name.j3 kl0 a0 x_11 true) else (table_Name.j3 kl0 a0 x_11 (y_50 == 35)))) else (table_Name.j3 kl0 a0 x_11 false)))
def table_Name.l0 (a0 : ByteArray) : Nat → Int → Option Bool
  | 0, _ => none
  | k + 1, x_11 => (if (decide (x_11 < (a0.size : Int))) = true then ((ixs a0 x_11).bind fun y_50 => (if (decide (y_50 ≥ 97)) = true then (table_Name.j1 (table_Name.l0 a0 k) a0 x_11 y_50 (decide (y_50 ≤ 122))) else (table_Name.j1 (table_Name.l0 a0 k) a0 x_11 y_50 false))) else (if (decide ((a0.size : Int) ≥ 1)) = true then some (decide ((a0.size : Int) ≤ 24)) else some false))
def table_Name (a0 : ByteArray) : Option Bool :=
  (table_Name.l0 a0 (((a0.size : Int) - 0).toNat + 1) 0)
def strings_Contains (a0 : ByteArray) (a1 : ByteArray) : Option Bool := if a0.size < 4294967281 then some (Lib.contains a0.data.toList a1.data.toList) else none
def schema_Word (a0 : ByteArray) : Option Bool :=
  ((table_Name a0).bind fun y_1 => (if y_1 = true then ((strings_Contains a0 (⟨#[35]⟩ : ByteArray)).bind fun y_4 => (if (!y_4) = true then (if (decide ((⟨#[32]⟩ : ByteArray).size + a0.size ≤ 9223372036854775807)) = true then (if (decide (((⟨#[32]⟩ : ByteArray) ++ a0).size + (⟨#[32]⟩ : ByteArray).size ≤ 9223372036854775807)) = true then ((strings_Contains (⟨#[32, 102, 101, 116, 99, 104, 32, 102, 114, 111, 109, 32, 116, 111, 32, 119, 104, 101, 114, 101, 32, 107, 101, 101, 112, 32, 97, 108, 105, 103, 110, 32, 103, 114, 111, 117, 112, 32, 116, 111, 112, 32, 98, 121, 32, 106, 111, 105, 110, 32, 117, 110, 105, 111, 110, 32, 97, 110, 100, 32, 111, 114, 32, 110, 111, 116, 32, 104, 97, 115, 32, 116, 114, 117, 101, 32, 102, 97, 108, 115, 101, 32, 99, 111, 117, 110, 116, 32, 115, 117, 109, 32, 109, 105, 110, 32, 109, 97, 120, 32, 109, 101, 97, 110, 32, 109, 101, 114, 103, 101, 32, 116, 105, 109, 101, 32]⟩ : ByteArray) (((⟨#[32]⟩ : ByteArray) ++ a0) ++ (⟨#[32]⟩ : ByteArray))).bind fun y_9 => some (!y_9)) else none) else none) else some false)) else some false))
def schema_one_1 (a0 : api_Col) : Option Bool :=
  ((schema_Word a0.Name).bind fun y_2 => some y_2)
def schema_all_f_schema_one_1.l1 (kl0 : Int → Option Bool) (a1 : List (List api_Col)) (x_59 : Int) (y_119 : List api_Col) : Nat → Int → Option Bool
  | 0, _ => none
  | k + 1, x_145 => (if (decide (x_145 < (y_119.length : Int))) = true then ((ix y_119 x_145).bind fun y_162 => ((schema_one_1 y_162).bind fun y_172 => (if (!y_172) = true then some false else (schema_all_f_schema_one_1.l1 kl0 a1 x_59 y_119 k (IntKind.i64.wrap (x_145 + 1)))))) else (kl0 (IntKind.i64.wrap (x_59 + 1))))
def schema_all_f_schema_one_1.l0 (a1 : List (List api_Col)) : Nat → Int → Option Bool
  | 0, _ => none
  | k + 1, x_59 => (if (decide (x_59 < (a1.length : Int))) = true then ((ix a1 x_59).bind fun y_119 => (schema_all_f_schema_one_1.l1 (schema_all_f_schema_one_1.l0 a1 k) a1 x_59 y_119 (((y_119.length : Int) - 0).toNat + 1) 0)) else some true)
def schema_all_f_schema_one_1 (a1 : List (List api_Col)) : Option Bool :=
  (schema_all_f_schema_one_1.l0 a1 (((a1.length : Int) - 0).toNat + 1) 0)
def schema_one_2 (a0 : api_Col) : Option Bool :=
  some (a0.Kind != 4)
def schema_all_f_schema_one_2.l1 (kl0 : Int → Option Bool) (a1 : List (List api_Col)) (x_59 : Int) (y_119 : List api_Col) : Nat → Int → Option Bool
  | 0, _ => none
  | k + 1, x_145 => (if (decide (x_145 < (y_119.length : Int))) = true then ((ix y_119 x_145).bind fun y_162 => ((schema_one_2 y_162).bind fun y_172 => (if (!y_172) = true then some false else (schema_all_f_schema_one_2.l1 kl0 a1 x_59 y_119 k (IntKind.i64.wrap (x_145 + 1)))))) else (kl0 (IntKind.i64.wrap (x_59 + 1))))
def schema_all_f_schema_one_2.l0 (a1 : List (List api_Col)) : Nat → Int → Option Bool
  | 0, _ => none
  | k + 1, x_59 => (if (decide (x_59 < (a1.length : Int))) = true then ((ix a1 x_59).bind fun y_119 => (schema_all_f_schema_one_2.l1 (schema_all_f_schema_one_2.l0 a1 k) a1 x_59 y_119 (((y_119.length : Int) - 0).toNat + 1) 0)) else some true)
def schema_all_f_schema_one_2 (a1 : List (List api_Col)) : Option Bool :=
  (schema_all_f_schema_one_2.l0 a1 (((a1.length : Int) - 0).toNat + 1) 0)
def slices_Grow_api_Col_api_Col (a0 : List api_Col) (a1 : Int) : Option (List api_Col) := grow0 24 a0 a1
def slices_Concat_api_Col_api_Col.l1 (a0 : List (List api_Col)) : Nat → (List api_Col) → Int → Option (List api_Col)
  | 0, _, _ => none
  | k + 1, x_75, x_79 => (if (decide (x_79 < (a0.length : Int))) = true then ((ix a0 x_79).bind fun y_100 => ((apd 24 x_75 y_100).bind fun y_111 => (slices_Concat_api_Col_api_Col.l1 a0 k y_111 (IntKind.i64.wrap (x_79 + 1))))) else some x_75)
def slices_Concat_api_Col_api_Col.l0 (a0 : List (List api_Col)) : Nat → Int → Int → Option (List api_Col)
  | 0, _, _ => none
  | k + 1, x_16, x_17 => (if (decide (x_17 < (a0.length : Int))) = true then ((ix a0 x_17).bind fun y_34 => (if (decide ((IntKind.i64.wrap (x_16 + (y_34.length : Int))) < 0)) = true then none else (slices_Concat_api_Col_api_Col.l0 a0 k (IntKind.i64.wrap (x_16 + (y_34.length : Int))) (IntKind.i64.wrap (x_17 + 1))))) else ((slices_Grow_api_Col_api_Col ([] : List api_Col) x_16).bind fun y_47 => (slices_Concat_api_Col_api_Col.l1 a0 (((a0.length : Int) - 0).toNat + 1) y_47 0)))
def slices_Concat_api_Col_api_Col (a0 : List (List api_Col)) : Option (List api_Col) :=
  (slices_Concat_api_Col_api_Col.l0 a0 (((a0.length : Int) - 0).toNat + 1) 0 0)
def table_Find_1_cp (a0 : api_Col) (a1 : ByteArray) : Option Bool :=
  some (a0.Name.toList == a1.toList)
def slices_IndexFunc_api_Col_api_Col_f_table_Find_1p.l0 (a0 : List api_Col) (a1_0 : ByteArray) : Nat → Int → Option Int
  | 0, _ => none
  | k + 1, x_15 => (if (decide (x_15 < (a0.length : Int))) = true then ((ix a0 x_15).bind fun y_31 => ((table_Find_1_cp y_31 a1_0).bind fun y_40 => (if y_40 = true then some x_15 else (slices_IndexFunc_api_Col_api_Col_f_table_Find_1p.l0 a0 a1_0 k (IntKind.i64.wrap (x_15 + 1)))))) else some (-1))
def slices_IndexFunc_api_Col_api_Col_f_table_Find_1p (a0 : List api_Col) (a1_0 : ByteArray) : Option Int :=
  (slices_IndexFunc_api_Col_api_Col_f_table_Find_1p.l0 a0 a1_0 (((a0.length : Int) - 0).toNat + 1) 0)
def table_Find (a0 : List api_Col) (a1 : ByteArray) : Option Int :=
  ((slices_IndexFunc_api_Col_api_Col_f_table_Find_1p a0 a1).bind fun y_2 => some y_2)
def table_columns.j1 (kl0 : Int → Option Bool) (a0 : List api_Col) (x_30 : Int) (x_78 : Bool) : Option Bool :=
  (if x_78 = true then some false else (kl0 (IntKind.i64.wrap (x_30 + 1))))
def table_columns.l0 (a0 : List api_Col) : Nat → Int → Option Bool
  | 0, _ => none
  | k + 1, x_30 => (if (decide (x_30 < (a0.length : Int))) = true then ((ix a0 x_30).bind fun y_61 => ((table_Name y_61.Name).bind fun y_80 => (if (!y_80) = true then (table_columns.j1 (table_columns.l0 a0 k) a0 x_30 true) else (if (decide (y_61.Kind < 1)) = true then (table_columns.j1 (table_columns.l0 a0 k) a0 x_30 true) else (if (decide (y_61.Kind > 4)) = true then (table_columns.j1 (table_columns.l0 a0 k) a0 x_30 true) else ((table_Find a0 y_61.Name).bind fun y_85 => (table_columns.j1 (table_columns.l0 a0 k) a0 x_30 (y_85 != x_30)))))))) else (if (decide ((a0.length : Int) ≥ 1)) = true then some (decide ((a0.length : Int) ≤ 16)) else some false))
def table_columns (a0 : List api_Col) : Option Bool :=
  (table_columns.l0 a0 (((a0.length : Int) - 0).toNat + 1) 0)
def value_Valid.j0 (x_59 : Int) (x_60 : ByteArray) (x_61 : Arr8) (x_62 : Bool) : Option Bool :=
  (if x_62 = true then some (decide ((⟨0, x_59, x_60, x_61⟩ : api_Value) = (⟨0, 0, (⟨#[]⟩ : ByteArray), (⟨0, 0, 0, 0, 0, 0, 0, 0⟩ : Arr8)⟩ : api_Value))) else some false)
def value_Valid.j1 (x_90 : Int) (x_91 : ByteArray) (x_92 : Arr8) (x_93 : Bool) : Option Bool :=
  (value_Valid.j0 x_90 x_91 x_92 x_93)
def value_Valid.j2 (a0 : api_Value) (x_106 : Int) (x_107 : Arr8) (x_108 : Bool) : Option Bool :=
  (value_Valid.j1 x_106 a0.S x_107 x_108)
def value_Valid.j3 (a0 : api_Value) (x_112 : Bool) : Option Bool :=
  (value_Valid.j2 a0 0 a0.H x_112)
def value_Valid.j4 (a0 : api_Value) (x_116 : Arr8) (x_117 : Bool) : Option Bool :=
  (value_Valid.j2 a0 a0.N x_116 x_117)
def value_Valid (a0 : api_Value) : Option Bool :=
  (if (a0.Kind == 1) = true then (value_Valid.j0 0 a0.S a0.H true) else (if (a0.Kind == 2) = true then (value_Valid.j1 a0.N (⟨#[]⟩ : ByteArray) a0.H (decide ((a0.S.size : Int) ≤ 64))) else (if (a0.Kind == 3) = true then (if (a0.N == 0) = true then (value_Valid.j3 a0 true) else (value_Valid.j3 a0 (a0.N == 1))) else (if (a0.Kind == 4) = true then (value_Valid.j4 a0 (⟨0, 0, 0, 0, 0, 0, 0, 0⟩ : Arr8) true) else (value_Valid.j4 a0 a0.H false)))))
def table_Check.j2 (kl1 : Int → Option Int) (y_413 : List api_Value) (x_488 : Int) (x_587 : Bool) : Option Int :=
  (if x_587 = true then some 21 else (kl1 (IntKind.i64.wrap (x_488 + 1))))
def table_Check.l1 (kl0 : Int → Option Int) (a0 : api_Table) (x_208 : Int) (y_413 : List api_Value) : Nat → Int → Option Int
  | 0, _ => none
  | k + 1, x_488 => (if (decide (x_488 < (y_413.length : Int))) = true then ((ix y_413 x_488).bind fun y_553 => ((ix a0.Cols x_488).bind fun y_601 => (if (y_553.Kind != y_601.Kind) = true then (table_Check.j2 (table_Check.l1 kl0 a0 x_208 y_413 k) y_413 x_488 true) else ((value_Valid y_553).bind fun y_611 => (table_Check.j2 (table_Check.l1 kl0 a0 x_208 y_413 k) y_413 x_488 (!y_611)))))) else (kl0 (IntKind.i64.wrap (x_208 + 1))))
def table_Check.l0 (a0 : api_Table) : Nat → Int → Option Int
  | 0, _ => none
  | k + 1, x_208 => (if (decide (x_208 < (a0.Rows.length : Int))) = true then ((ix a0.Rows x_208).bind fun y_413 => (if ((y_413.length : Int) != (a0.Cols.length : Int)) = true then some 21 else (table_Check.l1 (table_Check.l0 a0 k) a0 x_208 y_413 (((y_413.length : Int) - 0).toNat + 1) 0))) else some 0)
def table_Check (a0 : api_Table) : Option Int :=
  ((table_columns a0.Cols).bind fun y_2 => (if (!y_2) = true then some 20 else (table_Check.l0 a0 (((a0.Rows.length : Int) - 0).toNat + 1) 0)))
def schema_one.j0 (a0 : api_Schema) (y_7 : Bool) (y_10 : Bool) (x_15 : Bool) : Option Bool :=
  (if x_15 = true then (if y_7 = true then (if y_10 = true then ((slices_Concat_api_Col_api_Col [a0.Keys, a0.Vals]).bind fun y_24 => ((table_Check (⟨y_24, []⟩ : api_Table)).bind fun y_33 => some (y_33 == 0))) else some false) else some false) else some false)
def schema_one (a0 : api_Schema) : Option Bool :=
  ((schema_all_f_schema_one_1 [a0.Keys, a0.Vals, [(⟨a0.Name, 0⟩ : api_Col)]]).bind fun y_7 => ((schema_all_f_schema_one_2 [a0.Keys]).bind fun y_10 => (if (decide ((a0.Keys.length : Int) ≥ 1)) = true then (if (decide ((a0.Keys.length : Int) ≤ 4)) = true then (if (decide ((a0.Vals.length : Int) ≥ 1)) = true then (schema_one.j0 a0 y_7 y_10 (decide ((a0.Vals.length : Int) ≤ 4))) else (schema_one.j0 a0 y_7 y_10 false)) else (schema_one.j0 a0 y_7 y_10 false)) else (schema_one.j0 a0 y_7 y_10 false))))
def schema_Check_1_cp (a0 : api_Schema) (a1 : api_Schema) : Option Bool :=
  some (a0.Name.toList == a1.Name.toList)
def slices_IndexFunc_api_Schema_api_Schema_f_schema_Check_1p.l0 (a0 : List api_Schema) (a1_0 : api_Schema) : Nat → Int → Option Int
  | 0, _ => none
  | k + 1, x_19 => (if (decide (x_19 < (a0.length : Int))) = true then ((ix a0 x_19).bind fun y_39 => ((schema_Check_1_cp y_39 a1_0).bind fun y_52 => (if y_52 = true then some x_19 else (slices_IndexFunc_api_Schema_api_Schema_f_schema_Check_1p.l0 a0 a1_0 k (IntKind.i64.wrap (x_19 + 1)))))) else some (-1))
def slices_IndexFunc_api_Schema_api_Schema_f_schema_Check_1p (a0 : List api_Schema) (a1_0 : api_Schema) : Option Int :=
  (slices_IndexFunc_api_Schema_api_Schema_f_schema_Check_1p.l0 a0 a1_0 (((a0.length : Int) - 0).toNat + 1) 0)
def slices_ContainsFunc_api_Schema_api_Schema_f_schema_Check_1p (a0 : List api_Schema) (a1_0 : api_Schema) : Option Bool :=
  ((slices_IndexFunc_api_Schema_api_Schema_f_schema_Check_1p a0 a1_0).bind fun y_1 => some (decide (y_1 ≥ 0)))
def schema_Check.j2 (kl1 : Int → Option Int) (a0 : List api_Schema) (x_45 : Int) (x_110 : Bool) : Option Int :=
  (if x_110 = true then some 50 else (kl1 (IntKind.i64.wrap (x_45 + 1))))
def schema_Check.l1 (a0 : List api_Schema) : Nat → Int → Option Int
  | 0, _ => none
  | k + 1, x_45 => (if (decide (x_45 < (a0.length : Int))) = true then ((ix a0 x_45).bind fun y_86 => ((schema_one y_86).bind fun y_112 => (if (!y_112) = true then (schema_Check.j2 (schema_Check.l1 a0 k) a0 x_45 true) else ((cut a0 0 x_45).bind fun y_115 => ((slices_ContainsFunc_api_Schema_api_Schema_f_schema_Check_1p y_115 y_86).bind fun y_120 => (schema_Check.j2 (schema_Check.l1 a0 k) a0 x_45 y_120)))))) else some 0)
def schema_Check.j0 (a0 : List api_Schema) (x_2 : Bool) : Option Int :=
  (if x_2 = true then some 50 else (schema_Check.l1 a0 (((a0.length : Int) - 0).toNat + 1) 0))
def schema_Check (a0 : List api_Schema) : Option Int :=
  (if (decide ((a0.length : Int) < 1)) = true then (schema_Check.j0 a0 true) else (schema_Check.j0 a0 (decide ((a0.length : Int) > 8))))
def slices_Clone_api_Col_api_Col (a0 : List api_Col) : Option (List api_Col) :=
  ((apd 24 ([] : List api_Col) a0).bind fun y_4 => some y_4)
def streams_New (a0 : Int) : Option streams_Dict :=
  some (⟨a0, ([] : List streams_stream), ([] : List (ByteArray × Int))⟩ : streams_Dict)
def leaf_New.l0 (a0 : List api_Schema) (a1 : Int) : Nat → (List api_Schema) → Int → Option ((Option leaf_Leaf) × Int)
  | 0, _, _ => none
  | k + 1, x_95, x_99 => (if (decide (x_99 < (a0.length : Int))) = true then ((ix a0 x_99).bind fun y_182 => ((slices_Clone_api_Col_api_Col y_182.Keys).bind fun y_227 => ((slices_Clone_api_Col_api_Col y_182.Vals).bind fun y_235 => ((apd 64 x_95 [(⟨y_182.Name, y_227, y_235⟩ : api_Schema)]).bind fun y_252 => (leaf_New.l0 a0 a1 k y_252 (IntKind.i64.wrap (x_99 + 1))))))) else ((streams_New a1).bind fun y_258 => some ((some (⟨x_95, a1, 0, y_258, ([] : List (Int × runs_Run))⟩ : leaf_Leaf)), 0)))
def leaf_New (a0 : List api_Schema) (a1 : Int) : Option ((Option leaf_Leaf) × Int) :=
  ((schema_Check a0).bind fun y_1 => (if (y_1 != 0) = true then some (none, y_1) else (leaf_New.l0 a0 a1 (((a0.length : Int) - 0).toNat + 1) [] 0)))
def law08_point (a0 : ByteArray) (a1 : Int) (a2 : Int) : Option api_Point :=
  some (⟨(⟨#[108, 111, 97, 100]⟩ : ByteArray), [(⟨2, 0, a0, (⟨0, 0, 0, 0, 0, 0, 0, 0⟩ : Arr8)⟩ : api_Value)], a1, [(⟨1, a2, (⟨#[]⟩ : ByteArray), (⟨0, 0, 0, 0, 0, 0, 0, 0⟩ : Arr8)⟩ : api_Value)]⟩ : api_Point)
def schema_Find.l0 (a0 : List api_Schema) (a1 : ByteArray) : Nat → Int → Option (api_Schema × Bool)
  | 0, _ => none
  | k + 1, x_19 => (if (decide (x_19 < (a0.length : Int))) = true then ((ix a0 x_19).bind fun y_38 => (if (y_38.Name.toList == a1.toList) = true then some (y_38, true) else (schema_Find.l0 a0 a1 k (IntKind.i64.wrap (x_19 + 1))))) else some ((⟨(⟨#[]⟩ : ByteArray), [], []⟩ : api_Schema), false))
def schema_Find (a0 : List api_Schema) (a1 : ByteArray) : Option (api_Schema × Bool) :=
  (schema_Find.l0 a0 a1 (((a0.length : Int) - 0).toNat + 1) 0)
def schema_fit_1 (a0 : api_Value) (a1 : api_Col) : Option Bool :=
  (if (a0.Kind == a1.Kind) = true then ((value_Valid a0).bind fun y_4 => some y_4) else some false)
def slices_EqualFunc_api_Value_api_Col_api_Value_api_Col_f_schema_fit_1.l0 (a0 : List api_Value) (a1 : List api_Col) : Nat → Int → Option Bool
  | 0, _ => none
  | k + 1, x_27 => (if (decide (x_27 < (a0.length : Int))) = true then ((ix a0 x_27).bind fun y_54 => ((ix a1 x_27).bind fun y_64 => ((schema_fit_1 y_54 y_64).bind fun y_74 => (if (!y_74) = true then some false else (slices_EqualFunc_api_Value_api_Col_api_Value_api_Col_f_schema_fit_1.l0 a0 a1 k (IntKind.i64.wrap (x_27 + 1))))))) else some true)
def slices_EqualFunc_api_Value_api_Col_api_Value_api_Col_f_schema_fit_1 (a0 : List api_Value) (a1 : List api_Col) : Option Bool :=
  (if ((a0.length : Int) != (a1.length : Int)) = true then some false else (slices_EqualFunc_api_Value_api_Col_api_Value_api_Col_f_schema_fit_1.l0 a0 a1 (((a0.length : Int) - 0).toNat + 1) 0))
def schema_fit (a0 : List api_Value) (a1 : List api_Col) : Option Bool :=
  ((slices_EqualFunc_api_Value_api_Col_api_Value_api_Col_f_schema_fit_1 a0 a1).bind fun y_1 => some y_1)
def schema_Fits.j0 (x_29 : Bool) : Option Int :=
  (if x_29 = true then some 51 else some 0)
def schema_Fits.j1 (x_39 : Bool) : Option Int :=
  (schema_Fits.j0 x_39)
def schema_Fits.j2 (x_43 : Bool) : Option Int :=
  (schema_Fits.j1 x_43)
def schema_Fits (a0 : List api_Schema) (a1 : api_Point) : Option Int :=
  ((schema_Find a0 a1.Schema).bind fun y_2 => (if (!y_2.2) = true then some 50 else ((schema_fit a1.Keys y_2.1.Keys).bind fun y_12 => (if (!y_12) = true then (schema_Fits.j0 (!y_12)) else ((schema_fit a1.Vals y_2.1.Vals).bind fun y_32 => (if (!y_32) = true then (schema_Fits.j1 (!y_32)) else (if (decide (a1.Time < 0)) = true then (schema_Fits.j2 (decide (a1.Time < 0))) else (schema_Fits.j2 (decide (a1.Time ≥ 1099511627776))))))))))
def streams_Dict_Find_1 (a0 : api_Value) : Option Bool :=
  ((value_Valid a0).bind fun y_2 => some (!y_2))
def slices_IndexFunc_api_Value_api_Value_f_streams_Dict_Find_1.l0 (a0 : List api_Value) : Nat → Int → Option Int
  | 0, _ => none
  | k + 1, x_15 => (if (decide (x_15 < (a0.length : Int))) = true then ((ix a0 x_15).bind fun y_31 => ((streams_Dict_Find_1 y_31).bind fun y_40 => (if y_40 = true then some x_15 else (slices_IndexFunc_api_Value_api_Value_f_streams_Dict_Find_1.l0 a0 k (IntKind.i64.wrap (x_15 + 1)))))) else some (-1))
def slices_IndexFunc_api_Value_api_Value_f_streams_Dict_Find_1 (a0 : List api_Value) : Option Int :=
  (slices_IndexFunc_api_Value_api_Value_f_streams_Dict_Find_1.l0 a0 (((a0.length : Int) - 0).toNat + 1) 0)
def slices_ContainsFunc_api_Value_api_Value_f_streams_Dict_Find_1 (a0 : List api_Value) : Option Bool :=
  ((slices_IndexFunc_api_Value_api_Value_f_streams_Dict_Find_1 a0).bind fun y_1 => some (decide (y_1 ≥ 0)))
def strconv_Itoa (a0 : Int) : Option ByteArray := if -9223372036854775808 ≤ a0 ∧ a0 ≤ 9223372036854775807 then some ⟨(Lib.itoa a0).toArray⟩ else none
def slices_Clone_byte_byte (a0 : List Int) : Option (List Int) :=
  ((apd 1 ([] : List Int) a0).bind fun y_4 => some y_4)
def wire_big.l0 (a1 : Int) (a2 : Int) : Nat → (List Int) → Int → Option (List Int)
  | 0, _, _ => none
  | k + 1, x_12, x_16 => (if (decide (x_16 ≥ 0)) = true then (if (decide (0 ≤ (IntKind.i64.wrap (8 * x_16)))) = true then ((apd 1 x_12 [IntKind.u8.wrap (a1.fdiv (2 ^ (min (IntKind.i64.wrap (8 * x_16)).toNat 64)))]).bind fun y_30 => (wire_big.l0 a1 a2 k y_30 (IntKind.i64.wrap (x_16 - 1)))) else none) else some x_12)
def wire_big (a0 : List Int) (a1 : Int) (a2 : Int) : Option (List Int) :=
  (wire_big.l0 a1 a2 (((IntKind.i64.wrap (a2 - 1)) - 0).toNat + 2) a0 (IntKind.i64.wrap (a2 - 1)))
def wire_put.l0 (a1 : api_Value) : Nat → (List Int) → Int → Option (List Int)
  | 0, _, _ => none
  | k + 1, x_56, x_60 => (if (decide (x_60 < 8)) = true then ((Arr8.ix a1.H x_60).bind fun y_75 => ((wire_big x_56 y_75 8).bind fun y_77 => (wire_put.l0 a1 k y_77 (IntKind.i64.wrap (x_60 + 1))))) else some x_56)
def wire_put (a0 : List Int) (a1 : api_Value) : Option (List Int) :=
  (if (a1.Kind == 1) = true then ((wire_big a0 a1.N 8).bind fun y_3 => some y_3) else (if (a1.Kind == 2) = true then ((apd 1 a0 [IntKind.u8.wrap (a1.S.size : Int)]).bind fun y_26 => ((apd 1 y_26 (sbytes a1.S)).bind fun y_32 => some y_32)) else (if (a1.Kind == 3) = true then ((apd 1 a0 [IntKind.u8.wrap a1.N]).bind fun y_40 => some y_40) else (wire_put.l0 a1 (((8 : Int) - 0).toNat + 1) a0 0))))
def wire_Put (a0 : List Int) (a1 : api_Value) : Option ((List Int) × Int) :=
  ((value_Valid a1).bind fun y_2 => (if (!y_2) = true then some (([] : List Int), 10) else ((slices_Clone_byte_byte a0).bind fun y_23 => ((wire_put y_23 a1).bind fun y_31 => some (y_31, 0)))))
def streams_mark.l0 (a1 : List api_Value) : Nat → (List Int) → Int → Option (ByteArray × Bool)
  | 0, _, _ => none
  | k + 1, x_48, x_52 => (if (decide (x_52 < (a1.length : Int))) = true then ((ix a1 x_52).bind fun y_92 => ((wire_Put ([] : List Int) y_92).bind fun y_102 => (if (y_102.2 != 0) = true then some ((⟨#[]⟩ : ByteArray), false) else ((apd 1 x_48 [IntKind.u8.wrap y_92.Kind]).bind fun y_112 => ((apd 1 y_112 y_102.1).bind fun y_121 => (streams_mark.l0 a1 k y_121 (IntKind.i64.wrap (x_52 + 1)))))))) else some (bstr x_48, true))
def streams_mark (a0 : ByteArray) (a1 : List api_Value) : Option (ByteArray × Bool) :=
  ((strconv_Itoa (a0.size : Int)).bind fun y_1 => (if (decide (y_1.size + (⟨#[32]⟩ : ByteArray).size ≤ 9223372036854775807)) = true then (if (decide ((y_1 ++ (⟨#[32]⟩ : ByteArray)).size + a0.size ≤ 9223372036854775807)) = true then (if (decide ((sbytes ((y_1 ++ (⟨#[32]⟩ : ByteArray)) ++ a0)).length * 1 ≤ 140737488355328)) = true then (streams_mark.l0 a1 (((a1.length : Int) - 0).toNat + 1) (sbytes ((y_1 ++ (⟨#[32]⟩ : ByteArray)) ++ a0)) 0) else none) else none) else none))
def streams_Dict_Find (a0 : streams_Dict) (a1 : ByteArray) (a2 : List api_Value) : Option (Int × Bool) :=
  ((slices_ContainsFunc_api_Value_api_Value_f_streams_Dict_Find_1 a2).bind fun y_1 => (if y_1 = true then some (0, false) else ((streams_mark a1 a2).bind fun y_4 => some ((mget a0.ids y_4.1).getD 0, (mget a0.ids y_4.1).isSome))))
def cmp_isNaN_int (a0 : Int) : Option Bool :=
  some (a0 != a0)
def cmp_Compare_int (a0 : Int) (a1 : Int) : Option Int :=
  ((cmp_isNaN_int a0).bind fun y_1 => ((cmp_isNaN_int a1).bind fun y_3 => (if y_1 = true then (if y_3 = true then some 0 else some (-1)) else (if y_3 = true then some 1 else (if (decide (a0 < a1)) = true then some (-1) else (if (decide (a0 > a1)) = true then some 1 else some 0))))))
def runs_Run_place_1 (a0 : api_Sample) (a1 : Int) : Option Int :=
  ((cmp_Compare_int a0.Time a1).bind fun y_2 => some y_2)
def slices_BinarySearchFunc_api_Sample_api_Sample_int_f_runs_Run_place_1.j1 (kl0 : Int → Int → Option (Int × Bool)) (a0 : List api_Sample) (x_58 : Int) (x_59 : Int) : Option (Int × Bool) :=
  (kl0 x_58 x_59)
def slices_BinarySearchFunc_api_Sample_api_Sample_int_f_runs_Run_place_1.l0 (a0 : List api_Sample) (a1 : Int) : Nat → Int → Int → Option (Int × Bool)
  | 0, _, _ => none
  | k + 1, x_21, x_22 => (if (decide (x_21 < x_22)) = true then ((ix a0 (IntKind.i64.wrap ((IntKind.u64.wrap (IntKind.i64.wrap (x_21 + x_22))).fdiv (2 ^ (min (1 : Int).toNat 64))))).bind fun y_44 => ((runs_Run_place_1 y_44 a1).bind fun y_55 => (if (decide (y_55 < 0)) = true then (slices_BinarySearchFunc_api_Sample_api_Sample_int_f_runs_Run_place_1.j1 (slices_BinarySearchFunc_api_Sample_api_Sample_int_f_runs_Run_place_1.l0 a0 a1 k) a0 (IntKind.i64.wrap ((IntKind.i64.wrap ((IntKind.u64.wrap (IntKind.i64.wrap (x_21 + x_22))).fdiv (2 ^ (min (1 : Int).toNat 64)))) + 1)) x_22) else (slices_BinarySearchFunc_api_Sample_api_Sample_int_f_runs_Run_place_1.j1 (slices_BinarySearchFunc_api_Sample_api_Sample_int_f_runs_Run_place_1.l0 a0 a1 k) a0 x_21 (IntKind.i64.wrap ((IntKind.u64.wrap (IntKind.i64.wrap (x_21 + x_22))).fdiv (2 ^ (min (1 : Int).toNat 64)))))))) else (if (decide (x_21 < (a0.length : Int))) = true then ((ix a0 x_21).bind fun y_63 => ((runs_Run_place_1 y_63 a1).bind fun y_74 => some (x_21, (y_74 == 0)))) else some (x_21, false)))
def slices_BinarySearchFunc_api_Sample_api_Sample_int_f_runs_Run_place_1 (a0 : List api_Sample) (a1 : Int) : Option (Int × Bool) :=
  (slices_BinarySearchFunc_api_Sample_api_Sample_int_f_runs_Run_place_1.l0 a0 a1 (((a0.length : Int) - 0).toNat + 1) 0 (a0.length : Int))
def runs_Run_place (a0 : runs_Run) (a1 : Int) : Option (Int × Bool) :=
  ((slices_BinarySearchFunc_api_Sample_api_Sample_int_f_runs_Run_place_1 a0.l a1).bind fun y_1 => some (y_1.1, y_1.2))
def slices_Clone_api_Value_api_Value (a0 : List api_Value) : Option (List api_Value) :=
  ((apd 96 ([] : List api_Value) a0).bind fun y_4 => some y_4)
def runs_Run_Get (a0 : runs_Run) (a1 : Int) : Option ((List api_Value) × Bool) :=
  ((runs_Run_place a0 a1).bind fun y_1 => (if (!y_1.2) = true then some (([] : List api_Value), false) else ((ix a0.l y_1.1).bind fun y_6 => ((slices_Clone_api_Value_api_Value y_6.Vals).bind fun y_17 => some (y_17, true)))))
def streams_Dict_Add (a0 : streams_Dict) (a1 : ByteArray) (a2 : List api_Value) : Option (Int × Int × streams_Dict) :=
  ((streams_mark a1 a2).bind fun y_1 => (if (!y_1.2) = true then some (0, 10, a0) else (if ((mget a0.ids y_1.1).isSome) = true then some ((mget a0.ids y_1.1).getD 0, 0, a0) else (if (decide ((a0.l.length : Int) ≥ a0.most)) = true then some (0, 80, a0) else ((mkS 96 (a2.length : Int) (⟨0, 0, (⟨#[]⟩ : ByteArray), (⟨0, 0, 0, 0, 0, 0, 0, 0⟩ : Arr8)⟩ : api_Value)).bind fun y_6 => ((apd 40 a0.l [(⟨a1, cpy y_6 a2⟩ : streams_stream)]).bind fun y_20 => some (IntKind.i64.wrap ((y_20.length : Int) - 1), 0, (⟨a0.most, y_20, mset a0.ids y_1.1 (a0.l.length : Int)⟩ : streams_Dict))))))))
def runs_New : Option runs_Run :=
  some (⟨([] : List api_Sample)⟩ : runs_Run)
def slices_Insert_api_Sample_api_Sample (a0 : List api_Sample) (a1 : Int) (a2 : List api_Sample) : Option (List api_Sample) := ins 32 a0 a1 a2
def runs_Run_Add (a0 : runs_Run) (a1 : Int) (a2 : List api_Value) : Option (Bool × runs_Run) :=
  ((runs_Run_place a0 a1).bind fun y_1 => (if y_1.2 = true then some (false, a0) else ((slices_Clone_api_Value_api_Value a2).bind fun y_27 => ((slices_Insert_api_Sample_api_Sample a0.l y_1.1 [(⟨a1, y_27⟩ : api_Sample)]).bind fun y_42 => some (true, (⟨y_42⟩ : runs_Run))))))
def leaf_Leaf_Write.j0 (a0 : leaf_Leaf) (a1 : api_Point) : Option (Bool × Int × leaf_Leaf) :=
  (if (decide (a0.points ≥ a0.room)) = true then some (false, 80, a0) else ((streams_Dict_Add a0.dict a1.Schema a1.Keys).bind fun y_101 => (if (!(mget a0.runs y_101.1).isSome) = true then ((runs_New).bind fun y_122 => ((mget (mset a0.runs y_101.1 y_122) y_101.1).bind fun y_151 => ((runs_Run_Add y_151 a1.Time a1.Vals).bind fun y_159 => some (true, 0, (⟨a0.schemas, a0.room, IntKind.i64.wrap (a0.points + 1), y_101.2.2, mset (mset a0.runs y_101.1 y_122) y_101.1 y_159.2⟩ : leaf_Leaf))))) else ((mget a0.runs y_101.1).bind fun y_187 => ((runs_Run_Add y_187 a1.Time a1.Vals).bind fun y_195 => some (true, 0, (⟨a0.schemas, a0.room, IntKind.i64.wrap (a0.points + 1), y_101.2.2, mset a0.runs y_101.1 y_195.2⟩ : leaf_Leaf)))))))
def leaf_Leaf_Write (a0 : leaf_Leaf) (a1 : api_Point) : Option (Bool × Int × leaf_Leaf) :=
  ((schema_Fits a0.schemas a1).bind fun y_4 => (if (y_4 != 0) = true then some (false, y_4, a0) else ((streams_Dict_Find a0.dict a1.Schema a1.Keys).bind fun y_9 => (if y_9.2 = true then ((mget a0.runs y_9.1).bind fun y_72 => ((runs_Run_Get y_72 a1.Time).bind fun y_80 => (if y_80.2 = true then some (false, 0, a0) else (leaf_Leaf_Write.j0 a0 a1)))) else (leaf_Leaf_Write.j0 a0 a1)))))
def schema_Cols (a0 : api_Schema) : Option (List api_Col) :=
  ((slices_Concat_api_Col_api_Col [[(⟨(⟨#[116, 105, 109, 101]⟩ : ByteArray), 1⟩ : api_Col)], a0.Keys, a0.Vals]).bind fun y_7 => some y_7)
def streams_Dict_Of.j1 (kl0 : (List Int) → Int → Option (List Int)) (a0 : streams_Dict) (x_48 : Int) (x_109 : List Int) : Option (List Int) :=
  (kl0 x_109 (IntKind.i64.wrap (x_48 + 1)))
def streams_Dict_Of.l0 (a0 : streams_Dict) (a1 : ByteArray) : Nat → (List Int) → Int → Option (List Int)
  | 0, _, _ => none
  | k + 1, x_44, x_48 => (if (decide (x_48 < (a0.l.length : Int))) = true then ((ix a0.l x_48).bind fun y_88 => (if (y_88.name.toList == a1.toList) = true then ((apd 8 x_44 [x_48]).bind fun y_116 => (streams_Dict_Of.j1 (streams_Dict_Of.l0 a0 a1 k) a0 x_48 y_116)) else (streams_Dict_Of.j1 (streams_Dict_Of.l0 a0 a1 k) a0 x_48 x_44))) else some x_44)
def streams_Dict_Of (a0 : streams_Dict) (a1 : ByteArray) : Option (List Int) :=
  (streams_Dict_Of.l0 a0 a1 (((a0.l.length : Int) - 0).toNat + 1) [] 0)
def streams_Dict_Keys.j0 (a0 : streams_Dict) (a1 : Int) (x_2 : Bool) : Option (ByteArray × (List api_Value) × Bool) :=
  (if x_2 = true then some ((⟨#[]⟩ : ByteArray), ([] : List api_Value), false) else ((ix a0.l a1).bind fun y_38 => ((ix a0.l a1).bind fun y_49 => ((slices_Clone_api_Value_api_Value y_49.keys).bind fun y_60 => some (y_38.name, y_60, true)))))
def streams_Dict_Keys (a0 : streams_Dict) (a1 : Int) : Option (ByteArray × (List api_Value) × Bool) :=
  (if (decide (a1 < 0)) = true then (streams_Dict_Keys.j0 a0 a1 true) else (streams_Dict_Keys.j0 a0 a1 (decide (a1 ≥ (a0.l.length : Int)))))
def runs_Run_Range.l0 (a2 : Int) (y_3 : List api_Sample) : Nat → (List api_Sample) → Int → Option (List api_Sample)
  | 0, _, _ => none
  | k + 1, x_76, x_81 => (if (decide (x_81 < (y_3.length : Int))) = true then ((ix y_3 x_81).bind fun y_145 => (if (decide (y_145.Time > a2)) = true then some x_76 else ((slices_Clone_api_Value_api_Value y_145.Vals).bind fun y_180 => ((apd 32 x_76 [(⟨y_145.Time, y_180⟩ : api_Sample)]).bind fun y_194 => (runs_Run_Range.l0 a2 y_3 k y_194 (IntKind.i64.wrap (x_81 + 1))))))) else some x_76)
def runs_Run_Range (a0 : runs_Run) (a1 : Int) (a2 : Int) : Option (List api_Sample) :=
  ((runs_Run_place a0 a1).bind fun y_1 => ((cut a0.l y_1.1 a0.l.length).bind fun y_3 => (runs_Run_Range.l0 a2 y_3 (((y_3.length : Int) - 0).toNat + 1) [] 0)))
def slices_Grow_api_Value_api_Value (a0 : List api_Value) (a1 : Int) : Option (List api_Value) := grow0 96 a0 a1
def slices_Concat_api_Value_api_Value.l1 (a0 : List (List api_Value)) : Nat → (List api_Value) → Int → Option (List api_Value)
  | 0, _, _ => none
  | k + 1, x_75, x_79 => (if (decide (x_79 < (a0.length : Int))) = true then ((ix a0 x_79).bind fun y_100 => ((apd 96 x_75 y_100).bind fun y_111 => (slices_Concat_api_Value_api_Value.l1 a0 k y_111 (IntKind.i64.wrap (x_79 + 1))))) else some x_75)
def slices_Concat_api_Value_api_Value.l0 (a0 : List (List api_Value)) : Nat → Int → Int → Option (List api_Value)
  | 0, _, _ => none
  | k + 1, x_16, x_17 => (if (decide (x_17 < (a0.length : Int))) = true then ((ix a0 x_17).bind fun y_34 => (if (decide ((IntKind.i64.wrap (x_16 + (y_34.length : Int))) < 0)) = true then none else (slices_Concat_api_Value_api_Value.l0 a0 k (IntKind.i64.wrap (x_16 + (y_34.length : Int))) (IntKind.i64.wrap (x_17 + 1))))) else ((slices_Grow_api_Value_api_Value ([] : List api_Value) x_16).bind fun y_47 => (slices_Concat_api_Value_api_Value.l1 a0 (((a0.length : Int) - 0).toNat + 1) y_47 0)))
def slices_Concat_api_Value_api_Value (a0 : List (List api_Value)) : Option (List api_Value) :=
  (slices_Concat_api_Value_api_Value.l0 a0 (((a0.length : Int) - 0).toNat + 1) 0 0)
def internal_bytealg_CompareString (a0 : ByteArray) (a1 : ByteArray) : Option Int :=
  some (Lib.compareBytes a0.data.toList a1.data.toList)
def strings_Compare (a0 : ByteArray) (a1 : ByteArray) : Option Int :=
  ((internal_bytealg_CompareString a0 a1).bind fun y_1 => some y_1)
def slices_Compare_int_int.l0 (a0 : List Int) (a1 : List Int) : Nat → Int → Option Int
  | 0, _ => none
  | k + 1, x_25 => (if (decide (x_25 < (a0.length : Int))) = true then ((ix a0 x_25).bind fun y_51 => (if (decide (x_25 ≥ (a1.length : Int))) = true then some 1 else ((ix a1 x_25).bind fun y_61 => ((cmp_Compare_int y_51 y_61).bind fun y_70 => (if (y_70 != 0) = true then some y_70 else (slices_Compare_int_int.l0 a0 a1 k (IntKind.i64.wrap (x_25 + 1)))))))) else (if (decide ((a0.length : Int) < (a1.length : Int))) = true then some (-1) else some 0))
def slices_Compare_int_int (a0 : List Int) (a1 : List Int) : Option Int :=
  (slices_Compare_int_int.l0 a0 a1 (((a0.length : Int) - 0).toNat + 1) 0)
def cmp_Or_int.l0 (a0 : List Int) : Nat → Int → Option Int
  | 0, _ => none
  | k + 1, x_13 => (if (decide (x_13 < (a0.length : Int))) = true then ((ix a0 x_13).bind fun y_27 => (if (y_27 != 0) = true then some y_27 else (cmp_Or_int.l0 a0 k (IntKind.i64.wrap (x_13 + 1))))) else some 0)
def cmp_Or_int (a0 : List Int) : Option Int :=
  (cmp_Or_int.l0 a0 (((a0.length : Int) - 0).toNat + 1) 0)
def value_Compare (a0 : api_Value) (a1 : api_Value) : Option Int :=
  ((cmp_Compare_int a0.Kind a1.Kind).bind fun y_14 => ((cmp_Compare_int a0.N a1.N).bind fun y_16 => ((strings_Compare a0.S a1.S).bind fun y_18 => ((slices_Compare_int_int a0.H.list a1.H.list).bind fun y_20 => ((cmp_Or_int [y_14, y_16, y_18, y_20]).bind fun y_23 => some y_23)))))
def slices_CompareFunc_api_Value_api_Value_api_Value_api_Value_f_value_Compare.l0 (a0 : List api_Value) (a1 : List api_Value) : Nat → Int → Option Int
  | 0, _ => none
  | k + 1, x_27 => (if (decide (x_27 < (a0.length : Int))) = true then ((ix a0 x_27).bind fun y_55 => (if (decide (x_27 ≥ (a1.length : Int))) = true then some 1 else ((ix a1 x_27).bind fun y_66 => ((value_Compare y_55 y_66).bind fun y_76 => (if (y_76 != 0) = true then some y_76 else (slices_CompareFunc_api_Value_api_Value_api_Value_api_Value_f_value_Compare.l0 a0 a1 k (IntKind.i64.wrap (x_27 + 1)))))))) else (if (decide ((a0.length : Int) < (a1.length : Int))) = true then some (-1) else some 0))
def slices_CompareFunc_api_Value_api_Value_api_Value_api_Value_f_value_Compare (a0 : List api_Value) (a1 : List api_Value) : Option Int :=
  (slices_CompareFunc_api_Value_api_Value_api_Value_api_Value_f_value_Compare.l0 a0 a1 (((a0.length : Int) - 0).toNat + 1) 0)
def table_order (a0 : List api_Value) (a1 : List api_Value) : Option Int :=
  ((slices_CompareFunc_api_Value_api_Value_api_Value_api_Value_f_value_Compare a0 a1).bind fun y_1 => some y_1)
noncomputable def slices_SortFunc_api_Value_api_Value_f_table_order (a0 : List (List api_Value)) : Option (List (List api_Value)) := sortBy table_order a0
def table_Canon.l0 (a0 : api_Table) (y_3 : List api_Col) : Nat → (List (List api_Value)) → Int → Option api_Table
  | 0, _, _ => none
  | k + 1, x_79, x_84 => (if (decide (x_84 < (a0.Rows.length : Int))) = true then ((ix a0.Rows x_84).bind fun y_146 => ((slices_Clone_api_Value_api_Value y_146).bind fun y_179 => ((apd 24 x_79 [y_179]).bind fun y_193 => (table_Canon.l0 a0 y_3 k y_193 (IntKind.i64.wrap (x_84 + 1)))))) else ((slices_SortFunc_api_Value_api_Value_f_table_order x_79).bind fun y_201 => some (⟨y_3, y_201⟩ : api_Table)))
def table_Canon (a0 : api_Table) : Option api_Table :=
  ((slices_Clone_api_Col_api_Col a0.Cols).bind fun y_3 => (table_Canon.l0 a0 y_3 (((a0.Rows.length : Int) - 0).toNat + 1) [] 0))
def leaf_Leaf_Scan.l1 (kl0 : (List (List api_Value)) → Int → Option (api_Table × Int × leaf_Leaf)) (y_26 : List Int) (x_317 : Int) (y_595 : ByteArray × (List api_Value) × Bool) (y_611 : List api_Sample) : Nat → (List (List api_Value)) → Int → Option (api_Table × Int × leaf_Leaf)
  | 0, _, _ => none
  | k + 1, x_704, x_711 => (if (decide (x_711 < (y_611.length : Int))) = true then ((ix y_611 x_711).bind fun y_785 => ((slices_Concat_api_Value_api_Value [[(⟨1, y_785.Time, (⟨#[]⟩ : ByteArray), (⟨0, 0, 0, 0, 0, 0, 0, 0⟩ : Arr8)⟩ : api_Value)], y_595.2.1, y_785.Vals]).bind fun y_828 => ((apd 24 x_704 [y_828]).bind fun y_842 => (leaf_Leaf_Scan.l1 kl0 y_26 x_317 y_595 y_611 k y_842 (IntKind.i64.wrap (x_711 + 1)))))) else (kl0 x_704 (IntKind.i64.wrap (x_317 + 1))))
def leaf_Leaf_Scan.l0 (a0 : leaf_Leaf) (a2 : Int) (a3 : Int) (y_16 : List api_Col) (y_26 : List Int) : Nat → (List (List api_Value)) → Int → Option (api_Table × Int × leaf_Leaf)
  | 0, _, _ => none
  | k + 1, x_312, x_317 => (if (decide (x_317 < (y_26.length : Int))) = true then ((ix y_26 x_317).bind fun y_587 => ((streams_Dict_Keys a0.dict y_587).bind fun y_595 => ((mget a0.runs y_587).bind fun y_603 => ((runs_Run_Range y_603 a2 a3).bind fun y_611 => (leaf_Leaf_Scan.l1 (leaf_Leaf_Scan.l0 a0 a2 a3 y_16 y_26 k) y_26 x_317 y_595 y_611 (((y_611.length : Int) - 0).toNat + 1) x_312 0))))) else ((table_Canon (⟨y_16, x_312⟩ : api_Table)).bind fun y_850 => some (y_850, 0, a0)))
def leaf_Leaf_Scan (a0 : leaf_Leaf) (a1 : ByteArray) (a2 : Int) (a3 : Int) : Option (api_Table × Int × leaf_Leaf) :=
  ((schema_Find a0.schemas a1).bind fun y_2 => (if (!y_2.2) = true then some ((⟨([] : List api_Col), ([] : List (List api_Value))⟩ : api_Table), 50, a0) else ((schema_Cols y_2.1).bind fun y_16 => ((streams_Dict_Of a0.dict a1).bind fun y_26 => (leaf_Leaf_Scan.l0 a0 a2 a3 y_16 y_26 (((y_26.length : Int) - 0).toNat + 1) [] 0)))))
def leaf_Leaf_Points (a0 : leaf_Leaf) : Option (Int × leaf_Leaf) :=
  some (a0.points, a0)
def law08_shown.j0 (y_16 : leaf_Leaf) (x_76 : Bool) : Option Bool :=
  (if x_76 = true then some false else ((law08_point (⟨#[97]⟩ : ByteArray) 5 7).bind fun y_80 => ((leaf_Leaf_Write y_16 y_80).bind fun y_92 => ((law08_point (⟨#[97]⟩ : ByteArray) 5 8).bind fun y_107 => ((leaf_Leaf_Write y_92.2.2 y_107).bind fun y_119 => ((law08_point (⟨#[98]⟩ : ByteArray) 3 1).bind fun y_134 => ((leaf_Leaf_Write y_119.2.2 y_134).bind fun y_146 => ((law08_point (⟨#[99]⟩ : ByteArray) 1 1).bind fun y_161 => ((leaf_Leaf_Write y_146.2.2 y_161).bind fun y_173 => ((leaf_Leaf_Scan y_173.2.2 (⟨#[108, 111, 97, 100]⟩ : ByteArray) 0 9).bind fun y_188 => ((leaf_Leaf_Scan y_188.2.2 (⟨#[108, 111, 97, 100]⟩ : ByteArray) 4 9).bind fun y_213 => ((leaf_Leaf_Scan y_213.2.2 (⟨#[120]⟩ : ByteArray) 0 9).bind fun y_238 => (if y_92.1 = true then (if (y_92.2.1 == 0) = true then (if (!y_119.1) = true then (if (y_119.2.1 == 0) = true then (if y_146.1 = true then (if (y_146.2.1 == 0) = true then (if (!y_173.1) = true then (if (y_173.2.1 == 80) = true then (if (y_188.2.1 == 0) = true then (if ((y_188.1.Rows.length : Int) == 2) = true then ((ix y_188.1.Rows 0).bind fun y_273 => ((ix y_273 0).bind fun y_283 => (if (y_283.N == 3) = true then ((ix y_188.1.Rows 1).bind fun y_293 => ((ix y_293 2).bind fun y_303 => (if (y_303.N == 7) = true then (if (y_213.2.1 == 0) = true then (if ((y_213.1.Rows.length : Int) == 1) = true then (if (y_238.2.1 == 50) = true then ((leaf_Leaf_Points y_238.2.2).bind fun y_316 => some (y_316.1 == 2)) else some false) else some false) else some false) else some false))) else some false))) else some false) else some false) else some false) else some false) else some false) else some false) else some false) else some false) else some false) else some false)))))))))))))
def law08_shown.j1 (y_16 : leaf_Leaf) (x_332 : Bool) : Option Bool :=
  (if x_332 = true then some false else ((law08_point (⟨#[97]⟩ : ByteArray) 5 7).bind fun y_336 => ((leaf_Leaf_Write y_16 y_336).bind fun y_348 => ((law08_point (⟨#[97]⟩ : ByteArray) 5 8).bind fun y_363 => ((leaf_Leaf_Write y_348.2.2 y_363).bind fun y_375 => ((law08_point (⟨#[98]⟩ : ByteArray) 3 1).bind fun y_390 => ((leaf_Leaf_Write y_375.2.2 y_390).bind fun y_402 => ((law08_point (⟨#[99]⟩ : ByteArray) 1 1).bind fun y_417 => ((leaf_Leaf_Write y_402.2.2 y_417).bind fun y_429 => ((leaf_Leaf_Scan y_429.2.2 (⟨#[108, 111, 97, 100]⟩ : ByteArray) 0 9).bind fun y_444 => ((leaf_Leaf_Scan y_444.2.2 (⟨#[108, 111, 97, 100]⟩ : ByteArray) 4 9).bind fun y_469 => ((leaf_Leaf_Scan y_469.2.2 (⟨#[120]⟩ : ByteArray) 0 9).bind fun y_494 => (if y_348.1 = true then (if (y_348.2.1 == 0) = true then (if (!y_375.1) = true then (if (y_375.2.1 == 0) = true then (if y_402.1 = true then (if (y_402.2.1 == 0) = true then (if (!y_429.1) = true then (if (y_429.2.1 == 80) = true then (if (y_444.2.1 == 0) = true then (if ((y_444.1.Rows.length : Int) == 2) = true then ((ix y_444.1.Rows 0).bind fun y_529 => ((ix y_529 0).bind fun y_539 => (if (y_539.N == 3) = true then ((ix y_444.1.Rows 1).bind fun y_549 => ((ix y_549 2).bind fun y_559 => (if (y_559.N == 7) = true then (if (y_469.2.1 == 0) = true then (if ((y_469.1.Rows.length : Int) == 1) = true then (if (y_494.2.1 == 50) = true then ((leaf_Leaf_Points y_494.2.2).bind fun y_572 => some (y_572.1 == 2)) else some false) else some false) else some false) else some false))) else some false))) else some false) else some false) else some false) else some false) else some false) else some false) else some false) else some false) else some false) else some false)))))))))))))
def law08_shown : Option Bool :=
  ((law08_load).bind fun y_1 => ((leaf_New y_1 2).bind fun y_12 => (oel y_12.1 (((leaf_New ([] : List api_Schema) 2).bind fun y_33 => (oel y_33.1 (some false) fun y_37 => some false))) fun y_16 => ((leaf_New ([] : List api_Schema) 2).bind fun y_54 => (oel y_54.1 ((if (y_12.2 != 0) = true then (law08_shown.j0 y_16 true) else (law08_shown.j0 y_16 (y_54.2 != 50)))) fun y_58 => (if (y_12.2 != 0) = true then (law08_shown.j1 y_16 true) else (law08_shown.j1 y_16 (y_54.2 != 50))))))))
def ref02_Name.j2 (kl1 : Int → Option Bool) (a0 : ByteArray) (x_45 : Int) (x_86 : Bool) : Option Bool :=
  (if x_86 = true then some false else (kl1 (IntKind.i64.wrap (x_45 + 1))))
def ref02_Name.l1 (a0 : ByteArray) : Nat → Int → Option Bool
  | 0, _ => none
  | k + 1, x_45 => (if (decide (x_45 < (a0.size : Int))) = true then ((ixs a0 x_45).bind fun y_74 => (if (decide (y_74 ≥ 97)) = true then (if (decide (y_74 ≤ 122)) = true then (ref02_Name.j2 (ref02_Name.l1 a0 k) a0 x_45 false) else (if (decide (y_74 ≥ 48)) = true then (if (decide (y_74 ≤ 57)) = true then (ref02_Name.j2 (ref02_Name.l1 a0 k) a0 x_45 false) else (if (y_74 == 95) = true then (ref02_Name.j2 (ref02_Name.l1 a0 k) a0 x_45 false) else (ref02_Name.j2 (ref02_Name.l1 a0 k) a0 x_45 (!(y_74 == 35))))) else (if (y_74 == 95) = true then (ref02_Name.j2 (ref02_Name.l1 a0 k) a0 x_45 false) else (ref02_Name.j2 (ref02_Name.l1 a0 k) a0 x_45 (!(y_74 == 35)))))) else (if (decide (y_74 ≥ 48)) = true then (if (decide (y_74 ≤ 57)) = true then (ref02_Name.j2 (ref02_Name.l1 a0 k) a0 x_45 false) else (if (y_74 == 95) = true then (ref02_Name.j2 (ref02_Name.l1 a0 k) a0 x_45 false) else (ref02_Name.j2 (ref02_Name.l1 a0 k) a0 x_45 (!(y_74 == 35))))) else (if (y_74 == 95) = true then (ref02_Name.j2 (ref02_Name.l1 a0 k) a0 x_45 false) else (ref02_Name.j2 (ref02_Name.l1 a0 k) a0 x_45 (!(y_74 == 35))))))) else some true)
def ref02_Name.j0 (a0 : ByteArray) (x_8 : Bool) : Option Bool :=
  (if x_8 = true then some false else (ref02_Name.l1 a0 (((a0.size : Int) - 0).toNat + 1) 0))
def ref02_Name (a0 : ByteArray) : Option Bool :=
  (if (decide ((a0.size : Int) < 1)) = true then (ref02_Name.j0 a0 true) else (if (decide ((a0.size : Int) > 24)) = true then (ref02_Name.j0 a0 true) else ((ixs a0 0).bind fun y_12 => (if (decide (y_12 < 97)) = true then (ref02_Name.j0 a0 true) else ((ixs a0 0).bind fun y_15 => (ref02_Name.j0 a0 (decide (y_15 > 122))))))))
def ref05_Word.l1 (a0 : ByteArray) : Nat → Int → Option Bool
  | 0, _ => none
  | k + 1, x_52 => (if (decide (x_52 < (a0.size : Int))) = true then ((ixs a0 x_52).bind fun y_59 => (if (y_59 == 35) = true then some false else (ref05_Word.l1 a0 k (IntKind.i64.wrap (x_52 + 1))))) else ((ref02_Name a0).bind fun y_62 => some y_62))
def ref05_Word.l0 (a0 : ByteArray) : Nat → (List ByteArray) → Int → Option Bool
  | 0, _, _ => none
  | k + 1, x_19, x_23 => (if (decide (x_23 < (x_19.length : Int))) = true then ((ix x_19 x_23).bind fun y_38 => (if (a0.toList == y_38.toList) = true then some false else (ref05_Word.l0 a0 k x_19 (IntKind.i64.wrap (x_23 + 1))))) else (ref05_Word.l1 a0 (((a0.size : Int) - 0).toNat + 1) 0))
def ref05_Word (a0 : ByteArray) : Option Bool :=
  (ref05_Word.l0 a0 (((24 : Int) - 0).toNat + 1) [(⟨#[102, 101, 116, 99, 104]⟩ : ByteArray), (⟨#[102, 114, 111, 109]⟩ : ByteArray), (⟨#[116, 111]⟩ : ByteArray), (⟨#[119, 104, 101, 114, 101]⟩ : ByteArray), (⟨#[107, 101, 101, 112]⟩ : ByteArray), (⟨#[97, 108, 105, 103, 110]⟩ : ByteArray), (⟨#[103, 114, 111, 117, 112]⟩ : ByteArray), (⟨#[116, 111, 112]⟩ : ByteArray), (⟨#[98, 121]⟩ : ByteArray), (⟨#[106, 111, 105, 110]⟩ : ByteArray), (⟨#[117, 110, 105, 111, 110]⟩ : ByteArray), (⟨#[97, 110, 100]⟩ : ByteArray), (⟨#[111, 114]⟩ : ByteArray), (⟨#[110, 111, 116]⟩ : ByteArray), (⟨#[104, 97, 115]⟩ : ByteArray), (⟨#[116, 114, 117, 101]⟩ : ByteArray), (⟨#[102, 97, 108, 115, 101]⟩ : ByteArray), (⟨#[99, 111, 117, 110, 116]⟩ : ByteArray), (⟨#[115, 117, 109]⟩ : ByteArray), (⟨#[109, 105, 110]⟩ : ByteArray), (⟨#[109, 97, 120]⟩ : ByteArray), (⟨#[109, 101, 97, 110]⟩ : ByteArray), (⟨#[109, 101, 114, 103, 101]⟩ : ByteArray), (⟨#[116, 105, 109, 101]⟩ : ByteArray)] 0)
def ref02_Find.l0 (a0 : List api_Col) (a1 : ByteArray) : Nat → Int → Option Int
  | 0, _ => none
  | k + 1, x_13 => (if (decide (x_13 < (a0.length : Int))) = true then ((ix a0 x_13).bind fun y_27 => (if (y_27.Name.toList == a1.toList) = true then some x_13 else (ref02_Find.l0 a0 a1 k (IntKind.i64.wrap (x_13 + 1))))) else some (-1))
def ref02_Find (a0 : List api_Col) (a1 : ByteArray) : Option Int :=
  (ref02_Find.l0 a0 a1 (((a0.length : Int) - 0).toNat + 1) 0)
def ref02_Cols.j2 (kl1 : Int → Option Bool) (a0 : List api_Col) (x_97 : Int) (x_233 : Bool) : Option Bool :=
  (if x_233 = true then some false else (kl1 (IntKind.i64.wrap (x_97 + 1))))
def ref02_Cols.l1 (a0 : List api_Col) : Nat → Int → Option Bool
  | 0, _ => none
  | k + 1, x_97 => (if (decide (x_97 < (a0.length : Int))) = true then ((ix a0 x_97).bind fun y_235 => ((ref02_Name y_235.Name).bind fun y_244 => (if (!y_244) = true then (ref02_Cols.j2 (ref02_Cols.l1 a0 k) a0 x_97 true) else ((ix a0 x_97).bind fun y_247 => ((ref02_Find a0 y_247.Name).bind fun y_256 => (if (y_256 != x_97) = true then (ref02_Cols.j2 (ref02_Cols.l1 a0 k) a0 x_97 true) else ((ix a0 x_97).bind fun y_259 => (if (decide (y_259.Kind < 1)) = true then (ref02_Cols.j2 (ref02_Cols.l1 a0 k) a0 x_97 true) else ((ix a0 x_97).bind fun y_269 => (ref02_Cols.j2 (ref02_Cols.l1 a0 k) a0 x_97 (decide (y_269.Kind > 4)))))))))))) else some true)
def ref02_Cols.j0 (a0 : List api_Col) (x_2 : Bool) : Option Bool :=
  (if x_2 = true then some false else (ref02_Cols.l1 a0 (((a0.length : Int) - 0).toNat + 1) 0))
def ref02_Cols (a0 : List api_Col) : Option Bool :=
  (if (decide ((a0.length : Int) < 1)) = true then (ref02_Cols.j0 a0 true) else (ref02_Cols.j0 a0 (decide ((a0.length : Int) > 16))))
def ref05_One.j2 (kl1 : Int → Option Bool) (y_41 : List api_Col) (x_92 : Int) (x_159 : Bool) : Option Bool :=
  (if x_159 = true then some false else (kl1 (IntKind.i64.wrap (x_92 + 1))))
def ref05_One.l1 (a0 : api_Schema) (y_41 : List api_Col) : Nat → Int → Option Bool
  | 0, _ => none
  | k + 1, x_92 => (if (decide (x_92 < (y_41.length : Int))) = true then ((ix y_41 x_92).bind fun y_161 => ((ref05_Word y_161.Name).bind fun y_169 => (if (!y_169) = true then (ref05_One.j2 (ref05_One.l1 a0 y_41 k) y_41 x_92 true) else (if (decide (x_92 < (a0.Keys.length : Int))) = true then ((ix y_41 x_92).bind fun y_173 => (ref05_One.j2 (ref05_One.l1 a0 y_41 k) y_41 x_92 (y_173.Kind == 4))) else (ref05_One.j2 (ref05_One.l1 a0 y_41 k) y_41 x_92 false))))) else ((ref02_Cols y_41).bind fun y_182 => some y_182))
def ref05_One.j0 (a0 : api_Schema) (x_8 : Bool) : Option Bool :=
  (if x_8 = true then some false else ((apd 24 ([] : List api_Col) a0.Keys).bind fun y_35 => ((apd 24 y_35 a0.Vals).bind fun y_41 => (ref05_One.l1 a0 y_41 (((y_41.length : Int) - 0).toNat + 1) 0))))
def ref05_One (a0 : api_Schema) : Option Bool :=
  ((ref05_Word a0.Name).bind fun y_10 => (if (!y_10) = true then (ref05_One.j0 a0 true) else (if (decide ((a0.Keys.length : Int) < 1)) = true then (ref05_One.j0 a0 true) else (if (decide ((a0.Keys.length : Int) > 4)) = true then (ref05_One.j0 a0 true) else (if (decide ((a0.Vals.length : Int) < 1)) = true then (ref05_One.j0 a0 true) else (ref05_One.j0 a0 (decide ((a0.Vals.length : Int) > 4))))))))
def ref05_Check.l2 (kl1 : Int → Option Int) (a0 : List api_Schema) (x_25 : Int) : Nat → Int → Option Int
  | 0, _ => none
  | k + 1, x_281 => (if (decide (x_281 < x_25)) = true then ((ix a0 x_281).bind fun y_364 => ((ix a0 x_25).bind fun y_377 => (if (y_364.Name.toList == y_377.Name.toList) = true then some 50 else (ref05_Check.l2 kl1 a0 x_25 k (IntKind.i64.wrap (x_281 + 1)))))) else (kl1 (IntKind.i64.wrap (x_25 + 1))))
def ref05_Check.l1 (a0 : List api_Schema) : Nat → Int → Option Int
  | 0, _ => none
  | k + 1, x_25 => (if (decide (x_25 < (a0.length : Int))) = true then ((ix a0 x_25).bind fun y_210 => ((ref05_One y_210).bind fun y_223 => (if (!y_223) = true then some 50 else (ref05_Check.l2 (ref05_Check.l1 a0 k) a0 x_25 ((x_25 - 0).toNat + 1) 0)))) else some 0)
def ref05_Check.j0 (a0 : List api_Schema) (x_2 : Bool) : Option Int :=
  (if x_2 = true then some 50 else (ref05_Check.l1 a0 (((a0.length : Int) - 0).toNat + 1) 0))
def ref05_Check (a0 : List api_Schema) : Option Int :=
  (if (decide ((a0.length : Int) < 1)) = true then (ref05_Check.j0 a0 true) else (ref05_Check.j0 a0 (decide ((a0.length : Int) > 8))))
def ref08_New (a0 : List api_Schema) (a1 : Int) : Option ((Option catchmentref08_Leaf) × Int) :=
  ((ref05_Check a0).bind fun y_1 => (if (y_1 != 0) = true then some (none, y_1) else some ((some (⟨a0, a1, ([] : List api_Point)⟩ : catchmentref08_Leaf)), 0)))
def slices_Clone_streams_stream_streams_stream (a0 : List streams_stream) : Option (List streams_stream) :=
  ((apd 40 ([] : List streams_stream) a0).bind fun y_4 => some y_4)
def maps_Clone_map_string_int_string_int (a0 : List (ByteArray × Int)) : Option (List (ByteArray × Int)) :=
  some a0
def streams_Dict_Clone (a0 : streams_Dict) : Option streams_Dict :=
  ((slices_Clone_streams_stream_streams_stream a0.l).bind fun y_16 => ((maps_Clone_map_string_int_string_int a0.ids).bind fun y_24 => some (⟨a0.most, y_16, y_24⟩ : streams_Dict)))
def slices_Clone_api_Sample_api_Sample (a0 : List api_Sample) : Option (List api_Sample) :=
  ((apd 32 ([] : List api_Sample) a0).bind fun y_4 => some y_4)
def runs_Run_Clone (a0 : runs_Run) : Option runs_Run :=
  ((slices_Clone_api_Sample_api_Sample a0.l).bind fun y_1 => some (⟨y_1⟩ : runs_Run))
def leaf_Leaf_Clone (a0 : leaf_Leaf) : Option (leaf_Leaf × leaf_Leaf) :=
  ((streams_Dict_Clone a0.dict).bind fun y_2 => (if (a0.runs.all fun p => decide (runs_Run_Clone p.2 = some p.2)) = true then some ((⟨a0.schemas, a0.room, a0.points, y_2, a0.runs⟩ : leaf_Leaf), a0) else none))
def ref05_Find.l0 (a0 : List api_Schema) (a1 : ByteArray) : Nat → Int → Option (api_Schema × Bool)
  | 0, _ => none
  | k + 1, x_31 => (if (decide (x_31 < (a0.length : Int))) = true then ((ix a0 x_31).bind fun y_62 => (if (y_62.Name.toList == a1.toList) = true then ((ix a0 x_31).bind fun y_76 => some (y_76, true)) else (ref05_Find.l0 a0 a1 k (IntKind.i64.wrap (x_31 + 1))))) else some ((⟨(⟨#[]⟩ : ByteArray), [], []⟩ : api_Schema), false))
def ref05_Find (a0 : List api_Schema) (a1 : ByteArray) : Option (api_Schema × Bool) :=
  (ref05_Find.l0 a0 a1 (((a0.length : Int) - 0).toNat + 1) 0)
def ref01_Valid (a0 : api_Value) : Option Bool :=
  (if (a0.Kind == 1) = true then (if (a0.S.toList == (⟨#[]⟩ : ByteArray).toList) = true then some (decide (a0.H = (⟨0, 0, 0, 0, 0, 0, 0, 0⟩ : Arr8))) else some false) else (if (a0.Kind == 2) = true then (if (a0.N == 0) = true then (if (decide (a0.H = (⟨0, 0, 0, 0, 0, 0, 0, 0⟩ : Arr8))) = true then some (decide ((a0.S.size : Int) ≤ 64)) else some false) else some false) else (if (a0.Kind == 3) = true then (if (a0.N == 0) = true then (if (a0.S.toList == (⟨#[]⟩ : ByteArray).toList) = true then some (decide (a0.H = (⟨0, 0, 0, 0, 0, 0, 0, 0⟩ : Arr8))) else some false) else (if (a0.N == 1) = true then (if (a0.S.toList == (⟨#[]⟩ : ByteArray).toList) = true then some (decide (a0.H = (⟨0, 0, 0, 0, 0, 0, 0, 0⟩ : Arr8))) else some false) else some false)) else (if (a0.Kind == 4) = true then (if (a0.N == 0) = true then some (a0.S.toList == (⟨#[]⟩ : ByteArray).toList) else some false) else some false))))
def ref05_fits.j1 (kl0 : Int → Option Bool) (a0 : List api_Value) (x_127 : Int) (x_314 : Bool) : Option Bool :=
  (if x_314 = true then some false else (kl0 (IntKind.i64.wrap (x_127 + 1))))
def ref05_fits.l0 (a0 : List api_Value) (a1 : List api_Col) : Nat → Int → Option Bool
  | 0, _ => none
  | k + 1, x_127 => (if (decide (x_127 < (a0.length : Int))) = true then ((ix a0 x_127).bind fun y_346 => ((ix a1 x_127).bind fun y_355 => (if (y_346.Kind != y_355.Kind) = true then (ref05_fits.j1 (ref05_fits.l0 a0 a1 k) a0 x_127 true) else ((ix a0 x_127).bind fun y_365 => ((ref01_Valid y_365).bind fun y_374 => (ref05_fits.j1 (ref05_fits.l0 a0 a1 k) a0 x_127 (!y_374))))))) else some true)
def ref05_fits (a0 : List api_Value) (a1 : List api_Col) : Option Bool :=
  (if ((a0.length : Int) != (a1.length : Int)) = true then some false else (ref05_fits.l0 a0 a1 (((a0.length : Int) - 0).toNat + 1) 0))
def ref05_Fits.j0 (x_19 : Bool) : Option Int :=
  (if x_19 = true then some 51 else some 0)
def ref05_Fits (a0 : List api_Schema) (a1 : api_Point) : Option Int :=
  ((ref05_Find a0 a1.Schema).bind fun y_2 => (if (!y_2.2) = true then some 50 else ((ref05_fits a1.Keys y_2.1.Keys).bind fun y_21 => (if (!y_21) = true then (ref05_Fits.j0 true) else ((ref05_fits a1.Vals y_2.1.Vals).bind fun y_24 => (if (!y_24) = true then (ref05_Fits.j0 true) else (if (decide (a1.Time < 0)) = true then (ref05_Fits.j0 true) else (ref05_Fits.j0 (decide (a1.Time ≥ 1099511627776))))))))))
def ref01_order (a0 : Int) (a1 : Int) : Option Int :=
  (if (decide (a0 < a1)) = true then some (-1) else (if (decide (a0 > a1)) = true then some 1 else some 0))
def ref01_Compare.l2 (a0 : api_Value) (a1 : api_Value) : Nat → Int → Option Int
  | 0, _ => none
  | k + 1, x_100 => (if (decide (x_100 < 8)) = true then ((Arr8.ix a0.H x_100).bind fun y_129 => ((Arr8.ix a1.H x_100).bind fun y_131 => (if (y_129 != y_131) = true then ((Arr8.ix a0.H x_100).bind fun y_140 => ((Arr8.ix a1.H x_100).bind fun y_142 => ((ref01_order y_140 y_142).bind fun y_144 => some y_144))) else (ref01_Compare.l2 a0 a1 k (IntKind.i64.wrap (x_100 + 1)))))) else some 0)
def ref01_Compare.j1 (kl0 : Int → Option Int) (a0 : api_Value) (a1 : api_Value) (x_36 : Int) (x_66 : Bool) : Option Int :=
  (if x_66 = true then ((ixs a0.S x_36).bind fun y_74 => ((ixs a1.S x_36).bind fun y_76 => (if (y_74 != y_76) = true then ((ixs a0.S x_36).bind fun y_85 => ((ixs a1.S x_36).bind fun y_87 => ((ref01_order (IntKind.i64.wrap y_85) (IntKind.i64.wrap y_87)).bind fun y_89 => some y_89))) else (kl0 (IntKind.i64.wrap (x_36 + 1)))))) else (if ((a0.S.size : Int) != (a1.S.size : Int)) = true then ((ref01_order (a0.S.size : Int) (a1.S.size : Int)).bind fun y_92 => some y_92) else (ref01_Compare.l2 a0 a1 (((8 : Int) - 0).toNat + 1) 0)))
def ref01_Compare.l0 (a0 : api_Value) (a1 : api_Value) : Nat → Int → Option Int
  | 0, _ => none
  | k + 1, x_36 => (if (decide (x_36 < (a0.S.size : Int))) = true then (ref01_Compare.j1 (ref01_Compare.l0 a0 a1 k) a0 a1 x_36 (decide (x_36 < (a1.S.size : Int)))) else (ref01_Compare.j1 (ref01_Compare.l0 a0 a1 k) a0 a1 x_36 false))
def ref01_Compare (a0 : api_Value) (a1 : api_Value) : Option Int :=
  (if (a0.Kind != a1.Kind) = true then ((ref01_order a0.Kind a1.Kind).bind fun y_4 => some y_4) else (if (a0.N != a1.N) = true then ((ref01_order a0.N a1.N).bind fun y_7 => some y_7) else (ref01_Compare.l0 a0 a1 (((a0.S.size : Int) - 0).toNat + 1) 0)))
def ref02_Row.j1 (kl0 : Int → Option Int) (a0 : List api_Value) (a1 : List api_Value) (x_48 : Int) (x_98 : Bool) : Option Int :=
  (if x_98 = true then ((ix a0 x_48).bind fun y_122 => ((ix a1 x_48).bind fun y_131 => ((ref01_Compare y_122 y_131).bind fun y_140 => (if (y_140 != 0) = true then some y_140 else (kl0 (IntKind.i64.wrap (x_48 + 1))))))) else (if (decide ((a0.length : Int) < (a1.length : Int))) = true then some (-1) else (if (decide ((a0.length : Int) > (a1.length : Int))) = true then some 1 else some 0)))
def ref02_Row.l0 (a0 : List api_Value) (a1 : List api_Value) : Nat → Int → Option Int
  | 0, _ => none
  | k + 1, x_48 => (if (decide (x_48 < (a0.length : Int))) = true then (ref02_Row.j1 (ref02_Row.l0 a0 a1 k) a0 a1 x_48 (decide (x_48 < (a1.length : Int)))) else (ref02_Row.j1 (ref02_Row.l0 a0 a1 k) a0 a1 x_48 false))
def ref02_Row (a0 : List api_Value) (a1 : List api_Value) : Option Int :=
  (ref02_Row.l0 a0 a1 (((a0.length : Int) - 0).toNat + 1) 0)
def ref08_Leaf_Write.j1 (kl0 : Int → Option (Bool × Int × catchmentref08_Leaf)) (a0 : catchmentref08_Leaf) (x_33 : Int) (x_78 : Bool) : Option (Bool × Int × catchmentref08_Leaf) :=
  (if x_78 = true then some (false, 0, a0) else (kl0 (IntKind.i64.wrap (x_33 + 1))))
def ref08_Leaf_Write.l0 (a0 : catchmentref08_Leaf) (a1 : api_Point) : Nat → Int → Option (Bool × Int × catchmentref08_Leaf)
  | 0, _ => none
  | k + 1, x_33 => (if (decide (x_33 < (a0.L.length : Int))) = true then ((ix a0.L x_33).bind fun y_61 => (if (y_61.Schema.toList == a1.Schema.toList) = true then (if (y_61.Time == a1.Time) = true then ((ref02_Row y_61.Keys a1.Keys).bind fun y_82 => (ref08_Leaf_Write.j1 (ref08_Leaf_Write.l0 a0 a1 k) a0 x_33 (y_82 == 0))) else (ref08_Leaf_Write.j1 (ref08_Leaf_Write.l0 a0 a1 k) a0 x_33 false)) else (ref08_Leaf_Write.j1 (ref08_Leaf_Write.l0 a0 a1 k) a0 x_33 false))) else (if (decide ((a0.L.length : Int) ≥ a0.Room)) = true then some (false, 80, a0) else ((apd 96 ([] : List api_Value) a1.Keys).bind fun y_89 => ((apd 96 ([] : List api_Value) a1.Vals).bind fun y_98 => ((apd 72 a0.L [(⟨a1.Schema, y_89, a1.Time, y_98⟩ : api_Point)]).bind fun y_124 => some (true, 0, (⟨a0.S, a0.Room, y_124⟩ : catchmentref08_Leaf)))))))
def ref08_Leaf_Write (a0 : catchmentref08_Leaf) (a1 : api_Point) : Option (Bool × Int × catchmentref08_Leaf) :=
  ((ref05_Fits a0.S a1).bind fun y_4 => (if (y_4 != 0) = true then some (false, y_4, a0) else (ref08_Leaf_Write.l0 a0 a1 (((a0.L.length : Int) - 0).toNat + 1) 0)))
def ref05_Cols (a0 : api_Schema) : Option (List api_Col) :=
  ((apd 24 [(⟨(⟨#[116, 105, 109, 101]⟩ : ByteArray), 1⟩ : api_Col)] a0.Keys).bind fun y_19 => ((apd 24 y_19 a0.Vals).bind fun y_25 => some y_25))
def ref02_sorted.j3 (kl0 : (List (List api_Value)) → Int → Int → Option (List (List api_Value))) (y_16 : List (List api_Value)) (y_29 : List (List api_Value)) (x_557 : List (List api_Value)) (x_561 : Int) (x_562 : Int) : Option (List (List api_Value)) :=
  (kl0 x_557 x_561 x_562)
def ref02_sorted.j2 (kl0 : (List (List api_Value)) → Int → Int → Option (List (List api_Value))) (y_16 : List (List api_Value)) (y_29 : List (List api_Value)) (x_228 : List (List api_Value)) (x_232 : Int) (x_233 : Int) (x_471 : Bool) : Option (List (List api_Value)) :=
  (if x_471 = true then ((ix y_16 x_232).bind fun y_565 => ((apd 24 x_228 [y_565]).bind fun y_576 => (ref02_sorted.j3 kl0 y_16 y_29 y_576 (IntKind.i64.wrap (x_232 + 1)) x_233))) else ((ix y_29 x_233).bind fun y_582 => ((apd 24 x_228 [y_582]).bind fun y_593 => (ref02_sorted.j3 kl0 y_16 y_29 y_593 x_232 (IntKind.i64.wrap (x_233 + 1))))))
def ref02_sorted.j1 (kl0 : (List (List api_Value)) → Int → Int → Option (List (List api_Value))) (y_16 : List (List api_Value)) (y_29 : List (List api_Value)) (x_228 : List (List api_Value)) (x_232 : Int) (x_233 : Int) (x_419 : Bool) : Option (List (List api_Value)) :=
  (if x_419 = true then (if (x_233 == (y_29.length : Int)) = true then (ref02_sorted.j2 kl0 y_16 y_29 x_228 x_232 x_233 true) else (if (decide (x_232 < (y_16.length : Int))) = true then ((ix y_16 x_232).bind fun y_499 => ((ix y_29 x_233).bind fun y_509 => ((ref02_Row y_499 y_509).bind fun y_519 => (ref02_sorted.j2 kl0 y_16 y_29 x_228 x_232 x_233 (decide (y_519 ≤ 0)))))) else (ref02_sorted.j2 kl0 y_16 y_29 x_228 x_232 x_233 false))) else some x_228)
def ref02_sorted.l0 (y_16 : List (List api_Value)) (y_29 : List (List api_Value)) : Nat → (List (List api_Value)) → Int → Int → Option (List (List api_Value))
  | 0, _, _, _ => none
  | k + 1, x_228, x_232, x_233 => (if (decide (x_232 < (y_16.length : Int))) = true then (ref02_sorted.j1 (ref02_sorted.l0 y_16 y_29 k) y_16 y_29 x_228 x_232 x_233 true) else (ref02_sorted.j1 (ref02_sorted.l0 y_16 y_29 k) y_16 y_29 x_228 x_232 x_233 (decide (x_233 < (y_29.length : Int)))))
def ref02_sorted.b (kr_64 : (List (List api_Value)) → Option (List (List api_Value))) (a0 : List (List api_Value)) : Option (List (List api_Value)) :=
  (if (decide ((a0.length : Int) < 2)) = true then ((apd 24 ([] : List (List api_Value)) a0).bind fun y_5 => some y_5) else ((cut a0 0 (IntKind.i64.wrap ((a0.length : Int).tdiv 2))).bind fun y_11 => ((kr_64 y_11).bind fun y_16 => ((cut a0 (IntKind.i64.wrap ((a0.length : Int).tdiv 2)) a0.length).bind fun y_24 => ((kr_64 y_24).bind fun y_29 => (ref02_sorted.l0 y_16 y_29 (y_16.length + y_29.length + 1) [] 0 0))))))
def ref02_sorted.r : Nat → (List (List api_Value)) → Option (List (List api_Value))
  | 0, _ => none
  | k + 1, a0 => ref02_sorted.b (ref02_sorted.r k) a0
def ref02_sorted (a0 : List (List api_Value)) : Option (List (List api_Value)) := ref02_sorted.r (a0.length + 1) a0
def ref02_Canon (a0 : api_Table) : Option api_Table :=
  ((apd 24 ([] : List api_Col) a0.Cols).bind fun y_25 => ((ref02_sorted a0.Rows).bind fun y_31 => some (⟨y_25, y_31⟩ : api_Table)))
def ref08_Leaf_Scan.j2 (kl0 : (List (List api_Value)) → Int → Option (api_Table × Int × catchmentref08_Leaf)) (a0 : catchmentref08_Leaf) (x_181 : Int) (x_390 : List (List api_Value)) : Option (api_Table × Int × catchmentref08_Leaf) :=
  (kl0 x_390 (IntKind.i64.wrap (x_181 + 1)))
def ref08_Leaf_Scan.j1 (kl0 : (List (List api_Value)) → Int → Option (api_Table × Int × catchmentref08_Leaf)) (a0 : catchmentref08_Leaf) (x_177 : List (List api_Value)) (x_181 : Int) (y_318 : api_Point) (x_333 : Bool) : Option (api_Table × Int × catchmentref08_Leaf) :=
  (if x_333 = true then ((apd 96 [(⟨1, y_318.Time, (⟨#[]⟩ : ByteArray), (⟨0, 0, 0, 0, 0, 0, 0, 0⟩ : Arr8)⟩ : api_Value)] y_318.Keys).bind fun y_425 => ((apd 96 y_425 y_318.Vals).bind fun y_431 => ((apd 24 x_177 [y_431]).bind fun y_442 => (ref08_Leaf_Scan.j2 kl0 a0 x_181 y_442)))) else (ref08_Leaf_Scan.j2 kl0 a0 x_181 x_177))
def ref08_Leaf_Scan.l0 (a0 : catchmentref08_Leaf) (a1 : ByteArray) (a2 : Int) (a3 : Int) (y_16 : List api_Col) : Nat → (List (List api_Value)) → Int → Option (api_Table × Int × catchmentref08_Leaf)
  | 0, _, _ => none
  | k + 1, x_177, x_181 => (if (decide (x_181 < (a0.L.length : Int))) = true then ((ix a0.L x_181).bind fun y_318 => (if (y_318.Schema.toList == a1.toList) = true then (if (decide (y_318.Time ≥ a2)) = true then (ref08_Leaf_Scan.j1 (ref08_Leaf_Scan.l0 a0 a1 a2 a3 y_16 k) a0 x_177 x_181 y_318 (decide (y_318.Time ≤ a3))) else (ref08_Leaf_Scan.j1 (ref08_Leaf_Scan.l0 a0 a1 a2 a3 y_16 k) a0 x_177 x_181 y_318 false)) else (ref08_Leaf_Scan.j1 (ref08_Leaf_Scan.l0 a0 a1 a2 a3 y_16 k) a0 x_177 x_181 y_318 false))) else ((ref02_Canon (⟨y_16, x_177⟩ : api_Table)).bind fun y_454 => some (y_454, 0, a0)))
def ref08_Leaf_Scan (a0 : catchmentref08_Leaf) (a1 : ByteArray) (a2 : Int) (a3 : Int) : Option (api_Table × Int × catchmentref08_Leaf) :=
  ((ref05_Find a0.S a1).bind fun y_2 => (if (!y_2.2) = true then some ((⟨([] : List api_Col), ([] : List (List api_Value))⟩ : api_Table), 50, a0) else ((ref05_Cols y_2.1).bind fun y_16 => (ref08_Leaf_Scan.l0 a0 a1 a2 a3 y_16 (((a0.L.length : Int) - 0).toNat + 1) [] 0))))
def ref02_SameCols.l0 (a0 : List api_Col) (a1 : List api_Col) : Nat → Int → Option Bool
  | 0, _ => none
  | k + 1, x_41 => (if (decide (x_41 < (a0.length : Int))) = true then ((ix a0 x_41).bind fun y_100 => ((ix a1 x_41).bind fun y_109 => (if (!decide (y_100 = y_109)) = true then some false else (ref02_SameCols.l0 a0 a1 k (IntKind.i64.wrap (x_41 + 1)))))) else some true)
def ref02_SameCols (a0 : List api_Col) (a1 : List api_Col) : Option Bool :=
  (if ((a0.length : Int) != (a1.length : Int)) = true then some false else (ref02_SameCols.l0 a0 a1 (((a0.length : Int) - 0).toNat + 1) 0))
def ref02_Same.l1 (a0 : api_Table) (a1 : api_Table) : Nat → Int → Option Bool
  | 0, _ => none
  | k + 1, x_63 => (if (decide (x_63 < (a0.Rows.length : Int))) = true then ((ix a0.Rows x_63).bind fun y_140 => ((ix a1.Rows x_63).bind fun y_151 => ((ref02_Row y_140 y_151).bind fun y_162 => (if (y_162 != 0) = true then some false else (ref02_Same.l1 a0 a1 k (IntKind.i64.wrap (x_63 + 1))))))) else some true)
def ref02_Same.j0 (a0 : api_Table) (a1 : api_Table) (x_6 : Bool) : Option Bool :=
  (if x_6 = true then some false else (ref02_Same.l1 a0 a1 (((a0.Rows.length : Int) - 0).toNat + 1) 0))
def ref02_Same (a0 : api_Table) (a1 : api_Table) : Option Bool :=
  ((ref02_SameCols a0.Cols a1.Cols).bind fun y_8 => (if (!y_8) = true then (ref02_Same.j0 a0 a1 true) else (ref02_Same.j0 a0 a1 ((a0.Rows.length : Int) != (a1.Rows.length : Int)))))
def law08_LeafPlays.j1 (y_19 : (Option leaf_Leaf) × Int) (x_57 : Bool) : Option Bool :=
  (if x_57 = true then some false else (if (y_19.2 != 0) = true then some true else some false))
def law08_LeafPlays.j2 (y_19 : (Option leaf_Leaf) × Int) (x_63 : Bool) : Option Bool :=
  (if x_63 = true then some false else (if (y_19.2 != 0) = true then some true else some false))
def law08_LeafPlays.j6 (a2 : List api_Point) (y_351 : api_Point) (y_368 : List api_Value) (y_377 : List api_Value) (x_470 : List api_Schema) (x_471 : Int) (x_472 : Int) (x_474 : Int) (x_476 : List streams_stream) (x_481 : List (ByteArray × Int)) (x_483 : List (Int × runs_Run)) : Option Bool :=
  ((leaf_Leaf_Write (⟨x_470, x_471, x_472, (⟨x_474, x_476, x_481⟩ : streams_Dict), x_483⟩ : leaf_Leaf) (⟨y_351.Schema, y_368, y_351.Time, y_377⟩ : api_Point)).bind fun y_572 => ((ix a2 0).bind fun y_587 => none))
def law08_LeafPlays.l7 (x_11 : List api_Schema) (y_23 : leaf_Leaf) : Nat → Option Bool
  | 0 => none
  | k + 1 => (if (decide (0 < (x_11.length : Int))) = true then ((ix x_11 0).bind fun y_654 => ((leaf_Leaf_Scan y_23 y_654.Name (-9223372036854775808) 9223372036854775807).bind fun y_667 => ((ix x_11 0).bind fun y_692 => none))) else some true)
def law08_LeafPlays.j5 (a2 : List api_Point) (x_11 : List api_Schema) (y_23 : leaf_Leaf) (x_347 : Bool) : Option Bool :=
  (if x_347 = true then ((ix a2 0).bind fun y_351 => ((apd 96 ([] : List api_Value) y_351.Keys).bind fun y_368 => ((apd 96 ([] : List api_Value) y_351.Vals).bind fun y_377 => (if (((0 : Int).tmod 7) == 6) = true then ((leaf_Leaf_Clone y_23).bind fun y_489 => ((ix a2 0).bind fun y_516 => ((leaf_Leaf_Write y_489.2 y_516).bind fun y_529 => ((ix a2 0).bind fun y_544 => ((leaf_Leaf_Write y_529.2.2 y_544).bind fun y_557 => (law08_LeafPlays.j6 a2 y_351 y_368 y_377 y_489.1.schemas y_489.1.room y_489.1.points y_489.1.dict.most y_489.1.dict.l y_489.1.dict.ids y_489.1.runs)))))) else (law08_LeafPlays.j6 a2 y_351 y_368 y_377 y_23.schemas y_23.room y_23.points y_23.dict.most y_23.dict.l y_23.dict.ids y_23.runs))))) else (law08_LeafPlays.l7 x_11 y_23 (((x_11.length : Int) - 0).toNat + 1)))
def law08_LeafPlays.l4 (a2 : List api_Point) (x_11 : List api_Schema) (y_23 : leaf_Leaf) : Nat → Option Bool
  | 0 => none
  | k + 1 => (if (decide (0 < (a2.length : Int))) = true then (law08_LeafPlays.j5 a2 x_11 y_23 true) else (law08_LeafPlays.j5 a2 x_11 y_23 false))
def law08_LeafPlays.j3 (a2 : List api_Point) (x_11 : List api_Schema) (y_19 : (Option leaf_Leaf) × Int) (y_23 : leaf_Leaf) (x_85 : Bool) : Option Bool :=
  (if x_85 = true then some false else (if (y_19.2 != 0) = true then some false else (law08_LeafPlays.l4 a2 x_11 y_23 (((a2.length : Int) - 0).toNat + 1))))
def law08_LeafPlays.j17 (kl9 : (List api_Schema) → Int → Int → Int → (List streams_stream) → (List (ByteArray × Int)) → (List (Int × runs_Run)) → (List api_Schema) → Int → (List api_Point) → Int → Option Bool) (a2 : List api_Point) (x_1990 : Int) (x_4135 : List api_Schema) (x_4136 : Int) (x_4138 : List api_Point) (x_4362 : List api_Schema) (x_4363 : Int) (x_4364 : Int) (x_4366 : Int) (x_4368 : List streams_stream) (x_4373 : List (ByteArray × Int)) (x_4375 : List (Int × runs_Run)) : Option Bool :=
  (kl9 x_4362 x_4363 x_4364 x_4366 x_4368 x_4373 x_4375 x_4135 x_4136 x_4138 (IntKind.i64.wrap (x_1990 + 1)))
def law08_LeafPlays.j16 (kl9 : (List api_Schema) → Int → Int → Int → (List streams_stream) → (List (ByteArray × Int)) → (List (Int × runs_Run)) → (List api_Schema) → Int → (List api_Point) → Int → Option Bool) (a2 : List api_Point) (x_1990 : Int) (x_4135 : List api_Schema) (x_4136 : Int) (x_4138 : List api_Point) (x_4362 : List api_Schema) (x_4363 : Int) (x_4364 : Int) (x_4366 : Int) (x_4368 : List streams_stream) (x_4373 : List (ByteArray × Int)) (x_4375 : List (Int × runs_Run)) (x_4379 : List (List api_Value)) (x_4384 : Bool) : Option Bool :=
  (if x_4384 = true then some false else (if (decide ((x_4379.length : Int) > 0)) = true then ((ix x_4379 0).bind fun y_4467 => ((ix y_4467 0).bind fun y_4477 => (law08_LeafPlays.j17 kl9 a2 x_1990 x_4135 x_4136 x_4138 x_4362 x_4363 x_4364 x_4366 x_4368 x_4373 x_4375))) else (law08_LeafPlays.j17 kl9 a2 x_1990 x_4135 x_4136 x_4138 x_4362 x_4363 x_4364 x_4366 x_4368 x_4373 x_4375)))
def law08_LeafPlays.j15 (kl9 : (List api_Schema) → Int → Int → Int → (List streams_stream) → (List (ByteArray × Int)) → (List (Int × runs_Run)) → (List api_Schema) → Int → (List api_Point) → Int → Option Bool) (a2 : List api_Point) (x_1990 : Int) (y_3470 : Bool × Int × leaf_Leaf) (y_3498 : Bool × Int × catchmentref08_Leaf) (x_3802 : List api_Schema) (x_3803 : Int) (x_3804 : Int) (x_3806 : Int) (x_3808 : List streams_stream) (x_3813 : List (ByteArray × Int)) (x_3815 : List (Int × runs_Run)) (x_3820 : List api_Col) (x_3830 : Int) (x_4135 : List api_Schema) (x_4136 : Int) (x_4138 : List api_Point) (x_4143 : List (List api_Value)) (x_4150 : List api_Col) (x_4155 : List (List api_Value)) (x_4159 : Int) : Option Bool :=
  ((ref02_Same (⟨x_3820, x_4143⟩ : api_Table) (⟨x_4150, x_4155⟩ : api_Table)).bind fun y_4310 => (if (!(y_3470.1 == y_3498.1)) = true then (law08_LeafPlays.j16 kl9 a2 x_1990 x_4135 x_4136 x_4138 x_3802 x_3803 x_3804 x_3806 x_3808 x_3813 x_3815 x_4143 true) else (if (y_3470.2.1 != y_3498.2.1) = true then (law08_LeafPlays.j16 kl9 a2 x_1990 x_4135 x_4136 x_4138 x_3802 x_3803 x_3804 x_3806 x_3808 x_3813 x_3815 x_4143 true) else (if (!y_4310) = true then (law08_LeafPlays.j16 kl9 a2 x_1990 x_4135 x_4136 x_4138 x_3802 x_3803 x_3804 x_3806 x_3808 x_3813 x_3815 x_4143 true) else (if (x_3830 != x_4159) = true then (law08_LeafPlays.j16 kl9 a2 x_1990 x_4135 x_4136 x_4138 x_3802 x_3803 x_3804 x_3806 x_3808 x_3813 x_3815 x_4143 true) else ((leaf_Leaf_Points (⟨x_3802, x_3803, x_3804, (⟨x_3806, x_3808, x_3813⟩ : streams_Dict), x_3815⟩ : leaf_Leaf)).bind fun y_4415 => (law08_LeafPlays.j16 kl9 a2 x_1990 x_4135 x_4136 x_4138 y_4415.2.schemas y_4415.2.room y_4415.2.points y_4415.2.dict.most y_4415.2.dict.l y_4415.2.dict.ids y_4415.2.runs x_4143 (y_4415.1 != (x_4138.length : Int)))))))))
def law08_LeafPlays.j14 (kl9 : (List api_Schema) → Int → Int → Int → (List streams_stream) → (List (ByteArray × Int)) → (List (Int × runs_Run)) → (List api_Schema) → Int → (List api_Point) → Int → Option Bool) (a2 : List api_Point) (x_1990 : Int) (y_3470 : Bool × Int × leaf_Leaf) (y_3498 : Bool × Int × catchmentref08_Leaf) (y_3622 : api_Point) (y_3635 : api_Point) (x_3802 : List api_Schema) (x_3803 : Int) (x_3804 : Int) (x_3806 : Int) (x_3808 : List streams_stream) (x_3813 : List (ByteArray × Int)) (x_3815 : List (Int × runs_Run)) (x_3820 : List api_Col) (x_3825 : List (List api_Value)) (x_3830 : Int) : Option Bool :=
  ((ix a2 x_1990).bind fun y_4236 => ((ix a2 x_1990).bind fun y_4249 => ((ref08_Leaf_Scan y_3498.2.2 y_4236.Schema (IntKind.i64.wrap (y_3622.Time - (y_3635.Time.tmod 8))) y_4249.Time).bind fun y_4262 => (law08_LeafPlays.j15 kl9 a2 x_1990 y_3470 y_3498 x_3802 x_3803 x_3804 x_3806 x_3808 x_3813 x_3815 x_3820 x_3830 y_4262.2.2.S y_4262.2.2.Room y_4262.2.2.L x_3825 y_4262.1.Cols y_4262.1.Rows y_4262.2.1))))
def law08_LeafPlays.l13 (kl9 : (List api_Schema) → Int → Int → Int → (List streams_stream) → (List (ByteArray × Int)) → (List (Int × runs_Run)) → (List api_Schema) → Int → (List api_Point) → Int → Option Bool) (a2 : List api_Point) (x_1990 : Int) (y_3275 : List api_Value) (y_3470 : Bool × Int × leaf_Leaf) (y_3498 : Bool × Int × catchmentref08_Leaf) : Nat → (List api_Value) → Int → Option Bool
  | 0, _, _ => none
  | k + 1, x_3566, x_3570 => (if (decide (x_3570 < (x_3566.length : Int))) = true then ((ix x_3566 x_3570).bind fun y_3585 => (law08_LeafPlays.l13 kl9 a2 x_1990 y_3275 y_3470 y_3498 k (upd x_3566 x_3570 (⟨0, 0, (⟨#[]⟩ : ByteArray), (⟨0, 0, 0, 0, 0, 0, 0, 0⟩ : Arr8)⟩ : api_Value)) (IntKind.i64.wrap (x_3570 + 1)))) else ((ix a2 x_1990).bind fun y_3622 => ((ix a2 x_1990).bind fun y_3635 => ((ix a2 x_1990).bind fun y_3909 => ((ix a2 x_1990).bind fun y_3922 => ((leaf_Leaf_Scan y_3470.2.2 y_3909.Schema (IntKind.i64.wrap (y_3622.Time - (y_3635.Time.tmod 8))) y_3922.Time).bind fun y_3935 => (law08_LeafPlays.j14 kl9 a2 x_1990 y_3470 y_3498 y_3622 y_3635 y_3935.2.2.schemas y_3935.2.2.room y_3935.2.2.points y_3935.2.2.dict.most y_3935.2.2.dict.l y_3935.2.2.dict.ids y_3935.2.2.runs y_3935.1.Cols y_3935.1.Rows y_3935.2.1)))))))
def law08_LeafPlays.l12 (kl9 : (List api_Schema) → Int → Int → Int → (List streams_stream) → (List (ByteArray × Int)) → (List (Int × runs_Run)) → (List api_Schema) → Int → (List api_Point) → Int → Option Bool) (a2 : List api_Point) (x_1990 : Int) (y_3266 : List api_Value) (y_3275 : List api_Value) (y_3470 : Bool × Int × leaf_Leaf) (y_3498 : Bool × Int × catchmentref08_Leaf) : Nat → (List api_Value) → Int → Option Bool
  | 0, _, _ => none
  | k + 1, x_3522, x_3526 => (if (decide (x_3526 < (x_3522.length : Int))) = true then ((ix x_3522 x_3526).bind fun y_3541 => (law08_LeafPlays.l12 kl9 a2 x_1990 y_3266 y_3275 y_3470 y_3498 k (upd x_3522 x_3526 (⟨0, 0, (⟨#[]⟩ : ByteArray), (⟨0, 0, 0, 0, 0, 0, 0, 0⟩ : Arr8)⟩ : api_Value)) (IntKind.i64.wrap (x_3526 + 1)))) else (law08_LeafPlays.l13 kl9 a2 x_1990 y_3275 y_3470 y_3498 (((y_3275.length : Int) - 0).toNat + 1) y_3275 0))
def law08_LeafPlays.j11 (kl9 : (List api_Schema) → Int → Int → Int → (List streams_stream) → (List (ByteArray × Int)) → (List (Int × runs_Run)) → (List api_Schema) → Int → (List api_Point) → Int → Option Bool) (a2 : List api_Point) (x_1983 : List api_Schema) (x_1984 : Int) (x_1986 : List api_Point) (x_1990 : Int) (y_3249 : api_Point) (y_3266 : List api_Value) (y_3275 : List api_Value) (x_3368 : List api_Schema) (x_3369 : Int) (x_3370 : Int) (x_3372 : Int) (x_3374 : List streams_stream) (x_3379 : List (ByteArray × Int)) (x_3381 : List (Int × runs_Run)) : Option Bool :=
  ((leaf_Leaf_Write (⟨x_3368, x_3369, x_3370, (⟨x_3372, x_3374, x_3379⟩ : streams_Dict), x_3381⟩ : leaf_Leaf) (⟨y_3249.Schema, y_3266, y_3249.Time, y_3275⟩ : api_Point)).bind fun y_3470 => ((ix a2 x_1990).bind fun y_3485 => ((ref08_Leaf_Write (⟨x_1983, x_1984, x_1986⟩ : catchmentref08_Leaf) y_3485).bind fun y_3498 => (law08_LeafPlays.l12 kl9 a2 x_1990 y_3266 y_3275 y_3470 y_3498 (((y_3266.length : Int) - 0).toNat + 1) y_3266 0))))
def law08_LeafPlays.l18 (x_11 : List api_Schema) : Nat → (List api_Schema) → Int → Int → Int → (List streams_stream) → (List (ByteArray × Int)) → (List (Int × runs_Run)) → (List api_Schema) → Int → (List api_Point) → Int → Option Bool
  | 0, _, _, _, _, _, _, _, _, _, _, _ => none
  | k + 1, x_4576, x_4577, x_4578, x_4580, x_4582, x_4587, x_4589, x_4594, x_4595, x_4597, x_4601 => (if (decide (x_4601 < (x_11.length : Int))) = true then ((ix x_11 x_4601).bind fun y_4684 => ((leaf_Leaf_Scan (⟨x_4576, x_4577, x_4578, (⟨x_4580, x_4582, x_4587⟩ : streams_Dict), x_4589⟩ : leaf_Leaf) y_4684.Name (-9223372036854775808) 9223372036854775807).bind fun y_4697 => ((ix x_11 x_4601).bind fun y_4722 => ((ref08_Leaf_Scan (⟨x_4594, x_4595, x_4597⟩ : catchmentref08_Leaf) y_4722.Name (-9223372036854775808) 9223372036854775807).bind fun y_4735 => ((ref02_Same y_4697.1 y_4735.1).bind fun y_4759 => (if (!y_4759) = true then some false else (law08_LeafPlays.l18 x_11 k y_4697.2.2.schemas y_4697.2.2.room y_4697.2.2.points y_4697.2.2.dict.most y_4697.2.2.dict.l y_4697.2.2.dict.ids y_4697.2.2.runs y_4735.2.2.S y_4735.2.2.Room y_4735.2.2.L (IntKind.i64.wrap (x_4601 + 1))))))))) else some true)
def law08_LeafPlays.j10 (kl9 : (List api_Schema) → Int → Int → Int → (List streams_stream) → (List (ByteArray × Int)) → (List (Int × runs_Run)) → (List api_Schema) → Int → (List api_Point) → Int → Option Bool) (a2 : List api_Point) (x_11 : List api_Schema) (x_1965 : List api_Schema) (x_1966 : Int) (x_1967 : Int) (x_1969 : Int) (x_1971 : List streams_stream) (x_1976 : List (ByteArray × Int)) (x_1978 : List (Int × runs_Run)) (x_1983 : List api_Schema) (x_1984 : Int) (x_1986 : List api_Point) (x_1990 : Int) (x_3245 : Bool) : Option Bool :=
  (if x_3245 = true then ((ix a2 x_1990).bind fun y_3249 => ((apd 96 ([] : List api_Value) y_3249.Keys).bind fun y_3266 => ((apd 96 ([] : List api_Value) y_3249.Vals).bind fun y_3275 => (if ((x_1990.tmod 7) == 6) = true then ((leaf_Leaf_Clone (⟨x_1965, x_1966, x_1967, (⟨x_1969, x_1971, x_1976⟩ : streams_Dict), x_1978⟩ : leaf_Leaf)).bind fun y_3387 => ((ix a2 x_1990).bind fun y_3414 => ((leaf_Leaf_Write y_3387.2 y_3414).bind fun y_3427 => ((ix a2 0).bind fun y_3442 => ((leaf_Leaf_Write y_3427.2.2 y_3442).bind fun y_3455 => (law08_LeafPlays.j11 kl9 a2 x_1983 x_1984 x_1986 x_1990 y_3249 y_3266 y_3275 y_3387.1.schemas y_3387.1.room y_3387.1.points y_3387.1.dict.most y_3387.1.dict.l y_3387.1.dict.ids y_3387.1.runs)))))) else (law08_LeafPlays.j11 kl9 a2 x_1983 x_1984 x_1986 x_1990 y_3249 y_3266 y_3275 x_1965 x_1966 x_1967 x_1969 x_1971 x_1976 x_1978))))) else (law08_LeafPlays.l18 x_11 (((x_11.length : Int) - 0).toNat + 1) x_1965 x_1966 x_1967 x_1969 x_1971 x_1976 x_1978 x_1983 x_1984 x_1986 0))
def law08_LeafPlays.l9 (a2 : List api_Point) (x_11 : List api_Schema) : Nat → (List api_Schema) → Int → Int → Int → (List streams_stream) → (List (ByteArray × Int)) → (List (Int × runs_Run)) → (List api_Schema) → Int → (List api_Point) → Int → Option Bool
  | 0, _, _, _, _, _, _, _, _, _, _, _ => none
  | k + 1, x_1965, x_1966, x_1967, x_1969, x_1971, x_1976, x_1978, x_1983, x_1984, x_1986, x_1990 => (if (decide (x_1990 < (a2.length : Int))) = true then (law08_LeafPlays.j10 (law08_LeafPlays.l9 a2 x_11 k) a2 x_11 x_1965 x_1966 x_1967 x_1969 x_1971 x_1976 x_1978 x_1983 x_1984 x_1986 x_1990 (decide (x_1990 < 100))) else (law08_LeafPlays.j10 (law08_LeafPlays.l9 a2 x_11 k) a2 x_11 x_1965 x_1966 x_1967 x_1969 x_1971 x_1976 x_1978 x_1983 x_1984 x_1986 x_1990 false))
def law08_LeafPlays.j8 (a2 : List api_Point) (x_11 : List api_Schema) (y_19 : (Option leaf_Leaf) × Int) (y_23 : leaf_Leaf) (y_72 : catchmentref08_Leaf) (x_706 : Bool) : Option Bool :=
  (if x_706 = true then some false else (if (y_19.2 != 0) = true then some false else (law08_LeafPlays.l9 a2 x_11 (((a2.length : Int) - 0).toNat + 1) y_23.schemas y_23.room y_23.points y_23.dict.most y_23.dict.l y_23.dict.ids y_23.runs y_72.S y_72.Room y_72.L 0)))
def law08_LeafPlays.j0 (a1 : Int) (y_1 : Bool) (a2 : List api_Point) (x_11 : List api_Schema) : Option Bool :=
  ((leaf_New x_11 a1).bind fun y_19 => (oel y_19.1 (((ref08_New x_11 a1).bind fun y_40 => (oel y_40.1 ((if (!y_1) = true then (law08_LeafPlays.j1 y_19 true) else (law08_LeafPlays.j1 y_19 (y_19.2 != y_40.2)))) fun y_44 => (if (!y_1) = true then (law08_LeafPlays.j2 y_19 true) else (law08_LeafPlays.j2 y_19 (y_19.2 != y_40.2)))))) fun y_23 => ((ref08_New x_11 a1).bind fun y_68 => (oel y_68.1 ((if (!y_1) = true then (law08_LeafPlays.j3 a2 x_11 y_19 y_23 true) else (law08_LeafPlays.j3 a2 x_11 y_19 y_23 (y_19.2 != y_68.2)))) fun y_72 => (if (!y_1) = true then (law08_LeafPlays.j8 a2 x_11 y_19 y_23 y_72 true) else (law08_LeafPlays.j8 a2 x_11 y_19 y_23 y_72 (y_19.2 != y_68.2)))))))
def law08_LeafPlays (a0 : List api_Schema) (a1 : Int) (a2 : List api_Point) : Option Bool :=
  ((law08_shown).bind fun y_1 => (if (decide ((a0.length : Int) > 10)) = true then ((cut a0 0 10).bind fun y_14 => (law08_LeafPlays.j0 a1 y_1 a2 y_14)) else (law08_LeafPlays.j0 a1 y_1 a2 a0)))
end
end Go.Proofs.YtchgiggipimigaaGreatDoor.M
end
