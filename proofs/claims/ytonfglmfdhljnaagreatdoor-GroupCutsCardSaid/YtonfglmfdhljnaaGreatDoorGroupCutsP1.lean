/- For the law GroupCuts: the functions that it comes to, as plain Lean functions (none: Go would panic, or the bound on rounds is used up); nothing is proved here. -/
import Derived.Shelf.Strconv.Itoa3
import Derived.Test.YtonfglmfdhljnaaGreatDoorGroupCutsE2
section
namespace Go.Proofs.YtonfglmfdhljnaaGreatDoor.M
open Go Go.Eng Go.Proofs Go.RowKit
set_option linter.unusedVariables false
set_option maxRecDepth 100000
noncomputable section
structure api_Col where
  Name : ByteArray
  Kind : Int
  deriving DecidableEq
def ty_api_Col : Ty api_Col := Ty.flat 2 (fun x => [.string x.Name, .int .i64 x.Kind]) (fun _ => rfl) (fun _ => all_cons rfl (all_cons rfl (all_nil)))
def ok_api_Col (x : api_Col) : Prop := (fun s => s.size ≤ 140737488351232) x.Name ∧ (fun x => (Lit.int .i64 x).wf = true) x.Kind
structure api_Agg where
  Kind : Int
  Col : ByteArray
  deriving DecidableEq
def ty_api_Agg : Ty api_Agg := Ty.flat 2 (fun x => [.int .i64 x.Kind, .string x.Col]) (fun _ => rfl) (fun _ => all_cons rfl (all_cons rfl (all_nil)))
def ok_api_Agg (x : api_Agg) : Prop := (fun x => (Lit.int .i64 x).wf = true) x.Kind ∧ (fun s => s.size ≤ 140737488351232) x.Col
structure catchmentlaw18_By where
  Names : List ByteArray
  Aggs : List api_Agg
  deriving DecidableEq
def ty_catchmentlaw18_By : Ty catchmentlaw18_By where
  n := 2
  rep := fun R cs x => ∃ v0 v1, cs = [v0, v1] ∧ SlR tyStr R v0 x.Names ∧ SlR ty_api_Agg R v1 x.Aggs
  mono := fun hR ⟨v0, v1, h, h0, h1⟩ => ⟨v0, v1, h, h0.mono hR, h1.mono hR⟩
  len := fun ⟨v0, v1, h, h0, h1⟩ => by subst h; rfl
  one := fun ⟨v0, v1, h, h0, h1⟩ => by subst h; exact all_cons h0.one (all_cons h1.one (all_nil))
def ok_catchmentlaw18_By (x : catchmentlaw18_By) : Prop := (fun xs => xs.length * 16 ≤ 140737488351232 ∧ ∀ x ∈ xs, (fun s => s.size ≤ 140737488351232) x) x.Names ∧ (fun xs => xs.length * 24 ≤ 140737488351232 ∧ ∀ x ∈ xs, ok_api_Agg x) x.Aggs
structure api_Value where
  Kind : Int
  N : Int
  S : ByteArray
  H : Arr8
  deriving DecidableEq
def ty_api_Value : Ty api_Value := Ty.flat 11 (fun x => [.int .i64 x.Kind, .int .i64 x.N, .string x.S, .int .i64 x.H.a0, .int .i64 x.H.a1, .int .i64 x.H.a2, .int .i64 x.H.a3, .int .i64 x.H.a4, .int .i64 x.H.a5, .int .i64 x.H.a6, .int .i64 x.H.a7]) (fun _ => rfl) (fun _ => all_cons rfl (all_cons rfl (all_cons rfl (all_cons rfl (all_cons rfl (all_cons rfl (all_cons rfl (all_cons rfl (all_cons rfl (all_cons rfl (all_cons rfl (all_nil))))))))))))
def ok_api_Value (x : api_Value) : Prop := (fun x => (Lit.int .i64 x).wf = true) x.Kind ∧ (fun x => (Lit.int .i64 x).wf = true) x.N ∧ (fun s => s.size ≤ 140737488351232) x.S ∧ ok_Arr8 x.H
structure api_Table where
  Cols : List api_Col
  Rows : List (List api_Value)
  deriving DecidableEq
def ty_api_Table : Ty api_Table where
  n := 2
  rep := fun R cs x => ∃ v0 v1, cs = [v0, v1] ∧ SlR ty_api_Col R v0 x.Cols ∧ SlR (tySl ty_api_Value) R v1 x.Rows
  mono := fun hR ⟨v0, v1, h, h0, h1⟩ => ⟨v0, v1, h, h0.mono hR, h1.mono hR⟩
  len := fun ⟨v0, v1, h, h0, h1⟩ => by subst h; rfl
  one := fun ⟨v0, v1, h, h0, h1⟩ => by subst h; exact all_cons h0.one (all_cons h1.one (all_nil))
def ok_api_Table (x : api_Table) : Prop := (fun xs => xs.length * 24 ≤ 140737488351232 ∧ ∀ x ∈ xs, ok_api_Col x) x.Cols ∧ (fun xs => xs.length * 24 ≤ 140737488351232 ∧ ∀ x ∈ xs, (fun xs => xs.length * 96 ≤ 140737488351232 ∧ ∀ x ∈ xs, ok_api_Value x) x) x.Rows
structure api_Node where
  Kind : Int
  S : ByteArray
  N : Int
  From : Int
  To : Int
  V : api_Value
  L : List Int
  Names : List ByteArray
  Aggs : List api_Agg
  deriving DecidableEq
def ty_api_Node : Ty api_Node where
  n := 19
  rep := fun R cs x => ∃ v0 v1 v2, cs = [.int .i64 x.Kind, .string x.S, .int .i64 x.N, .int .i64 x.From, .int .i64 x.To, .int .i64 x.V.Kind, .int .i64 x.V.N, .string x.V.S, .int .i64 x.V.H.a0, .int .i64 x.V.H.a1, .int .i64 x.V.H.a2, .int .i64 x.V.H.a3, .int .i64 x.V.H.a4, .int .i64 x.V.H.a5, .int .i64 x.V.H.a6, .int .i64 x.V.H.a7, v0, v1, v2] ∧ SlR (tyInt .i64) R v0 x.L ∧ SlR tyStr R v1 x.Names ∧ SlR ty_api_Agg R v2 x.Aggs
  mono := fun hR ⟨v0, v1, v2, h, h0, h1, h2⟩ => ⟨v0, v1, v2, h, h0.mono hR, h1.mono hR, h2.mono hR⟩
  len := fun ⟨v0, v1, v2, h, h0, h1, h2⟩ => by subst h; rfl
  one := fun ⟨v0, v1, v2, h, h0, h1, h2⟩ => by subst h; exact all_cons rfl (all_cons rfl (all_cons rfl (all_cons rfl (all_cons rfl (all_cons rfl (all_cons rfl (all_cons rfl (all_cons rfl (all_cons rfl (all_cons rfl (all_cons rfl (all_cons rfl (all_cons rfl (all_cons rfl (all_cons rfl (all_cons h0.one (all_cons h1.one (all_cons h2.one (all_nil)))))))))))))))))))
structure api_Query where
  N : List api_Node
  deriving DecidableEq
structure api_Schema where
  Name : ByteArray
  Keys : List api_Col
  Vals : List api_Col
  deriving DecidableEq
def ty_api_Schema : Ty api_Schema where
  n := 3
  rep := fun R cs x => ∃ v0 v1, cs = [.string x.Name, v0, v1] ∧ SlR ty_api_Col R v0 x.Keys ∧ SlR ty_api_Col R v1 x.Vals
  mono := fun hR ⟨v0, v1, h, h0, h1⟩ => ⟨v0, v1, h, h0.mono hR, h1.mono hR⟩
  len := fun ⟨v0, v1, h, h0, h1⟩ => by subst h; rfl
  one := fun ⟨v0, v1, h, h0, h1⟩ => by subst h; exact all_cons rfl (all_cons h0.one (all_cons h1.one (all_nil)))
structure check_checker where
  schemas : List api_Schema
  n : List api_Node
  inputs : List (List api_Col)
  cols : List (List api_Col)
  deriving DecidableEq
def law18_pairs.l0 (a0 : ByteArray) (a1 : List Int) : Nat → (List api_Col) → (List (List api_Value)) → Int → Option api_Table
  | 0, _, _, _ => none
  | k + 1, x_64, x_69, x_73 => (if (decide (x_73 < (a0.size : Int))) = true then ((cuts a0 x_73 (IntKind.i64.wrap (x_73 + 1))).bind fun y_148 => ((ix a1 x_73).bind fun y_150 => ((apd 24 x_69 [[(⟨2, 0, y_148, (⟨0, 0, 0, 0, 0, 0, 0, 0⟩ : Arr8)⟩ : api_Value), (⟨1, y_150, (⟨#[]⟩ : ByteArray), (⟨0, 0, 0, 0, 0, 0, 0, 0⟩ : Arr8)⟩ : api_Value)]]).bind fun y_164 => (law18_pairs.l0 a0 a1 k x_64 y_164 (IntKind.i64.wrap (x_73 + 1)))))) else some (⟨x_64, x_69⟩ : api_Table))
def law18_pairs (a0 : ByteArray) (a1 : List Int) : Option api_Table :=
  (law18_pairs.l0 a0 a1 (((a0.size : Int) - 0).toNat + 1) [(⟨(⟨#[107]⟩ : ByteArray), 2⟩ : api_Col), (⟨(⟨#[110]⟩ : ByteArray), 1⟩ : api_Col)] [] 0)
def table_Name.j2 (kl0 : Int → Option Bool) (a0 : ByteArray) (x_11 : Int) : Option Bool :=
  (kl0 (IntKind.i64.wrap (x_11 + 1)))
def table_Name.j3 (kl0 : Int → Option Bool) (a0 : ByteArray) (x_11 : Int) (x_77 : Bool) : Option Bool :=
  (if x_77 = true then (table_Name.j2 kl0 a0 x_11) else some false)
def table_Name.j1 (kl0 : Int → Option Bool) (a0 : ByteArray) (x_11 : Int) (y_50 : Int) (x_53 : Bool) : Option Bool :=
  (if x_53 = true then (table_Name.j2 kl0 a0 x_11) else (if (decide (x_11 > 0)) = true then (if (decide (y_50 ≥ 48)) = true then (if (decide (y_50 ≤ 57)) = true then (table_Name.j3 kl0 a0 x_11 true) else (if (y_50 == 95) = true then (table_Name.j3 kl0 a0 x_11 true) else (table_Name.j3 kl0 a0 x_11 (y_50 == 35)))) else (if (y_50 == 95) = true then (table_Name.j3 kl0 a0 x_11 true) else (table_Name.j3 kl0 a0 x_11 (y_50 == 35)))) else (table_Name.j3 kl0 a0 x_11 false)))
def table_Name.l0 (a0 : ByteArray) : Nat → Int → Option Bool
  | 0, _ => none
  | k + 1, x_11 => (if (decide (x_11 < (a0.size : Int))) = true then ((ixs a0 x_11).bind fun y_50 => (if (decide (y_50 ≥ 97)) = true then (table_Name.j1 (table_Name.l0 a0 k) a0 x_11 y_50 (decide (y_50 ≤ 122))) else (table_Name.j1 (table_Name.l0 a0 k) a0 x_11 y_50 false))) else (if (decide ((a0.size : Int) ≥ 1)) = true then some (decide ((a0.size : Int) ≤ 24)) else some false))
def table_Name (a0 : ByteArray) : Option Bool :=
  (table_Name.l0 a0 (((a0.size : Int) - 0).toNat + 1) 0)
def table_Find_1_cp (a0 : api_Col) (a1 : ByteArray) : Option Bool :=
  some (a0.Name.toList == a1.toList)
def slices_IndexFunc_api_Col_api_Col_f_table_Find_1p.l0 (a0 : List api_Col) (a1_0 : ByteArray) : Nat → Int → Option Int
  | 0, _ => none
  | k + 1, x_15 => (if (decide (x_15 < (a0.length : Int))) = true then ((ix a0 x_15).bind fun y_31 => ((table_Find_1_cp y_31 a1_0).bind fun y_40 => (if y_40 = true then some x_15 else (slices_IndexFunc_api_Col_api_Col_f_table_Find_1p.l0 a0 a1_0 k (IntKind.i64.wrap (x_15 + 1)))))) else some (-1))
def slices_IndexFunc_api_Col_api_Col_f_table_Find_1p (a0 : List api_Col) (a1_0 : ByteArray) : Option Int :=
  (slices_IndexFunc_api_Col_api_Col_f_table_Find_1p.l0 a0 a1_0 (((a0.length : Int) - 0).toNat + 1) 0)
def table_Find (a0 : List api_Col) (a1 : ByteArray) : Option Int :=
  ((slices_IndexFunc_api_Col_api_Col_f_table_Find_1p a0 a1).bind fun y_2 => some y_2)
def table_columns.j1 (kl0 : Int → Option Bool) (a0 : List api_Col) (x_30 : Int) (x_78 : Bool) : Option Bool :=
  (if x_78 = true then some false else (kl0 (IntKind.i64.wrap (x_30 + 1))))
def table_columns.l0 (a0 : List api_Col) : Nat → Int → Option Bool
  | 0, _ => none
  | k + 1, x_30 => (if (decide (x_30 < (a0.length : Int))) = true then ((ix a0 x_30).bind fun y_61 => ((table_Name y_61.Name).bind fun y_80 => (if (!y_80) = true then (table_columns.j1 (table_columns.l0 a0 k) a0 x_30 true) else (if (decide (y_61.Kind < 1)) = true then (table_columns.j1 (table_columns.l0 a0 k) a0 x_30 true) else (if (decide (y_61.Kind > 4)) = true then (table_columns.j1 (table_columns.l0 a0 k) a0 x_30 true) else ((table_Find a0 y_61.Name).bind fun y_85 => (table_columns.j1 (table_columns.l0 a0 k) a0 x_30 (y_85 != x_30)))))))) else (if (decide ((a0.length : Int) ≥ 1)) = true then some (decide ((a0.length : Int) ≤ 16)) else some false))
def table_columns (a0 : List api_Col) : Option Bool :=
  (table_columns.l0 a0 (((a0.length : Int) - 0).toNat + 1) 0)
def value_Valid.j0 (x_59 : Int) (x_60 : ByteArray) (x_61 : Arr8) (x_62 : Bool) : Option Bool :=
  (if x_62 = true then some (decide ((⟨0, x_59, x_60, x_61⟩ : api_Value) = (⟨0, 0, (⟨#[]⟩ : ByteArray), (⟨0, 0, 0, 0, 0, 0, 0, 0⟩ : Arr8)⟩ : api_Value))) else some false)
def value_Valid.j1 (x_90 : Int) (x_91 : ByteArray) (x_92 : Arr8) (x_93 : Bool) : Option Bool :=
  (value_Valid.j0 x_90 x_91 x_92 x_93)
def value_Valid.j2 (a0 : api_Value) (x_106 : Int) (x_107 : Arr8) (x_108 : Bool) : Option Bool :=
  (value_Valid.j1 x_106 a0.S x_107 x_108)
def value_Valid.j3 (a0 : api_Value) (x_112 : Bool) : Option Bool :=
  (value_Valid.j2 a0 0 a0.H x_112)
def value_Valid.j4 (a0 : api_Value) (x_116 : Arr8) (x_117 : Bool) : Option Bool :=
  (value_Valid.j2 a0 a0.N x_116 x_117)
def value_Valid (a0 : api_Value) : Option Bool :=
  (if (a0.Kind == 1) = true then (value_Valid.j0 0 a0.S a0.H true) else (if (a0.Kind == 2) = true then (value_Valid.j1 a0.N (⟨#[]⟩ : ByteArray) a0.H (decide ((a0.S.size : Int) ≤ 64))) else (if (a0.Kind == 3) = true then (if (a0.N == 0) = true then (value_Valid.j3 a0 true) else (value_Valid.j3 a0 (a0.N == 1))) else (if (a0.Kind == 4) = true then (value_Valid.j4 a0 (⟨0, 0, 0, 0, 0, 0, 0, 0⟩ : Arr8) true) else (value_Valid.j4 a0 a0.H false)))))
def table_Check.j2 (kl1 : Int → Option Int) (y_413 : List api_Value) (x_488 : Int) (x_587 : Bool) : Option Int :=
  (if x_587 = true then some 21 else (kl1 (IntKind.i64.wrap (x_488 + 1))))
def table_Check.l1 (kl0 : Int → Option Int) (a0 : api_Table) (x_208 : Int) (y_413 : List api_Value) : Nat → Int → Option Int
  | 0, _ => none
  | k + 1, x_488 => (if (decide (x_488 < (y_413.length : Int))) = true then ((ix y_413 x_488).bind fun y_553 => ((ix a0.Cols x_488).bind fun y_601 => (if (y_553.Kind != y_601.Kind) = true then (table_Check.j2 (table_Check.l1 kl0 a0 x_208 y_413 k) y_413 x_488 true) else ((value_Valid y_553).bind fun y_611 => (table_Check.j2 (table_Check.l1 kl0 a0 x_208 y_413 k) y_413 x_488 (!y_611)))))) else (kl0 (IntKind.i64.wrap (x_208 + 1))))
def table_Check.l0 (a0 : api_Table) : Nat → Int → Option Int
  | 0, _ => none
  | k + 1, x_208 => (if (decide (x_208 < (a0.Rows.length : Int))) = true then ((ix a0.Rows x_208).bind fun y_413 => (if ((y_413.length : Int) != (a0.Cols.length : Int)) = true then some 21 else (table_Check.l1 (table_Check.l0 a0 k) a0 x_208 y_413 (((y_413.length : Int) - 0).toNat + 1) 0))) else some 0)
def table_Check (a0 : api_Table) : Option Int :=
  ((table_columns a0.Cols).bind fun y_2 => (if (!y_2) = true then some 20 else (table_Check.l0 a0 (((a0.Rows.length : Int) - 0).toNat + 1) 0)))
def check_below.j7 (x_67 : Bool) : Option (Int × Int) :=
  (if x_67 = true then some (0, 2) else some ((-1), 0))
def check_below.j6 (a0 : Int) (x_60 : Bool) : Option (Int × Int) :=
  (if x_60 = true then some (2, 0) else (if (a0 == 2) = true then some (1, 1) else (if (a0 == 13) = true then some (0, 1) else (if (a0 == 11) = true then (check_below.j7 (a0 == 11)) else (check_below.j7 (a0 == 12))))))
def check_below.j3 (a0 : Int) (x_43 : Bool) : Option (Int × Int) :=
  (if x_43 = true then some (1, 0) else (if (a0 == 7) = true then (check_below.j6 a0 (a0 == 7)) else (check_below.j6 a0 (a0 == 8))))
def check_below.j4 (a0 : Int) (x_51 : Bool) : Option (Int × Int) :=
  (check_below.j3 a0 x_51)
def check_below.j5 (a0 : Int) (x_55 : Bool) : Option (Int × Int) :=
  (check_below.j4 a0 x_55)
def check_below.j0 (a0 : Int) (x_14 : Bool) : Option (Int × Int) :=
  (if x_14 = true then some (0, 0) else (if (a0 == 3) = true then (check_below.j3 a0 (a0 == 3)) else (if (a0 == 4) = true then (check_below.j4 a0 (a0 == 4)) else (if (a0 == 5) = true then (check_below.j5 a0 (a0 == 5)) else (check_below.j5 a0 (a0 == 6))))))
def check_below.j1 (a0 : Int) (x_22 : Bool) : Option (Int × Int) :=
  (check_below.j0 a0 x_22)
def check_below.j2 (a0 : Int) (x_26 : Bool) : Option (Int × Int) :=
  (check_below.j1 a0 x_26)
def check_below (a0 : Int) : Option (Int × Int) :=
  (if (a0 == 1) = true then (check_below.j0 a0 (a0 == 1)) else (if (a0 == 9) = true then (check_below.j1 a0 (a0 == 9)) else (if (a0 == 14) = true then (check_below.j2 a0 (a0 == 14)) else (check_below.j2 a0 (a0 == 15)))))
def check_checker_shaped.j2 (kl1 : Int → Option Bool) (y_18 : api_Node) (x_86 : Int) (x_162 : Bool) : Option Bool :=
  (if x_162 = true then some false else (kl1 (IntKind.i64.wrap (x_86 + 1))))
def check_checker_shaped.l1 (a0 : check_checker) (a1 : Int) (y_16 : Int × Int) (y_18 : api_Node) : Nat → Int → Option Bool
  | 0, _ => none
  | k + 1, x_86 => (if (decide (x_86 < (y_18.L.length : Int))) = true then ((ix y_18.L x_86).bind fun y_136 => (if (decide (y_136 < 0)) = true then (check_checker_shaped.j2 (check_checker_shaped.l1 a0 a1 y_16 y_18 k) y_18 x_86 true) else (if (decide (y_136 ≥ a1)) = true then (check_checker_shaped.j2 (check_checker_shaped.l1 a0 a1 y_16 y_18 k) y_18 x_86 true) else ((ix a0.n y_136).bind fun y_166 => (check_checker_shaped.j2 (check_checker_shaped.l1 a0 a1 y_16 y_18 k) y_18 x_86 (!((decide (x_86 ≥ y_16.1)) == (decide (y_166.Kind ≥ 11))))))))) else some true)
def check_checker_shaped.j0 (a0 : check_checker) (a1 : Int) (y_16 : Int × Int) (y_18 : api_Node) (x_34 : Bool) : Option Bool :=
  (if x_34 = true then some false else (check_checker_shaped.l1 a0 a1 y_16 y_18 (((y_18.L.length : Int) - 0).toNat + 1) 0))
def check_checker_shaped (a0 : check_checker) (a1 : Int) : Option Bool :=
  ((ix a0.n a1).bind fun y_1 => ((check_below y_1.Kind).bind fun y_16 => ((ix a0.n a1).bind fun y_18 => (if (decide (y_16.1 < 0)) = true then (check_checker_shaped.j0 a0 a1 y_16 y_18 true) else (check_checker_shaped.j0 a0 a1 y_16 y_18 ((y_18.L.length : Int) != (IntKind.i64.wrap (y_16.1 + y_16.2))))))))
def slices_Clone_api_Col_api_Col (a0 : List api_Col) : Option (List api_Col) :=
  ((apd 24 ([] : List api_Col) a0).bind fun y_4 => some y_4)
def check_pick.j1 (kl0 : (List api_Col) → Int → Option ((List api_Col) × Bool)) (a0 : List api_Col) (a1 : List ByteArray) (x_44 : List api_Col) (x_48 : Int) (y_101 : Int) (x_106 : Bool) : Option ((List api_Col) × Bool) :=
  (if x_106 = true then some (([] : List api_Col), false) else ((ix a0 y_101).bind fun y_114 => ((apd 24 x_44 [y_114]).bind fun y_124 => (kl0 y_124 (IntKind.i64.wrap (x_48 + 1))))))
def check_pick.l0 (a0 : List api_Col) (a1 : List ByteArray) : Nat → (List api_Col) → Int → Option ((List api_Col) × Bool)
  | 0, _, _ => none
  | k + 1, x_44, x_48 => (if (decide (x_48 < (a1.length : Int))) = true then ((ix a1 x_48).bind fun y_92 => ((table_Find a0 y_92).bind fun y_101 => (if (decide (y_101 < 0)) = true then (check_pick.j1 (check_pick.l0 a0 a1 k) a0 a1 x_44 x_48 y_101 true) else ((table_Find x_44 y_92).bind fun y_109 => (check_pick.j1 (check_pick.l0 a0 a1 k) a0 a1 x_44 x_48 y_101 (decide (y_109 ≥ 0))))))) else some (x_44, true))
def check_pick (a0 : List api_Col) (a1 : List ByteArray) : Option ((List api_Col) × Bool) :=
  (check_pick.l0 a0 a1 (((a1.length : Int) - 0).toNat + 1) [] 0)
def check_group_1 (a0 : api_Col) : Option Bool :=
  some (a0.Kind == 4)
def slices_IndexFunc_api_Col_api_Col_f_check_group_1.l0 (a0 : List api_Col) : Nat → Int → Option Int
  | 0, _ => none
  | k + 1, x_15 => (if (decide (x_15 < (a0.length : Int))) = true then ((ix a0 x_15).bind fun y_31 => ((check_group_1 y_31).bind fun y_40 => (if y_40 = true then some x_15 else (slices_IndexFunc_api_Col_api_Col_f_check_group_1.l0 a0 k (IntKind.i64.wrap (x_15 + 1)))))) else some (-1))
def slices_IndexFunc_api_Col_api_Col_f_check_group_1 (a0 : List api_Col) : Option Int :=
  (slices_IndexFunc_api_Col_api_Col_f_check_group_1.l0 a0 (((a0.length : Int) - 0).toNat + 1) 0)
def slices_ContainsFunc_api_Col_api_Col_f_check_group_1 (a0 : List api_Col) : Option Bool :=
  ((slices_IndexFunc_api_Col_api_Col_f_check_group_1 a0).bind fun y_1 => some (decide (y_1 ≥ 0)))
def check_Name (a0 : api_Agg) : Option ByteArray :=
  (if (a0.Kind == 1) = true then some (⟨#[99, 111, 117, 110, 116]⟩ : ByteArray) else (if (a0.Kind == 2) = true then (if (decide ((⟨#[115, 117, 109, 95]⟩ : ByteArray).size + a0.Col.size ≤ 9223372036854775807)) = true then some ((⟨#[115, 117, 109, 95]⟩ : ByteArray) ++ a0.Col) else none) else (if (a0.Kind == 3) = true then (if (decide ((⟨#[109, 105, 110, 95]⟩ : ByteArray).size + a0.Col.size ≤ 9223372036854775807)) = true then some ((⟨#[109, 105, 110, 95]⟩ : ByteArray) ++ a0.Col) else none) else (if (a0.Kind == 4) = true then (if (decide ((⟨#[109, 97, 120, 95]⟩ : ByteArray).size + a0.Col.size ≤ 9223372036854775807)) = true then some ((⟨#[109, 97, 120, 95]⟩ : ByteArray) ++ a0.Col) else none) else (if (a0.Kind == 5) = true then (if (decide ((⟨#[109, 101, 97, 110, 95]⟩ : ByteArray).size + a0.Col.size ≤ 9223372036854775807)) = true then some ((⟨#[109, 101, 97, 110, 95]⟩ : ByteArray) ++ a0.Col) else none) else (if (a0.Kind == 6) = true then (if (decide ((⟨#[109, 101, 114, 103, 101, 95]⟩ : ByteArray).size + a0.Col.size ≤ 9223372036854775807)) = true then some ((⟨#[109, 101, 114, 103, 101, 95]⟩ : ByteArray) ++ a0.Col) else none) else some (⟨#[]⟩ : ByteArray)))))))
def check_aggregate.j1 (a0 : api_Agg) (y_3 : ByteArray) (y_10 : api_Col) (x_25 : Bool) : Option (api_Col × Bool) :=
  (if x_25 = true then some ((⟨y_3, y_10.Kind⟩ : api_Col), (y_10.Kind != 4)) else (if (a0.Kind == 6) = true then some ((⟨y_3, y_10.Kind⟩ : api_Col), (y_10.Kind == 4)) else some ((⟨y_3, 1⟩ : api_Col), false)))
def check_aggregate.j0 (a0 : api_Agg) (y_3 : ByteArray) (y_10 : api_Col) (x_20 : Bool) : Option (api_Col × Bool) :=
  (if x_20 = true then some ((⟨y_3, 1⟩ : api_Col), (y_10.Kind == 1)) else (if (a0.Kind == 3) = true then (check_aggregate.j1 a0 y_3 y_10 (a0.Kind == 3)) else (check_aggregate.j1 a0 y_3 y_10 (a0.Kind == 4))))
def check_aggregate (a0 : api_Agg) (a1 : List api_Col) : Option (api_Col × Bool) :=
  ((check_Name a0).bind fun y_3 => (if (a0.Kind == 1) = true then some ((⟨y_3, 1⟩ : api_Col), (a0.Col.toList == (⟨#[]⟩ : ByteArray).toList)) else ((table_Find a1 a0.Col).bind fun y_7 => (if (decide (y_7 < 0)) = true then some ((⟨y_3, 1⟩ : api_Col), false) else ((ix a1 y_7).bind fun y_10 => (if (a0.Kind == 2) = true then (check_aggregate.j0 a0 y_3 y_10 (a0.Kind == 2)) else (check_aggregate.j0 a0 y_3 y_10 (a0.Kind == 5))))))))
def check_group.l1 (a0 : api_Node) (a1 : List api_Col) : Nat → (List api_Col) → Int → Option ((List api_Col) × Bool)
  | 0, _, _ => none
  | k + 1, x_49, x_53 => (if (decide (x_53 < (a0.Aggs.length : Int))) = true then ((ix a0.Aggs x_53).bind fun y_80 => ((check_aggregate y_80 a1).bind fun y_90 => (if (!y_90.2) = true then some (([] : List api_Col), false) else ((apd 24 x_49 [y_90.1]).bind fun y_97 => (check_group.l1 a0 a1 k y_97 (IntKind.i64.wrap (x_53 + 1))))))) else ((table_Check (⟨x_49, []⟩ : api_Table)).bind fun y_104 => some (x_49, (y_104 == 0))))
def check_group.j0 (a0 : api_Node) (a1 : List api_Col) (y_2 : (List api_Col) × Bool) (x_14 : Bool) : Option ((List api_Col) × Bool) :=
  (if x_14 = true then some (([] : List api_Col), false) else (check_group.l1 a0 a1 (((a0.Aggs.length : Int) - 0).toNat + 1) y_2.1 0))
def check_group (a0 : api_Node) (a1 : List api_Col) : Option ((List api_Col) × Bool) :=
  ((check_pick a1 a0.Names).bind fun y_2 => (if (!y_2.2) = true then (check_group.j0 a0 a1 y_2 true) else (if ((a0.Aggs.length : Int) == 0) = true then (check_group.j0 a0 a1 y_2 true) else ((slices_ContainsFunc_api_Col_api_Col_f_check_group_1 y_2.1).bind fun y_18 => (check_group.j0 a0 a1 y_2 y_18)))))
def slices_Equal_api_Col_api_Col.l0 (a0 : List api_Col) (a1 : List api_Col) : Nat → Int → Option Bool
  | 0, _ => none
  | k + 1, x_41 => (if (decide (x_41 < (a0.length : Int))) = true then ((ix a0 x_41).bind fun y_100 => ((ix a1 x_41).bind fun y_109 => (if (!decide (y_100 = y_109)) = true then some false else (slices_Equal_api_Col_api_Col.l0 a0 a1 k (IntKind.i64.wrap (x_41 + 1)))))) else some true)
def slices_Equal_api_Col_api_Col (a0 : List api_Col) (a1 : List api_Col) : Option Bool :=
  (if ((a0.length : Int) != (a1.length : Int)) = true then some false else (slices_Equal_api_Col_api_Col.l0 a0 a1 (((a0.length : Int) - 0).toNat + 1) 0))
def check_checker_rows (a0 : check_checker) (a1 : api_Node) : Option ((List api_Col) × Bool) :=
  ((ix a1.L 0).bind fun y_22 => ((ix a0.cols y_22).bind fun y_31 => (if (a1.Kind == 2) = true then ((ix a1.L 1).bind fun y_43 => none) else (if (a1.Kind == 3) = true then ((check_pick y_31 a1.Names).bind fun y_53 => (if y_53.2 = true then some (y_53.1, decide ((y_53.1.length : Int) > 0)) else some (y_53.1, false))) else (if (a1.Kind == 4) = true then (if (decide (a1.N ≥ 1)) = true then none else some (y_31, false)) else (if (a1.Kind == 5) = true then ((check_group a1 y_31).bind fun y_71 => some (y_71.1, y_71.2)) else (if (a1.Kind == 6) = true then ((table_Find y_31 a1.S).bind fun y_83 => (if (decide (a1.N ≥ 1)) = true then (if (decide (a1.N ≤ 1000)) = true then (if (decide (y_83 ≥ 0)) = true then ((ix y_31 y_83).bind fun y_100 => some (y_31, (y_100.Kind != 4))) else some (y_31, false)) else some (y_31, false)) else some (y_31, false))) else (if (a1.Kind == 7) = true then ((ix a1.L 1).bind fun y_130 => ((ix a0.cols y_130).bind fun y_139 => none)) else ((ix a1.L 1).bind fun y_172 => ((ix a0.cols y_172).bind fun y_181 => ((slices_Equal_api_Col_api_Col y_31 y_181).bind fun y_192 => some (y_31, y_192))))))))))))
def check_checker_one.j0 (a0 : check_checker) (y_1 : api_Node) (x_61 : Bool) : Option ((List api_Col) × Int) :=
  (if x_61 = true then some (([] : List api_Col), 120) else ((ix a0.inputs y_1.N).bind fun y_115 => ((slices_Clone_api_Col_api_Col y_115).bind fun y_126 => some (y_126, 0))))
def check_checker_one (a0 : check_checker) (a1 : Int) : Option ((List api_Col) × Int) :=
  ((ix a0.n a1).bind fun y_1 => ((check_checker_shaped a0 a1).bind fun y_17 => (if (!y_17) = true then some (([] : List api_Col), 120) else (if (decide (y_1.Kind ≥ 11)) = true then some (([] : List api_Col), 0) else (if (y_1.Kind == 1) = true then none else (if (y_1.Kind == 9) = true then (if (decide (y_1.N < 0)) = true then (check_checker_one.j0 a0 y_1 true) else (if (decide (y_1.N ≥ (a0.inputs.length : Int))) = true then (check_checker_one.j0 a0 y_1 true) else ((ix a0.inputs y_1.N).bind fun y_80 => ((table_Check (⟨y_80, []⟩ : api_Table)).bind fun y_91 => (check_checker_one.j0 a0 y_1 (y_91 != 0)))))) else ((check_checker_rows a0 y_1).bind fun y_134 => (if (!y_134.2) = true then some (([] : List api_Col), 140) else ((slices_Clone_api_Col_api_Col y_134.1).bind fun y_143 => some (y_143, 0))))))))))
def check_Types.l0 (a0 : List api_Schema) (a1 : api_Query) (a2 : List (List api_Col)) : Nat → (List (List api_Col)) → Int → Option ((List (List api_Col)) × Int × Int)
  | 0, _, _ => none
  | k + 1, x_32, x_36 => (if (decide (x_36 < (a1.N.length : Int))) = true then ((check_checker_one (⟨a0, a1.N, a2, x_32⟩ : check_checker) x_36).bind fun y_65 => (if (y_65.2 != 0) = true then some (([] : List (List api_Col)), x_36, y_65.2) else ((apd 24 x_32 [y_65.1]).bind fun y_81 => (check_Types.l0 a0 a1 a2 k y_81 (IntKind.i64.wrap (x_36 + 1)))))) else some (x_32, 0, 0))
def check_Types (a0 : List api_Schema) (a1 : api_Query) (a2 : List (List api_Col)) : Option ((List (List api_Col)) × Int × Int) :=
  (check_Types.l0 a0 a1 a2 (((a1.N.length : Int) - 0).toNat + 1) [] 0)
def strconv_Itoa (a0 : Int) : Option ByteArray := if -9223372036854775808 ≤ a0 ∧ a0 ≤ 9223372036854775807 then some ⟨(Lib.itoa a0).toArray⟩ else none
def group_Cols.j1 (kl0 : (List api_Col) → Int → Option ((List api_Col) × (List api_Col) × Bool)) (a2 : List api_Agg) (x_108 : Int) (x_204 : List api_Col) : Option ((List api_Col) × (List api_Col) × Bool) :=
  (kl0 x_204 (IntKind.i64.wrap (x_108 + 1)))
def group_Cols.l0 (a1 : List ByteArray) (a2 : List api_Agg) (y_25 : List api_Col) : Nat → (List api_Col) → Int → Option ((List api_Col) × (List api_Col) × Bool)
  | 0, _, _ => none
  | k + 1, x_104, x_108 => (if (decide (x_108 < (a2.length : Int))) = true then ((ix a2 x_108).bind fun y_165 => ((strconv_Itoa x_108).bind fun y_175 => (if (decide ((⟨#[112, 35]⟩ : ByteArray).size + y_175.size ≤ 9223372036854775807)) = true then ((ix y_25 (IntKind.i64.wrap ((a1.length : Int) + x_108))).bind fun y_178 => ((apd 24 x_104 [(⟨(⟨#[112, 35]⟩ : ByteArray) ++ y_175, y_178.Kind⟩ : api_Col)]).bind fun y_188 => (if (y_165.Kind == 5) = true then (if (decide (((⟨#[112, 35]⟩ : ByteArray) ++ y_175).size + (⟨#[35, 110]⟩ : ByteArray).size ≤ 9223372036854775807)) = true then ((apd 24 y_188 [(⟨((⟨#[112, 35]⟩ : ByteArray) ++ y_175) ++ (⟨#[35, 110]⟩ : ByteArray), 1⟩ : api_Col)]).bind fun y_212 => (group_Cols.j1 (group_Cols.l0 a1 a2 y_25 k) a2 x_108 y_212)) else none) else (group_Cols.j1 (group_Cols.l0 a1 a2 y_25 k) a2 x_108 y_188)))) else none))) else ((table_Check (⟨x_104, []⟩ : api_Table)).bind fun y_219 => (if (y_219 != 0) = true then some (([] : List api_Col), ([] : List api_Col), false) else some (x_104, y_25, true))))
def group_Cols (a0 : List api_Col) (a1 : List ByteArray) (a2 : List api_Agg) : Option ((List api_Col) × (List api_Col) × Bool) :=
  ((check_Types ([] : List api_Schema) (⟨[(⟨9, (⟨#[]⟩ : ByteArray), 0, 0, 0, (⟨0, 0, (⟨#[]⟩ : ByteArray), (⟨0, 0, 0, 0, 0, 0, 0, 0⟩ : Arr8)⟩ : api_Value), [], [], []⟩ : api_Node), (⟨5, (⟨#[]⟩ : ByteArray), 0, 0, 0, (⟨0, 0, (⟨#[]⟩ : ByteArray), (⟨0, 0, 0, 0, 0, 0, 0, 0⟩ : Arr8)⟩ : api_Value), [0], a1, a2⟩ : api_Node)]⟩ : api_Query) [a0]).bind fun y_14 => (if (y_14.2.2 != 0) = true then some (([] : List api_Col), ([] : List api_Col), false) else ((ix y_14.1 1).bind fun y_25 => ((cut y_25 0 (a1.length : Int)).bind fun y_35 => ((slices_Clone_api_Col_api_Col y_35).bind fun y_40 => (group_Cols.l0 a1 a2 y_25 (((a2.length : Int) - 0).toNat + 1) y_40 0))))))
def group_Partial_1_cp_cp (a0 : ByteArray) (a1 : List api_Value) (a2 : api_Table) : Option api_Value :=
  ((table_Find a2.Cols a0).bind fun y_13 => ((ix a1 y_13).bind fun y_15 => some y_15))
def value_OfInt (a0 : Int) : Option api_Value :=
  some (⟨1, a0, (⟨#[]⟩ : ByteArray), (⟨0, 0, 0, 0, 0, 0, 0, 0⟩ : Arr8)⟩ : api_Value)
def group_width (a0 : api_Agg) : Option Int :=
  (if (a0.Kind == 5) = true then some 2 else some 1)
def slices_Clone_byte_byte (a0 : List Int) : Option (List Int) :=
  ((apd 1 ([] : List Int) a0).bind fun y_4 => some y_4)
def wire_big.l0 (a1 : Int) (a2 : Int) : Nat → (List Int) → Int → Option (List Int)
  | 0, _, _ => none
  | k + 1, x_12, x_16 => (if (decide (x_16 ≥ 0)) = true then (if (decide (0 ≤ (IntKind.i64.wrap (8 * x_16)))) = true then ((apd 1 x_12 [IntKind.u8.wrap (a1.fdiv (2 ^ (min (IntKind.i64.wrap (8 * x_16)).toNat 64)))]).bind fun y_30 => (wire_big.l0 a1 a2 k y_30 (IntKind.i64.wrap (x_16 - 1)))) else none) else some x_12)
def wire_big (a0 : List Int) (a1 : Int) (a2 : Int) : Option (List Int) :=
  (wire_big.l0 a1 a2 (((IntKind.i64.wrap (a2 - 1)) - 0).toNat + 2) a0 (IntKind.i64.wrap (a2 - 1)))
def wire_put.l0 (a1 : api_Value) : Nat → (List Int) → Int → Option (List Int)
  | 0, _, _ => none
  | k + 1, x_56, x_60 => (if (decide (x_60 < 8)) = true then ((Arr8.ix a1.H x_60).bind fun y_75 => ((wire_big x_56 y_75 8).bind fun y_77 => (wire_put.l0 a1 k y_77 (IntKind.i64.wrap (x_60 + 1))))) else some x_56)
def wire_put (a0 : List Int) (a1 : api_Value) : Option (List Int) :=
  (if (a1.Kind == 1) = true then ((wire_big a0 a1.N 8).bind fun y_3 => some y_3) else (if (a1.Kind == 2) = true then ((apd 1 a0 [IntKind.u8.wrap (a1.S.size : Int)]).bind fun y_26 => ((apd 1 y_26 (sbytes a1.S)).bind fun y_32 => some y_32)) else (if (a1.Kind == 3) = true then ((apd 1 a0 [IntKind.u8.wrap a1.N]).bind fun y_40 => some y_40) else (wire_put.l0 a1 (((8 : Int) - 0).toNat + 1) a0 0))))
def wire_Put (a0 : List Int) (a1 : api_Value) : Option ((List Int) × Int) :=
  ((value_Valid a1).bind fun y_2 => (if (!y_2) = true then some (([] : List Int), 10) else ((slices_Clone_byte_byte a0).bind fun y_23 => ((wire_put y_23 a1).bind fun y_31 => some (y_31, 0)))))
def group_mark.l0 (a0 : List api_Value) : Nat → (List Int) → Int → Option ByteArray
  | 0, _, _ => none
  | k + 1, x_35, x_39 => (if (decide (x_39 < (a0.length : Int))) = true then ((ix a0 x_39).bind fun y_73 => ((wire_Put ([] : List Int) y_73).bind fun y_83 => ((apd 1 x_35 y_83.1).bind fun y_94 => (group_mark.l0 a0 k y_94 (IntKind.i64.wrap (x_39 + 1)))))) else some (bstr x_35))
def group_mark (a0 : List api_Value) : Option ByteArray :=
  (group_mark.l0 a0 (((a0.length : Int) - 0).toNat + 1) [] 0)
def group_together_1_cp (a0 : List api_Value) (a1 : Int) : Option ByteArray :=
  ((cut a0 0 a1).bind fun y_1 => ((group_mark y_1).bind fun y_6 => some y_6))
def group_bucket_api_Value_f_group_together_1p.j1 (kl0 : (List (ByteArray × Int)) → (List (List (List api_Value))) → Int → Option (List (List (List api_Value)))) (a0 : List (List api_Value)) (x_81 : Int) (y_152 : List api_Value) (x_173 : List (ByteArray × Int)) (x_175 : List (List (List api_Value))) (x_179 : Int) : Option (List (List (List api_Value))) :=
  ((ix x_175 x_179).bind fun y_189 => ((apd 24 y_189 [y_152]).bind fun y_200 => ((ix x_175 x_179).bind fun y_206 => (kl0 x_173 (upd x_175 x_179 y_200) (IntKind.i64.wrap (x_81 + 1))))))
def group_bucket_api_Value_f_group_together_1p.l0 (a0 : List (List api_Value)) (a1_0 : Int) : Nat → (List (ByteArray × Int)) → (List (List (List api_Value))) → Int → Option (List (List (List api_Value)))
  | 0, _, _, _ => none
  | k + 1, x_75, x_77, x_81 => (if (decide (x_81 < (a0.length : Int))) = true then ((ix a0 x_81).bind fun y_152 => ((group_together_1_cp y_152 a1_0).bind fun y_163 => (if (!((mget x_75 y_163).isSome)) = true then ((apd 24 x_77 [[]]).bind fun y_187 => (group_bucket_api_Value_f_group_together_1p.j1 (group_bucket_api_Value_f_group_together_1p.l0 a0 a1_0 k) a0 x_81 y_152 (mset x_75 y_163 (x_77.length : Int)) y_187 (x_77.length : Int))) else (group_bucket_api_Value_f_group_together_1p.j1 (group_bucket_api_Value_f_group_together_1p.l0 a0 a1_0 k) a0 x_81 y_152 x_75 x_77 ((mget x_75 y_163).getD 0))))) else some x_77)
def group_bucket_api_Value_f_group_together_1p (a0 : List (List api_Value)) (a1_0 : Int) : Option (List (List (List api_Value))) :=
  (group_bucket_api_Value_f_group_together_1p.l0 a0 a1_0 (((a0.length : Int) - 0).toNat + 1) ([] : List (ByteArray × Int)) [] 0)
def slices_Clone_api_Value_api_Value (a0 : List api_Value) : Option (List api_Value) :=
  ((apd 96 ([] : List api_Value) a0).bind fun y_4 => some y_4)
def cmp_isNaN_int (a0 : Int) : Option Bool :=
  some (a0 != a0)
def cmp_Compare_int (a0 : Int) (a1 : Int) : Option Int :=
  ((cmp_isNaN_int a0).bind fun y_1 => ((cmp_isNaN_int a1).bind fun y_3 => (if y_1 = true then (if y_3 = true then some 0 else some (-1)) else (if y_3 = true then some 1 else (if (decide (a0 < a1)) = true then some (-1) else (if (decide (a0 > a1)) = true then some 1 else some 0))))))
def internal_bytealg_CompareString (a0 : ByteArray) (a1 : ByteArray) : Option Int :=
  some (Lib.compareBytes a0.data.toList a1.data.toList)
def strings_Compare (a0 : ByteArray) (a1 : ByteArray) : Option Int :=
  ((internal_bytealg_CompareString a0 a1).bind fun y_1 => some y_1)
def slices_Compare_int_int.l0 (a0 : List Int) (a1 : List Int) : Nat → Int → Option Int
  | 0, _ => none
  | k + 1, x_25 => (if (decide (x_25 < (a0.length : Int))) = true then ((ix a0 x_25).bind fun y_51 => (if (decide (x_25 ≥ (a1.length : Int))) = true then some 1 else ((ix a1 x_25).bind fun y_61 => ((cmp_Compare_int y_51 y_61).bind fun y_70 => (if (y_70 != 0) = true then some y_70 else (slices_Compare_int_int.l0 a0 a1 k (IntKind.i64.wrap (x_25 + 1)))))))) else (if (decide ((a0.length : Int) < (a1.length : Int))) = true then some (-1) else some 0))
def slices_Compare_int_int (a0 : List Int) (a1 : List Int) : Option Int :=
  (slices_Compare_int_int.l0 a0 a1 (((a0.length : Int) - 0).toNat + 1) 0)
def cmp_Or_int.l0 (a0 : List Int) : Nat → Int → Option Int
  | 0, _ => none
  | k + 1, x_13 => (if (decide (x_13 < (a0.length : Int))) = true then ((ix a0 x_13).bind fun y_27 => (if (y_27 != 0) = true then some y_27 else (cmp_Or_int.l0 a0 k (IntKind.i64.wrap (x_13 + 1))))) else some 0)
def cmp_Or_int (a0 : List Int) : Option Int :=
  (cmp_Or_int.l0 a0 (((a0.length : Int) - 0).toNat + 1) 0)
def value_Compare (a0 : api_Value) (a1 : api_Value) : Option Int :=
  ((cmp_Compare_int a0.Kind a1.Kind).bind fun y_14 => ((cmp_Compare_int a0.N a1.N).bind fun y_16 => ((strings_Compare a0.S a1.S).bind fun y_18 => ((slices_Compare_int_int a0.H.list a1.H.list).bind fun y_20 => ((cmp_Or_int [y_14, y_16, y_18, y_20]).bind fun y_23 => some y_23)))))
def value_Add.l1 (a0 : api_Value) (a1 : api_Value) : Nat → Arr8 → Int → Option (api_Value × Int)
  | 0, _, _ => none
  | k + 1, x_24, x_25 => (if (decide (x_25 < 8)) = true then ((Arr8.ix x_24 x_25).bind fun y_53 => ((Arr8.ix a1.H x_25).bind fun y_55 => ((Arr8.ix x_24 x_25).bind fun y_57 => ((Arr8.put x_24 x_25 (IntKind.i64.wrap (y_53 + y_55))).bind fun y_59 => (value_Add.l1 a0 a1 k y_59 (IntKind.i64.wrap (x_25 + 1))))))) else some ((⟨a0.Kind, a0.N, a0.S, x_24⟩ : api_Value), 0))
def value_Add.j0 (a0 : api_Value) (a1 : api_Value) (x_10 : Bool) : Option (api_Value × Int) :=
  (if x_10 = true then some ((⟨0, 0, (⟨#[]⟩ : ByteArray), (⟨0, 0, 0, 0, 0, 0, 0, 0⟩ : Arr8)⟩ : api_Value), 10) else (if (a0.Kind == 1) = true then ((value_OfInt (IntKind.i64.wrap (a0.N + a1.N))).bind fun y_20 => some (y_20, 0)) else (if (a0.Kind == 4) = true then (value_Add.l1 a0 a1 (((8 : Int) - 0).toNat + 1) a0.H 0) else some ((⟨0, 0, (⟨#[]⟩ : ByteArray), (⟨0, 0, 0, 0, 0, 0, 0, 0⟩ : Arr8)⟩ : api_Value), 10))))
def value_Add (a0 : api_Value) (a1 : api_Value) : Option (api_Value × Int) :=
  ((value_Valid a0).bind fun y_12 => (if (!y_12) = true then (value_Add.j0 a0 a1 true) else ((value_Valid a1).bind fun y_15 => (if (!y_15) = true then (value_Add.j0 a0 a1 true) else (value_Add.j0 a0 a1 (a0.Kind != a1.Kind))))))
def group_lay.j3 (a1 : api_Value) (a2 : api_Value) (x_24 : Bool) : Option api_Value :=
  (if x_24 = true then some a2 else ((value_Add a1 a2).bind fun y_28 => some y_28.1))
def group_lay.j1 (a0 : Int) (a1 : api_Value) (a2 : api_Value) (x_15 : Bool) : Option api_Value :=
  (if x_15 = true then some a1 else (if (a0 == 3) = true then (group_lay.j3 a1 a2 true) else (group_lay.j3 a1 a2 (a0 == 4))))
def group_lay.j2 (a0 : Int) (a1 : api_Value) (a2 : api_Value) (x_19 : Bool) : Option api_Value :=
  (group_lay.j1 a0 a1 a2 x_19)
def group_lay.j0 (a0 : Int) (a1 : api_Value) (a2 : api_Value) (y_4 : Int) (x_7 : Bool) : Option api_Value :=
  (if x_7 = true then (group_lay.j1 a0 a1 a2 x_7) else (if (a0 == 4) = true then (group_lay.j2 a0 a1 a2 (decide (y_4 ≥ 0))) else (group_lay.j2 a0 a1 a2 false)))
def group_lay (a0 : Int) (a1 : api_Value) (a2 : api_Value) : Option api_Value :=
  ((value_Compare a1 a2).bind fun y_4 => (if (a0 == 3) = true then (group_lay.j0 a0 a1 a2 y_4 (decide (y_4 ≤ 0))) else (group_lay.j0 a0 a1 a2 y_4 false)))
def slices_CompareFunc_api_Value_api_Value_api_Value_api_Value_f_value_Compare.l0 (a0 : List api_Value) (a1 : List api_Value) : Nat → Int → Option Int
  | 0, _ => none
  | k + 1, x_27 => (if (decide (x_27 < (a0.length : Int))) = true then ((ix a0 x_27).bind fun y_55 => (if (decide (x_27 ≥ (a1.length : Int))) = true then some 1 else ((ix a1 x_27).bind fun y_66 => ((value_Compare y_55 y_66).bind fun y_76 => (if (y_76 != 0) = true then some y_76 else (slices_CompareFunc_api_Value_api_Value_api_Value_api_Value_f_value_Compare.l0 a0 a1 k (IntKind.i64.wrap (x_27 + 1)))))))) else (if (decide ((a0.length : Int) < (a1.length : Int))) = true then some (-1) else some 0))
def slices_CompareFunc_api_Value_api_Value_api_Value_api_Value_f_value_Compare (a0 : List api_Value) (a1 : List api_Value) : Option Int :=
  (slices_CompareFunc_api_Value_api_Value_api_Value_api_Value_f_value_Compare.l0 a0 a1 (((a0.length : Int) - 0).toNat + 1) 0)
def table_order (a0 : List api_Value) (a1 : List api_Value) : Option Int :=
  ((slices_CompareFunc_api_Value_api_Value_api_Value_api_Value_f_value_Compare a0 a1).bind fun y_1 => some y_1)
noncomputable def slices_SortFunc_api_Value_api_Value_f_table_order (a0 : List (List api_Value)) : Option (List (List api_Value)) := sortBy table_order a0
def table_Canon.l0 (a0 : api_Table) (y_3 : List api_Col) : Nat → (List (List api_Value)) → Int → Option api_Table
  | 0, _, _ => none
  | k + 1, x_79, x_84 => (if (decide (x_84 < (a0.Rows.length : Int))) = true then ((ix a0.Rows x_84).bind fun y_146 => ((slices_Clone_api_Value_api_Value y_146).bind fun y_179 => ((apd 24 x_79 [y_179]).bind fun y_193 => (table_Canon.l0 a0 y_3 k y_193 (IntKind.i64.wrap (x_84 + 1)))))) else ((slices_SortFunc_api_Value_api_Value_f_table_order x_79).bind fun y_201 => some (⟨y_3, y_201⟩ : api_Table)))
def table_Canon (a0 : api_Table) : Option api_Table :=
  ((slices_Clone_api_Col_api_Col a0.Cols).bind fun y_3 => (table_Canon.l0 a0 y_3 (((a0.Rows.length : Int) - 0).toNat + 1) [] 0))
def group_together.l1 (kl0 : (List Int) → Int → Option api_Table) (a2 : List api_Agg) (x_59 : Int) (y_109 : api_Agg) (y_119 : Int) : Nat → (List Int) → Int → Option api_Table
  | 0, _, _ => none
  | k + 1, x_131, x_135 => (if (decide (x_135 < y_119)) = true then ((apd 8 x_131 [y_109.Kind]).bind fun y_147 => (group_together.l1 kl0 a2 x_59 y_109 y_119 k y_147 (IntKind.i64.wrap (x_135 + 1)))) else (kl0 x_131 (IntKind.i64.wrap (x_59 + 1))))
def group_together.l4 (kl3 : (List api_Value) → Int → Option api_Table) (a1 : Int) (x_55 : List Int) (y_1785 : List (List api_Value)) (x_2041 : Int) (y_2289 : List api_Value) : Nat → (List api_Value) → Int → Option api_Table
  | 0, _, _ => none
  | k + 1, x_2377, x_2381 => (if (decide (x_2381 < (x_55.length : Int))) = true then ((ix x_55 x_2381).bind fun y_2459 => ((ix x_2377 (IntKind.i64.wrap (a1 + x_2381))).bind fun y_2500 => ((ix y_2289 (IntKind.i64.wrap (a1 + x_2381))).bind fun y_2508 => ((group_lay y_2459 y_2500 y_2508).bind fun y_2517 => ((ix x_2377 (IntKind.i64.wrap (a1 + x_2381))).bind fun y_2519 => (group_together.l4 kl3 a1 x_55 y_1785 x_2041 y_2289 k (upd x_2377 (IntKind.i64.wrap (a1 + x_2381)) y_2517) (IntKind.i64.wrap (x_2381 + 1)))))))) else (kl3 x_2377 (IntKind.i64.wrap (x_2041 + 1))))
def group_together.l3 (kl2 : (List (List api_Value)) → Int → Option api_Table) (a1 : Int) (x_55 : List Int) (y_154 : List (List (List api_Value))) (x_957 : List (List api_Value)) (x_961 : Int) (y_1785 : List (List api_Value)) : Nat → (List api_Value) → Int → Option api_Table
  | 0, _, _ => none
  | k + 1, x_2037, x_2041 => (if (decide (x_2041 < (y_1785.length : Int))) = true then ((ix y_1785 x_2041).bind fun y_2289 => (group_together.l4 (group_together.l3 kl2 a1 x_55 y_154 x_957 x_961 y_1785 k) a1 x_55 y_1785 x_2041 y_2289 (((x_55.length : Int) - 0).toNat + 1) x_2037 0)) else ((apd 24 x_957 [x_2037]).bind fun y_2538 => (kl2 y_2538 (IntKind.i64.wrap (x_961 + 1)))))
def group_together.l2 (a0 : api_Table) (a1 : Int) (x_55 : List Int) (y_154 : List (List (List api_Value))) : Nat → (List (List api_Value)) → Int → Option api_Table
  | 0, _, _ => none
  | k + 1, x_957, x_961 => (if (decide (x_961 < (y_154.length : Int))) = true then ((ix y_154 x_961).bind fun y_1756 => ((ix y_1756 0).bind fun y_1766 => ((slices_Clone_api_Value_api_Value y_1766).bind fun y_1777 => ((cut y_1756 1 y_1756.length).bind fun y_1785 => (group_together.l3 (group_together.l2 a0 a1 x_55 y_154 k) a1 x_55 y_154 x_957 x_961 y_1785 (((y_1785.length : Int) - 0).toNat + 1) y_1777 0))))) else ((table_Canon (⟨a0.Cols, x_957⟩ : api_Table)).bind fun y_2544 => some y_2544))
def group_together.l0 (a0 : api_Table) (a1 : Int) (a2 : List api_Agg) : Nat → (List Int) → Int → Option api_Table
  | 0, _, _ => none
  | k + 1, x_55, x_59 => (if (decide (x_59 < (a2.length : Int))) = true then ((ix a2 x_59).bind fun y_109 => ((group_width y_109).bind fun y_119 => (group_together.l1 (group_together.l0 a0 a1 a2 k) a2 x_59 y_109 y_119 ((y_119 - 0).toNat + 1) x_55 0))) else ((group_bucket_api_Value_f_group_together_1p a0.Rows a1).bind fun y_154 => (group_together.l2 a0 a1 x_55 y_154 (((y_154.length : Int) - 0).toNat + 1) [] 0)))
def group_together (a0 : api_Table) (a1 : Int) (a2 : List api_Agg) : Option api_Table :=
  (group_together.l0 a0 a1 a2 (((a2.length : Int) - 0).toNat + 1) [] 0)
def group_Partial.j5 (kl2 : (List api_Value) → Int → Option (api_Table × Int)) (a2 : List api_Agg) (x_801 : Int) (x_922 : List api_Value) : Option (api_Table × Int) :=
  (kl2 x_922 (IntKind.i64.wrap (x_801 + 1)))
def group_Partial.j4 (kl2 : (List api_Value) → Int → Option (api_Table × Int)) (a2 : List api_Agg) (x_801 : Int) (x_892 : List api_Value) (x_908 : Bool) : Option (api_Table × Int) :=
  (if x_908 = true then ((value_OfInt 1).bind fun y_928 => ((apd 96 x_892 [y_928]).bind fun y_931 => (group_Partial.j5 kl2 a2 x_801 y_931))) else (group_Partial.j5 kl2 a2 x_801 x_892))
def group_Partial.j3 (kl2 : (List api_Value) → Int → Option (api_Table × Int)) (a2 : List api_Agg) (x_801 : Int) (y_871 : api_Agg) (x_892 : List api_Value) : Option (api_Table × Int) :=
  (if (y_871.Kind == 1) = true then (group_Partial.j4 kl2 a2 x_801 x_892 true) else (group_Partial.j4 kl2 a2 x_801 x_892 (y_871.Kind == 5)))
def group_Partial.l2 (kl0 : (List (List api_Value)) → Int → Option (api_Table × Int)) (a0 : api_Table) (a2 : List api_Agg) (x_335 : List (List api_Value)) (x_339 : Int) (y_647 : List api_Value) : Nat → (List api_Value) → Int → Option (api_Table × Int)
  | 0, _, _ => none
  | k + 1, x_797, x_801 => (if (decide (x_801 < (a2.length : Int))) = true then ((ix a2 x_801).bind fun y_871 => (if (y_871.Kind != 1) = true then ((group_Partial_1_cp_cp y_871.Col y_647 a0).bind fun y_898 => ((apd 96 x_797 [y_898]).bind fun y_901 => (group_Partial.j3 (group_Partial.l2 kl0 a0 a2 x_335 x_339 y_647 k) a2 x_801 y_871 y_901))) else (group_Partial.j3 (group_Partial.l2 kl0 a0 a2 x_335 x_339 y_647 k) a2 x_801 y_871 x_797))) else ((apd 24 x_335 [x_797]).bind fun y_942 => (kl0 y_942 (IntKind.i64.wrap (x_339 + 1)))))
def group_Partial.l1 (kl0 : (List (List api_Value)) → Int → Option (api_Table × Int)) (a0 : api_Table) (a1 : List ByteArray) (a2 : List api_Agg) (x_335 : List (List api_Value)) (x_339 : Int) (y_647 : List api_Value) : Nat → (List api_Value) → Int → Option (api_Table × Int)
  | 0, _, _ => none
  | k + 1, x_682, x_686 => (if (decide (x_686 < (a1.length : Int))) = true then ((ix a1 x_686).bind fun y_710 => ((group_Partial_1_cp_cp y_710 y_647 a0).bind fun y_719 => ((apd 96 x_682 [y_719]).bind fun y_722 => (group_Partial.l1 kl0 a0 a1 a2 x_335 x_339 y_647 k y_722 (IntKind.i64.wrap (x_686 + 1)))))) else (group_Partial.l2 kl0 a0 a2 x_335 x_339 y_647 (((a2.length : Int) - 0).toNat + 1) x_682 0))
def group_Partial.l0 (a0 : api_Table) (a1 : List ByteArray) (a2 : List api_Agg) (y_10 : (List api_Col) × (List api_Col) × Bool) : Nat → (List (List api_Value)) → Int → Option (api_Table × Int)
  | 0, _, _ => none
  | k + 1, x_335, x_339 => (if (decide (x_339 < (a0.Rows.length : Int))) = true then ((ix a0.Rows x_339).bind fun y_647 => (group_Partial.l1 (group_Partial.l0 a0 a1 a2 y_10 k) a0 a1 a2 x_335 x_339 y_647 (((a1.length : Int) - 0).toNat + 1) [] 0)) else ((group_together (⟨y_10.1, x_335⟩ : api_Table) (a1.length : Int) a2).bind fun y_954 => some (y_954, 0)))
def group_Partial (a0 : api_Table) (a1 : List ByteArray) (a2 : List api_Agg) : Option (api_Table × Int) :=
  ((table_Check a0).bind fun y_3 => (if (y_3 != 0) = true then some ((⟨([] : List api_Col), ([] : List (List api_Value))⟩ : api_Table), y_3) else ((group_Cols a0.Cols a1 a2).bind fun y_10 => (if (!y_10.2.2) = true then some ((⟨([] : List api_Col), ([] : List (List api_Value))⟩ : api_Table), 1) else (group_Partial.l0 a0 a1 a2 y_10 (((a0.Rows.length : Int) - 0).toNat + 1) [] 0)))))
def group_origin.j2 (kl0 : (List api_Col) → (List api_Col) → Int → Option ((List api_Col) × (List api_Col) × Bool)) (a2 : List api_Agg) (x_127 : List api_Col) (x_128 : Int) (y_230 : api_Agg) (x_283 : List api_Col) : Option ((List api_Col) × (List api_Col) × Bool) :=
  ((group_width y_230).bind fun y_321 => ((cut x_127 (min (x_127.length : Int) y_321) x_127.length).bind fun y_323 => (kl0 x_283 y_323 (IntKind.i64.wrap (x_128 + 1)))))
def group_origin.j1 (kl0 : (List api_Col) → (List api_Col) → Int → Option ((List api_Col) × (List api_Col) × Bool)) (a2 : List api_Agg) (x_121 : List api_Col) (x_127 : List api_Col) (x_128 : Int) (y_230 : api_Agg) (x_244 : Bool) : Option ((List api_Col) × (List api_Col) × Bool) :=
  (if x_244 = true then ((ix x_127 0).bind fun y_305 => ((apd 24 x_121 [(⟨y_230.Col, y_305.Kind⟩ : api_Col)]).bind fun y_315 => (group_origin.j2 kl0 a2 x_127 x_128 y_230 y_315))) else (group_origin.j2 kl0 a2 x_127 x_128 y_230 x_121))
def group_origin.j3 (a0 : List api_Col) (a1 : List ByteArray) (a2 : List api_Agg) (x_331 : List api_Col) : Option ((List api_Col) × (List api_Col) × Bool) :=
  ((group_Cols x_331 a1 a2).bind fun y_343 => (if y_343.2.2 = true then ((slices_Equal_api_Col_api_Col y_343.1 a0).bind fun y_354 => some (x_331, y_343.2.1, y_354)) else some (x_331, y_343.2.1, false)))
def group_origin.l0 (a0 : List api_Col) (a1 : List ByteArray) (a2 : List api_Agg) : Nat → (List api_Col) → (List api_Col) → Int → Option ((List api_Col) × (List api_Col) × Bool)
  | 0, _, _, _ => none
  | k + 1, x_121, x_127, x_128 => (if (decide (x_128 < (a2.length : Int))) = true then ((ix a2 x_128).bind fun y_230 => (if ((x_127.length : Int) == 0) = true then some (([] : List api_Col), ([] : List api_Col), false) else (if (y_230.Kind != 1) = true then ((table_Find x_121 y_230.Col).bind fun y_247 => (group_origin.j1 (group_origin.l0 a0 a1 a2 k) a2 x_121 x_127 x_128 y_230 (decide (y_247 < 0)))) else (group_origin.j1 (group_origin.l0 a0 a1 a2 k) a2 x_121 x_127 x_128 y_230 false)))) else (if ((x_121.length : Int) == 0) = true then (group_origin.j3 a0 a1 a2 [(⟨(⟨#[97, 110, 121]⟩ : ByteArray), 1⟩ : api_Col)]) else (group_origin.j3 a0 a1 a2 x_121)))
def group_origin (a0 : List api_Col) (a1 : List ByteArray) (a2 : List api_Agg) : Option ((List api_Col) × (List api_Col) × Bool) :=
  (if (decide ((a0.length : Int) < (a1.length : Int))) = true then some (([] : List api_Col), ([] : List api_Col), false) else ((cut a0 0 (a1.length : Int)).bind fun y_2 => ((slices_Clone_api_Col_api_Col y_2).bind fun y_7 => ((cut a0 (a1.length : Int) a0.length).bind fun y_15 => (group_origin.l0 a0 a1 a2 (((a2.length : Int) - 0).toNat + 1) y_7 y_15 0)))))
def group_Merge (a0 : api_Table) (a1 : List ByteArray) (a2 : List api_Agg) : Option (api_Table × Int) :=
  ((table_Check a0).bind fun y_3 => (if (y_3 != 0) = true then some ((⟨([] : List api_Col), ([] : List (List api_Value))⟩ : api_Table), y_3) else ((group_origin a0.Cols a1 a2).bind fun y_10 => (if (!y_10.2.2) = true then some ((⟨([] : List api_Col), ([] : List (List api_Value))⟩ : api_Table), 1) else ((group_together a0 (a1.length : Int) a2).bind fun y_23 => some (y_23, 0))))))
def group_Finish.j2 (kl1 : (List api_Value) → (List api_Value) → Int → Option (api_Table × Int)) (a2 : List api_Agg) (x_810 : List api_Value) (x_816 : List api_Value) (x_817 : Int) (y_903 : api_Agg) (y_913 : api_Value) (x_939 : Int) : Option (api_Table × Int) :=
  ((apd 96 x_810 [(⟨y_913.Kind, x_939, y_913.S, y_913.H⟩ : api_Value)]).bind fun y_972 => ((group_width y_903).bind fun y_978 => ((cut x_816 y_978 x_816.length).bind fun y_980 => (kl1 y_972 y_980 (IntKind.i64.wrap (x_817 + 1))))))
def group_Finish.j3 (kl1 : (List api_Value) → (List api_Value) → Int → Option (api_Table × Int)) (a2 : List api_Agg) (x_810 : List api_Value) (x_816 : List api_Value) (x_817 : Int) (y_903 : api_Agg) (y_913 : api_Value) (x_953 : Int) : Option (api_Table × Int) :=
  (group_Finish.j2 kl1 a2 x_810 x_816 x_817 y_903 y_913 x_953)
def group_Finish.l1 (kl0 : (List (List api_Value)) → Int → Option (api_Table × Int)) (a0 : api_Table) (a2 : List api_Agg) (x_349 : List (List api_Value)) (x_353 : Int) : Nat → (List api_Value) → (List api_Value) → Int → Option (api_Table × Int)
  | 0, _, _, _ => none
  | k + 1, x_810, x_816, x_817 => (if (decide (x_817 < (a2.length : Int))) = true then ((ix a2 x_817).bind fun y_903 => ((ix x_816 0).bind fun y_913 => (if (y_903.Kind == 5) = true then ((ix x_816 1).bind fun y_942 => (if (y_942.N == 0) = true then (group_Finish.j3 (group_Finish.l1 kl0 a0 a2 x_349 x_353 k) a2 x_810 x_816 x_817 y_903 y_913 0) else (if (y_942.N != 0) = true then (group_Finish.j3 (group_Finish.l1 kl0 a0 a2 x_349 x_353 k) a2 x_810 x_816 x_817 y_903 y_913 (IntKind.i64.wrap (y_913.N.tdiv y_942.N))) else none))) else (group_Finish.j2 (group_Finish.l1 kl0 a0 a2 x_349 x_353 k) a2 x_810 x_816 x_817 y_903 y_913 y_913.N)))) else ((apd 24 x_349 [x_810]).bind fun y_990 => (kl0 y_990 (IntKind.i64.wrap (x_353 + 1)))))
def group_Finish.l0 (a0 : api_Table) (a1 : List ByteArray) (a2 : List api_Agg) (y_10 : (List api_Col) × (List api_Col) × Bool) : Nat → (List (List api_Value)) → Int → Option (api_Table × Int)
  | 0, _, _ => none
  | k + 1, x_349, x_353 => (if (decide (x_353 < (a0.Rows.length : Int))) = true then ((ix a0.Rows x_353).bind fun y_678 => ((cut y_678 0 (a1.length : Int)).bind fun y_707 => ((cut y_678 (a1.length : Int) y_678.length).bind fun y_712 => ((slices_Clone_api_Value_api_Value y_707).bind fun y_717 => (group_Finish.l1 (group_Finish.l0 a0 a1 a2 y_10 k) a0 a2 x_349 x_353 (((a2.length : Int) - 0).toNat + 1) y_717 y_712 0))))) else ((table_Canon (⟨y_10.2.1, x_349⟩ : api_Table)).bind fun y_996 => some (y_996, 0)))
def group_Finish (a0 : api_Table) (a1 : List ByteArray) (a2 : List api_Agg) : Option (api_Table × Int) :=
  ((table_Check a0).bind fun y_3 => (if (y_3 != 0) = true then some ((⟨([] : List api_Col), ([] : List (List api_Value))⟩ : api_Table), y_3) else ((group_origin a0.Cols a1 a2).bind fun y_10 => (if (!y_10.2.2) = true then some ((⟨([] : List api_Col), ([] : List (List api_Value))⟩ : api_Table), 1) else (group_Finish.l0 a0 a1 a2 y_10 (((a0.Rows.length : Int) - 0).toNat + 1) [] 0)))))
def group_Group.l0 (a1 : List ByteArray) (a2 : List api_Agg) : Nat → (List api_Col) → (List (List api_Value)) → Int → Option (api_Table × Int)
  | 0, _, _, _ => none
  | k + 1, x_70, x_73, x_74 => (if (decide (x_74 < 3)) = true then (if (decide (x_74 = 0)) = true then ((group_Partial (⟨x_70, x_73⟩ : api_Table) a1 a2).bind fun y_125 => (if (y_125.2 != 0) = true then some ((⟨[], []⟩ : api_Table), y_125.2) else (group_Group.l0 a1 a2 k y_125.1.Cols y_125.1.Rows (IntKind.i64.wrap (x_74 + 1))))) else (if (decide (x_74 = 1)) = true then ((group_Merge (⟨x_70, x_73⟩ : api_Table) a1 a2).bind fun y_146 => (if (y_146.2 != 0) = true then some ((⟨[], []⟩ : api_Table), y_146.2) else (group_Group.l0 a1 a2 k y_146.1.Cols y_146.1.Rows (IntKind.i64.wrap (x_74 + 1))))) else (if (decide (x_74 = 2)) = true then ((group_Finish (⟨x_70, x_73⟩ : api_Table) a1 a2).bind fun y_167 => (if (y_167.2 != 0) = true then some ((⟨[], []⟩ : api_Table), y_167.2) else (group_Group.l0 a1 a2 k y_167.1.Cols y_167.1.Rows (IntKind.i64.wrap (x_74 + 1))))) else none))) else some ((⟨x_70, x_73⟩ : api_Table), 0))
def group_Group (a0 : api_Table) (a1 : List ByteArray) (a2 : List api_Agg) : Option (api_Table × Int) :=
  (group_Group.l0 a1 a2 (((3 : Int) - 0).toNat + 1) a0.Cols a0.Rows 0)
def law18_shown : Option Bool :=
  ((law18_pairs (⟨#[97, 97, 98]⟩ : ByteArray) [1, 4, 7]).bind fun y_2 => ((group_Group y_2 [(⟨#[107]⟩ : ByteArray)] [(⟨1, (⟨#[]⟩ : ByteArray)⟩ : api_Agg), (⟨2, (⟨#[110]⟩ : ByteArray)⟩ : api_Agg), (⟨5, (⟨#[110]⟩ : ByteArray)⟩ : api_Agg)]).bind fun y_29 => ((group_Partial y_2 [(⟨#[107]⟩ : ByteArray)] [(⟨5, (⟨#[110]⟩ : ByteArray)⟩ : api_Agg)]).bind fun y_42 => ((group_Group y_2 ([] : List ByteArray) [(⟨4, (⟨#[110]⟩ : ByteArray)⟩ : api_Agg)]).bind fun y_59 => ((law18_pairs (⟨#[]⟩ : ByteArray) ([] : List Int)).bind fun y_68 => ((group_Group y_68 [(⟨#[107]⟩ : ByteArray)] [(⟨1, (⟨#[]⟩ : ByteArray)⟩ : api_Agg)]).bind fun y_90 => ((group_Group y_2 [(⟨#[120]⟩ : ByteArray)] [(⟨1, (⟨#[]⟩ : ByteArray)⟩ : api_Agg)]).bind fun y_107 => (if (y_29.2 == 0) = true then (if ((y_29.1.Rows.length : Int) == 2) = true then ((ix y_29.1.Rows 0).bind fun y_118 => (if ((y_118.length : Int) == 4) = true then ((ix y_29.1.Rows 0).bind fun y_130 => ((ix y_130 1).bind fun y_141 => (if (y_141.N == 2) = true then ((ix y_29.1.Rows 0).bind fun y_151 => ((ix y_151 2).bind fun y_162 => (if (y_162.N == 5) = true then ((ix y_29.1.Rows 0).bind fun y_172 => ((ix y_172 3).bind fun y_183 => (if (y_183.N == 2) = true then (if (y_42.2 == 0) = true then (if ((y_42.1.Cols.length : Int) == 3) = true then ((ix y_42.1.Cols 2).bind fun y_195 => (if (y_195.Name.toList == (⟨#[112, 35, 48, 35, 110]⟩ : ByteArray).toList) = true then ((ix y_42.1.Rows 0).bind fun y_204 => ((ix y_204 1).bind fun y_214 => (if (y_214.N == 5) = true then (if (y_59.2 == 0) = true then (if ((y_59.1.Rows.length : Int) == 1) = true then ((ix y_59.1.Rows 0).bind fun y_226 => ((ix y_226 0).bind fun y_237 => (if (y_237.N == 7) = true then (if (y_90.2 == 0) = true then (if ((y_90.1.Rows.length : Int) == 0) = true then some (y_107.2 == 1) else some false) else some false) else some false))) else some false) else some false) else some false))) else some false)) else some false) else some false) else some false))) else some false))) else some false))) else some false)) else some false) else some false))))))))
def law18_cut (a0 : api_Table) : Option api_Table :=
  (if (decide ((a0.Rows.length : Int) > 60)) = true then ((cut a0.Rows 0 60).bind fun y_4 => some (⟨a0.Cols, y_4⟩ : api_Table)) else some a0)
def law18_few.j0 (a0 : catchmentlaw18_By) (x_11 : List ByteArray) : Option catchmentlaw18_By :=
  (if (decide ((a0.Aggs.length : Int) > 20)) = true then ((cut a0.Aggs 0 20).bind fun y_20 => some (⟨x_11, y_20⟩ : catchmentlaw18_By)) else some (⟨x_11, a0.Aggs⟩ : catchmentlaw18_By))
def law18_few (a0 : catchmentlaw18_By) : Option catchmentlaw18_By :=
  (if (decide ((a0.Names.length : Int) > 20)) = true then ((cut a0.Names 0 20).bind fun y_14 => (law18_few.j0 a0 y_14)) else (law18_few.j0 a0 a0.Names))
def ref02_SameCols.l0 (a0 : List api_Col) (a1 : List api_Col) : Nat → Int → Option Bool
  | 0, _ => none
  | k + 1, x_41 => (if (decide (x_41 < (a0.length : Int))) = true then ((ix a0 x_41).bind fun y_100 => ((ix a1 x_41).bind fun y_109 => (if (!decide (y_100 = y_109)) = true then some false else (ref02_SameCols.l0 a0 a1 k (IntKind.i64.wrap (x_41 + 1)))))) else some true)
def ref02_SameCols (a0 : List api_Col) (a1 : List api_Col) : Option Bool :=
  (if ((a0.length : Int) != (a1.length : Int)) = true then some false else (ref02_SameCols.l0 a0 a1 (((a0.length : Int) - 0).toNat + 1) 0))
def ref01_order (a0 : Int) (a1 : Int) : Option Int :=
  (if (decide (a0 < a1)) = true then some (-1) else (if (decide (a0 > a1)) = true then some 1 else some 0))
def ref01_Compare.l2 (a0 : api_Value) (a1 : api_Value) : Nat → Int → Option Int
  | 0, _ => none
  | k + 1, x_100 => (if (decide (x_100 < 8)) = true then ((Arr8.ix a0.H x_100).bind fun y_129 => ((Arr8.ix a1.H x_100).bind fun y_131 => (if (y_129 != y_131) = true then ((Arr8.ix a0.H x_100).bind fun y_140 => ((Arr8.ix a1.H x_100).bind fun y_142 => ((ref01_order y_140 y_142).bind fun y_144 => some y_144))) else (ref01_Compare.l2 a0 a1 k (IntKind.i64.wrap (x_100 + 1)))))) else some 0)
def ref01_Compare.j1 (kl0 : Int → Option Int) (a0 : api_Value) (a1 : api_Value) (x_36 : Int) (x_66 : Bool) : Option Int :=
  (if x_66 = true then ((ixs a0.S x_36).bind fun y_74 => ((ixs a1.S x_36).bind fun y_76 => (if (y_74 != y_76) = true then ((ixs a0.S x_36).bind fun y_85 => ((ixs a1.S x_36).bind fun y_87 => ((ref01_order (IntKind.i64.wrap y_85) (IntKind.i64.wrap y_87)).bind fun y_89 => some y_89))) else (kl0 (IntKind.i64.wrap (x_36 + 1)))))) else (if ((a0.S.size : Int) != (a1.S.size : Int)) = true then ((ref01_order (a0.S.size : Int) (a1.S.size : Int)).bind fun y_92 => some y_92) else (ref01_Compare.l2 a0 a1 (((8 : Int) - 0).toNat + 1) 0)))
def ref01_Compare.l0 (a0 : api_Value) (a1 : api_Value) : Nat → Int → Option Int
  | 0, _ => none
  | k + 1, x_36 => (if (decide (x_36 < (a0.S.size : Int))) = true then (ref01_Compare.j1 (ref01_Compare.l0 a0 a1 k) a0 a1 x_36 (decide (x_36 < (a1.S.size : Int)))) else (ref01_Compare.j1 (ref01_Compare.l0 a0 a1 k) a0 a1 x_36 false))
def ref01_Compare (a0 : api_Value) (a1 : api_Value) : Option Int :=
  (if (a0.Kind != a1.Kind) = true then ((ref01_order a0.Kind a1.Kind).bind fun y_4 => some y_4) else (if (a0.N != a1.N) = true then ((ref01_order a0.N a1.N).bind fun y_7 => some y_7) else (ref01_Compare.l0 a0 a1 (((a0.S.size : Int) - 0).toNat + 1) 0)))
def ref02_Row.j1 (kl0 : Int → Option Int) (a0 : List api_Value) (a1 : List api_Value) (x_48 : Int) (x_98 : Bool) : Option Int :=
  (if x_98 = true then ((ix a0 x_48).bind fun y_122 => ((ix a1 x_48).bind fun y_131 => ((ref01_Compare y_122 y_131).bind fun y_140 => (if (y_140 != 0) = true then some y_140 else (kl0 (IntKind.i64.wrap (x_48 + 1))))))) else (if (decide ((a0.length : Int) < (a1.length : Int))) = true then some (-1) else (if (decide ((a0.length : Int) > (a1.length : Int))) = true then some 1 else some 0)))
def ref02_Row.l0 (a0 : List api_Value) (a1 : List api_Value) : Nat → Int → Option Int
  | 0, _ => none
  | k + 1, x_48 => (if (decide (x_48 < (a0.length : Int))) = true then (ref02_Row.j1 (ref02_Row.l0 a0 a1 k) a0 a1 x_48 (decide (x_48 < (a1.length : Int)))) else (ref02_Row.j1 (ref02_Row.l0 a0 a1 k) a0 a1 x_48 false))
def ref02_Row (a0 : List api_Value) (a1 : List api_Value) : Option Int :=
  (ref02_Row.l0 a0 a1 (((a0.length : Int) - 0).toNat + 1) 0)
def ref02_Same.l1 (a0 : api_Table) (a1 : api_Table) : Nat → Int → Option Bool
  | 0, _ => none
  | k + 1, x_63 => (if (decide (x_63 < (a0.Rows.length : Int))) = true then ((ix a0.Rows x_63).bind fun y_140 => ((ix a1.Rows x_63).bind fun y_151 => ((ref02_Row y_140 y_151).bind fun y_162 => (if (y_162 != 0) = true then some false else (ref02_Same.l1 a0 a1 k (IntKind.i64.wrap (x_63 + 1))))))) else some true)
def ref02_Same.j0 (a0 : api_Table) (a1 : api_Table) (x_6 : Bool) : Option Bool :=
  (if x_6 = true then some false else (ref02_Same.l1 a0 a1 (((a0.Rows.length : Int) - 0).toNat + 1) 0))
def ref02_Same (a0 : api_Table) (a1 : api_Table) : Option Bool :=
  ((ref02_SameCols a0.Cols a1.Cols).bind fun y_8 => (if (!y_8) = true then (ref02_Same.j0 a0 a1 true) else (ref02_Same.j0 a0 a1 ((a0.Rows.length : Int) != (a1.Rows.length : Int)))))
def ref02_Name.j2 (kl1 : Int → Option Bool) (a0 : ByteArray) (x_45 : Int) (x_86 : Bool) : Option Bool :=
  (if x_86 = true then some false else (kl1 (IntKind.i64.wrap (x_45 + 1))))
def ref02_Name.l1 (a0 : ByteArray) : Nat → Int → Option Bool
  | 0, _ => none
  | k + 1, x_45 => (if (decide (x_45 < (a0.size : Int))) = true then ((ixs a0 x_45).bind fun y_74 => (if (decide (y_74 ≥ 97)) = true then (if (decide (y_74 ≤ 122)) = true then (ref02_Name.j2 (ref02_Name.l1 a0 k) a0 x_45 false) else (if (decide (y_74 ≥ 48)) = true then (if (decide (y_74 ≤ 57)) = true then (ref02_Name.j2 (ref02_Name.l1 a0 k) a0 x_45 false) else (if (y_74 == 95) = true then (ref02_Name.j2 (ref02_Name.l1 a0 k) a0 x_45 false) else (ref02_Name.j2 (ref02_Name.l1 a0 k) a0 x_45 (!(y_74 == 35))))) else (if (y_74 == 95) = true then (ref02_Name.j2 (ref02_Name.l1 a0 k) a0 x_45 false) else (ref02_Name.j2 (ref02_Name.l1 a0 k) a0 x_45 (!(y_74 == 35)))))) else (if (decide (y_74 ≥ 48)) = true then (if (decide (y_74 ≤ 57)) = true then (ref02_Name.j2 (ref02_Name.l1 a0 k) a0 x_45 false) else (if (y_74 == 95) = true then (ref02_Name.j2 (ref02_Name.l1 a0 k) a0 x_45 false) else (ref02_Name.j2 (ref02_Name.l1 a0 k) a0 x_45 (!(y_74 == 35))))) else (if (y_74 == 95) = true then (ref02_Name.j2 (ref02_Name.l1 a0 k) a0 x_45 false) else (ref02_Name.j2 (ref02_Name.l1 a0 k) a0 x_45 (!(y_74 == 35))))))) else some true)
def ref02_Name.j0 (a0 : ByteArray) (x_8 : Bool) : Option Bool :=
  (if x_8 = true then some false else (ref02_Name.l1 a0 (((a0.size : Int) - 0).toNat + 1) 0))
def ref02_Name (a0 : ByteArray) : Option Bool :=
  (if (decide ((a0.size : Int) < 1)) = true then (ref02_Name.j0 a0 true) else (if (decide ((a0.size : Int) > 24)) = true then (ref02_Name.j0 a0 true) else ((ixs a0 0).bind fun y_12 => (if (decide (y_12 < 97)) = true then (ref02_Name.j0 a0 true) else ((ixs a0 0).bind fun y_15 => (ref02_Name.j0 a0 (decide (y_15 > 122))))))))
def ref02_Find.l0 (a0 : List api_Col) (a1 : ByteArray) : Nat → Int → Option Int
  | 0, _ => none
  | k + 1, x_13 => (if (decide (x_13 < (a0.length : Int))) = true then ((ix a0 x_13).bind fun y_27 => (if (y_27.Name.toList == a1.toList) = true then some x_13 else (ref02_Find.l0 a0 a1 k (IntKind.i64.wrap (x_13 + 1))))) else some (-1))
def ref02_Find (a0 : List api_Col) (a1 : ByteArray) : Option Int :=
  (ref02_Find.l0 a0 a1 (((a0.length : Int) - 0).toNat + 1) 0)
def ref02_Cols.j2 (kl1 : Int → Option Bool) (a0 : List api_Col) (x_97 : Int) (x_233 : Bool) : Option Bool :=
  (if x_233 = true then some false else (kl1 (IntKind.i64.wrap (x_97 + 1))))
def ref02_Cols.l1 (a0 : List api_Col) : Nat → Int → Option Bool
  | 0, _ => none
  | k + 1, x_97 => (if (decide (x_97 < (a0.length : Int))) = true then ((ix a0 x_97).bind fun y_235 => ((ref02_Name y_235.Name).bind fun y_244 => (if (!y_244) = true then (ref02_Cols.j2 (ref02_Cols.l1 a0 k) a0 x_97 true) else ((ix a0 x_97).bind fun y_247 => ((ref02_Find a0 y_247.Name).bind fun y_256 => (if (y_256 != x_97) = true then (ref02_Cols.j2 (ref02_Cols.l1 a0 k) a0 x_97 true) else ((ix a0 x_97).bind fun y_259 => (if (decide (y_259.Kind < 1)) = true then (ref02_Cols.j2 (ref02_Cols.l1 a0 k) a0 x_97 true) else ((ix a0 x_97).bind fun y_269 => (ref02_Cols.j2 (ref02_Cols.l1 a0 k) a0 x_97 (decide (y_269.Kind > 4)))))))))))) else some true)
def ref02_Cols.j0 (a0 : List api_Col) (x_2 : Bool) : Option Bool :=
  (if x_2 = true then some false else (ref02_Cols.l1 a0 (((a0.length : Int) - 0).toNat + 1) 0))
def ref02_Cols (a0 : List api_Col) : Option Bool :=
  (if (decide ((a0.length : Int) < 1)) = true then (ref02_Cols.j0 a0 true) else (ref02_Cols.j0 a0 (decide ((a0.length : Int) > 16))))
def ref01_Valid (a0 : api_Value) : Option Bool :=
  (if (a0.Kind == 1) = true then (if (a0.S.toList == (⟨#[]⟩ : ByteArray).toList) = true then some (decide (a0.H = (⟨0, 0, 0, 0, 0, 0, 0, 0⟩ : Arr8))) else some false) else (if (a0.Kind == 2) = true then (if (a0.N == 0) = true then (if (decide (a0.H = (⟨0, 0, 0, 0, 0, 0, 0, 0⟩ : Arr8))) = true then some (decide ((a0.S.size : Int) ≤ 64)) else some false) else some false) else (if (a0.Kind == 3) = true then (if (a0.N == 0) = true then (if (a0.S.toList == (⟨#[]⟩ : ByteArray).toList) = true then some (decide (a0.H = (⟨0, 0, 0, 0, 0, 0, 0, 0⟩ : Arr8))) else some false) else (if (a0.N == 1) = true then (if (a0.S.toList == (⟨#[]⟩ : ByteArray).toList) = true then some (decide (a0.H = (⟨0, 0, 0, 0, 0, 0, 0, 0⟩ : Arr8))) else some false) else some false)) else (if (a0.Kind == 4) = true then (if (a0.N == 0) = true then some (a0.S.toList == (⟨#[]⟩ : ByteArray).toList) else some false) else some false))))
def ref02_Check.j2 (kl1 : Int → Option Int) (a0 : api_Table) (x_1571 : Int) (x_1890 : Bool) : Option Int :=
  (if x_1890 = true then some 21 else (kl1 (IntKind.i64.wrap (x_1571 + 1))))
def ref02_Check.l1 (kl0 : Int → Option Int) (a0 : api_Table) (x_669 : Int) : Nat → Int → Option Int
  | 0, _ => none
  | k + 1, x_1571 => (if (decide (x_1571 < (a0.Cols.length : Int))) = true then ((ix a0.Rows x_669).bind fun y_1944 => ((ix y_1944 x_1571).bind fun y_1955 => ((ix a0.Cols x_1571).bind fun y_1964 => (if (y_1955.Kind != y_1964.Kind) = true then (ref02_Check.j2 (ref02_Check.l1 kl0 a0 x_669 k) a0 x_1571 true) else ((ix a0.Rows x_669).bind fun y_1974 => ((ix y_1974 x_1571).bind fun y_1985 => ((ref01_Valid y_1985).bind fun y_1994 => (ref02_Check.j2 (ref02_Check.l1 kl0 a0 x_669 k) a0 x_1571 (!y_1994))))))))) else (kl0 (IntKind.i64.wrap (x_669 + 1))))
def ref02_Check.l0 (a0 : api_Table) : Nat → Int → Option Int
  | 0, _ => none
  | k + 1, x_669 => (if (decide (x_669 < (a0.Rows.length : Int))) = true then ((ix a0.Rows x_669).bind fun y_1346 => (if ((y_1346.length : Int) != (a0.Cols.length : Int)) = true then some 21 else (ref02_Check.l1 (ref02_Check.l0 a0 k) a0 x_669 (((a0.Cols.length : Int) - 0).toNat + 1) 0))) else some 0)
def ref02_Check (a0 : api_Table) : Option Int :=
  ((ref02_Cols a0.Cols).bind fun y_2 => (if (!y_2) = true then some 20 else (ref02_Check.l0 a0 (((a0.Rows.length : Int) - 0).toNat + 1) 0)))
def law18_GroupCuts.j1 (kl0 : (List Int) → Int → Option Bool) (y_6 : api_Table) (x_46 : List Int) (x_50 : Int) (x_77 : Int) : Option Bool :=
  (if ((IntKind.i64.wrap ((y_6.Rows.length : Int) + 1)) != 0) = true then ((ix x_46 (IntKind.i64.wrap (x_50 + 1))).bind fun y_81 => (kl0 (upd x_46 (IntKind.i64.wrap (x_50 + 1)) (x_77.tmod (IntKind.i64.wrap ((y_6.Rows.length : Int) + 1)))) (IntKind.i64.wrap (x_50 + 1)))) else none)
def law18_GroupCuts.j7 (kl3 : (List api_Col) → (List (List api_Value)) → (List api_Col) → (List (List api_Value)) → Int → Option Bool) (x_1291 : Int) (x_2323 : List api_Col) (y_2479 : List (List api_Value)) (x_2815 : List api_Col) (x_2820 : List (List api_Value)) (x_2824 : Int) : Option Bool :=
  (if (x_2824 != 0) = true then some false else (kl3 x_2323 y_2479 x_2815 x_2820 (IntKind.i64.wrap (x_1291 + 1))))
def law18_GroupCuts.j6 (kl3 : (List api_Col) → (List (List api_Value)) → (List api_Col) → (List (List api_Value)) → Int → Option Bool) (y_4 : Bool) (y_14 : catchmentlaw18_By) (x_1277 : List (List api_Value)) (x_1287 : List (List api_Value)) (x_1291 : Int) (x_2323 : List api_Col) (x_2328 : List (List api_Value)) (x_2439 : Bool) : Option Bool :=
  (if x_2439 = true then some y_4 else ((apd 24 ([] : List (List api_Value)) x_1277).bind fun y_2470 => ((apd 24 y_2470 x_2328).bind fun y_2479 => ((apd 24 ([] : List (List api_Value)) x_1287).bind fun y_2995 => ((apd 24 y_2995 x_2328).bind fun y_3001 => ((group_Merge (⟨x_2323, y_3001⟩ : api_Table) y_14.Names y_14.Aggs).bind fun y_3015 => (law18_GroupCuts.j7 kl3 x_1291 x_2323 y_2479 y_3015.1.Cols y_3015.1.Rows y_3015.2)))))))
def law18_GroupCuts.j5 (kl3 : (List api_Col) → (List (List api_Value)) → (List api_Col) → (List (List api_Value)) → Int → Option Bool) (y_4 : Bool) (y_14 : catchmentlaw18_By) (y_380 : api_Table × Int) (x_1277 : List (List api_Value)) (x_1287 : List (List api_Value)) (x_1291 : Int) (x_2323 : List api_Col) (x_2328 : List (List api_Value)) (x_2332 : Int) (x_2432 : Bool) : Option Bool :=
  (if x_2432 = true then some false else (if (x_2332 != 0) = true then (law18_GroupCuts.j6 kl3 y_4 y_14 x_1277 x_1287 x_1291 x_2323 x_2328 true) else (law18_GroupCuts.j6 kl3 y_4 y_14 x_1277 x_1287 x_1291 x_2323 x_2328 (y_380.2 != 0))))
def law18_GroupCuts.j4 (kl3 : (List api_Col) → (List (List api_Value)) → (List api_Col) → (List (List api_Value)) → Int → Option Bool) (y_4 : Bool) (y_6 : api_Table) (y_14 : catchmentlaw18_By) (y_380 : api_Table × Int) (x_1277 : List (List api_Value)) (x_1287 : List (List api_Value)) (x_1291 : Int) (x_2323 : List api_Col) (x_2328 : List (List api_Value)) (x_2332 : Int) : Option Bool :=
  (if (!((x_2332 == 0) == (y_380.2 == 0))) = true then ((ref02_Check y_6).bind fun y_2435 => (law18_GroupCuts.j5 kl3 y_4 y_14 y_380 x_1277 x_1287 x_1291 x_2323 x_2328 x_2332 (y_2435 == 0))) else (law18_GroupCuts.j5 kl3 y_4 y_14 y_380 x_1277 x_1287 x_1291 x_2323 x_2328 x_2332 false))
def law18_GroupCuts.l3 (y_4 : Bool) (y_6 : api_Table) (y_14 : catchmentlaw18_By) (x_250 : List Int) (y_380 : api_Table × Int) : Nat → (List api_Col) → (List (List api_Value)) → (List api_Col) → (List (List api_Value)) → Int → Option Bool
  | 0, _, _, _, _, _ => none
  | k + 1, x_1275, x_1277, x_1282, x_1287, x_1291 => (if (decide (x_1291 < 3)) = true then ((ix x_250 x_1291).bind fun y_2382 => ((ix x_250 (IntKind.i64.wrap (x_1291 + 1))).bind fun y_2390 => ((cut y_6.Rows y_2382 y_2390).bind fun y_2398 => ((group_Partial (⟨y_6.Cols, y_2398⟩ : api_Table) y_14.Names y_14.Aggs).bind fun y_2403 => (law18_GroupCuts.j4 (law18_GroupCuts.l3 y_4 y_6 y_14 x_250 y_380 k) y_4 y_6 y_14 y_380 x_1277 x_1287 x_1291 y_2403.1.Cols y_2403.1.Rows y_2403.2))))) else ((group_Merge (⟨x_1275, x_1277⟩ : api_Table) y_14.Names y_14.Aggs).bind fun y_3155 => ((group_Finish y_3155.1 y_14.Names y_14.Aggs).bind fun y_3168 => ((group_Finish (⟨x_1282, x_1287⟩ : api_Table) y_14.Names y_14.Aggs).bind fun y_3181 => ((ref02_Same y_3168.1 y_380.1).bind fun y_3194 => ((ref02_Same y_3181.1 y_380.1).bind fun y_3196 => (if y_4 = true then (if (y_3155.2 == 0) = true then (if (y_3168.2 == 0) = true then (if (y_3181.2 == 0) = true then (if y_3194 = true then some y_3196 else some false) else some false) else some false) else some false) else some false)))))))
def law18_GroupCuts.j2 (y_4 : Bool) (y_6 : api_Table) (y_14 : catchmentlaw18_By) (x_250 : List Int) : Option Bool :=
  ((group_Group y_6 y_14.Names y_14.Aggs).bind fun y_380 => (law18_GroupCuts.l3 y_4 y_6 y_14 x_250 y_380 (((3 : Int) - 0).toNat + 1) [] [] [] [] 0))
def law18_GroupCuts.l0 (a2 : Arr2) (y_4 : Bool) (y_6 : api_Table) (y_14 : catchmentlaw18_By) : Nat → (List Int) → Int → Option Bool
  | 0, _, _ => none
  | k + 1, x_46, x_50 => (if (decide (x_50 < 2)) = true then ((Arr2.ix a2 x_50).bind fun y_74 => (if (decide (y_74 < 0)) = true then (law18_GroupCuts.j1 (law18_GroupCuts.l0 a2 y_4 y_6 y_14 k) y_6 x_46 x_50 (IntKind.i64.wrap (0 - (IntKind.i64.wrap (y_74 + 1))))) else (law18_GroupCuts.j1 (law18_GroupCuts.l0 a2 y_4 y_6 y_14 k) y_6 x_46 x_50 y_74))) else ((ix x_46 1).bind fun y_108 => ((ix x_46 2).bind fun y_116 => (if (decide (y_108 > y_116)) = true then ((ix x_46 2).bind fun y_318 => ((ix x_46 1).bind fun y_326 => ((ix x_46 1).bind fun y_334 => ((ix (upd x_46 1 y_318) 2).bind fun y_357 => (law18_GroupCuts.j2 y_4 y_6 y_14 (upd (upd x_46 1 y_318) 2 y_326)))))) else (law18_GroupCuts.j2 y_4 y_6 y_14 x_46)))))
def law18_GroupCuts (a0 : api_Table) (a1 : catchmentlaw18_By) (a2 : Arr2) : Option Bool :=
  ((law18_shown).bind fun y_4 => ((law18_cut a0).bind fun y_6 => ((law18_few a1).bind fun y_14 => (law18_GroupCuts.l0 a2 y_4 y_6 y_14 (((2 : Int) - 0).toNat + 1) [0, 0, 0, (y_6.Rows.length : Int)] 0))))
end
end Go.Proofs.YtonfglmfdhljnaaGreatDoor.M
end
