/- The functions that the laws come to, as plain Lean functions over numbers and lists (none: Go would panic, or the bound on rounds is used up). Printed by wip/eng/gen.py. -/
import Derived.Test.YtabdokppkcgdlaaEngN
namespace Go.Proofs.Ytabdokppkcgdlaa.M
open Go Go.Eng Go.Proofs Go.RowKit
set_option linter.unusedVariables false
set_option maxRecDepth 100000
noncomputable section

structure api_Col where
  Name : ByteArray
  Kind : Int
  deriving DecidableEq
def ty_api_Col : Ty api_Col := Ty.flat 2 (fun x => [.string x.Name, .int .i64 x.Kind]) (fun _ => rfl) (fun _ => all_cons rfl (all_cons rfl (all_nil)))
def ok_api_Col (x : api_Col) : Prop := (fun s => s.size ≤ 140737488351232) x.Name ∧ (fun x => (Lit.int .i64 x).wf = true) x.Kind

structure api_Value where
  Kind : Int
  N : Int
  S : ByteArray
  H : Arr8
  deriving DecidableEq
def ty_api_Value : Ty api_Value := Ty.flat 11 (fun x => [.int .i64 x.Kind, .int .i64 x.N, .string x.S, .int .i64 x.H.a0, .int .i64 x.H.a1, .int .i64 x.H.a2, .int .i64 x.H.a3, .int .i64 x.H.a4, .int .i64 x.H.a5, .int .i64 x.H.a6, .int .i64 x.H.a7]) (fun _ => rfl) (fun _ => all_cons rfl (all_cons rfl (all_cons rfl (all_cons rfl (all_cons rfl (all_cons rfl (all_cons rfl (all_cons rfl (all_cons rfl (all_cons rfl (all_cons rfl (all_nil))))))))))))
def ok_api_Value (x : api_Value) : Prop := (fun x => (Lit.int .i64 x).wf = true) x.Kind ∧ (fun x => (Lit.int .i64 x).wf = true) x.N ∧ (fun s => s.size ≤ 140737488351232) x.S ∧ ok_Arr8 x.H

structure api_Table where
  Cols : List api_Col
  Rows : List (List api_Value)
  deriving DecidableEq
def ty_api_Table : Ty api_Table where
  n := 2
  rep := fun R cs x => ∃ v0 v1, cs = [v0, v1] ∧ SlR ty_api_Col R v0 x.Cols ∧ SlR (tySl ty_api_Value) R v1 x.Rows
  mono := fun hR ⟨v0, v1, h, h0, h1⟩ => ⟨v0, v1, h, h0.mono hR, h1.mono hR⟩
  len := fun ⟨v0, v1, h, h0, h1⟩ => by subst h; rfl
  one := fun ⟨v0, v1, h, h0, h1⟩ => by subst h; exact all_cons h0.one (all_cons h1.one (all_nil))
def ok_api_Table (x : api_Table) : Prop := (fun xs => xs.length * 24 ≤ 140737488351232 ∧ ∀ x ∈ xs, ok_api_Col x) x.Cols ∧ (fun xs => xs.length * 24 ≤ 140737488351232 ∧ ∀ x ∈ xs, (fun xs => xs.length * 96 ≤ 140737488351232 ∧ ∀ x ∈ xs, ok_api_Value x) x) x.Rows

structure join_side where
  shared : List Int
  others : List Int
  deriving DecidableEq
def ty_join_side : Ty join_side where
  n := 2
  rep := fun R cs x => ∃ v0 v1, cs = [v0, v1] ∧ SlR (tyInt .i64) R v0 x.shared ∧ SlR (tyInt .i64) R v1 x.others
  mono := fun hR ⟨v0, v1, h, h0, h1⟩ => ⟨v0, v1, h, h0.mono hR, h1.mono hR⟩
  len := fun ⟨v0, v1, h, h0, h1⟩ => by subst h; rfl
  one := fun ⟨v0, v1, h, h0, h1⟩ => by subst h; exact all_cons h0.one (all_cons h1.one (all_nil))
def ok_join_side (x : join_side) : Prop := (fun xs => xs.length * 8 ≤ 140737488351232 ∧ ∀ x ∈ xs, (fun x => (Lit.int .i64 x).wf = true) x) x.shared ∧ (fun xs => xs.length * 8 ≤ 140737488351232 ∧ ∀ x ∈ xs, (fun x => (Lit.int .i64 x).wf = true) x) x.others

/-! ### catchment/catchmentlaw17.of -/
def law17_of.l0 (a2 : List Int) : Nat → (List api_Col) → (List (List api_Value)) → Int → Option api_Table
  | 0, _, _, _ => none
  | k + 1, x_78, x_83, x_87 => (if (decide ((IntKind.i64.wrap (x_87 + 1)) < (a2.length : Int))) = true then ((ix a2 x_87).bind fun y_183 => ((ix a2 (IntKind.i64.wrap (x_87 + 1))).bind fun y_192 => ((apd 24 x_83 [[(⟨1, y_183, (⟨#[]⟩ : ByteArray), (⟨0, 0, 0, 0, 0, 0, 0, 0⟩ : Arr8)⟩ : api_Value), (⟨1, y_192, (⟨#[]⟩ : ByteArray), (⟨0, 0, 0, 0, 0, 0, 0, 0⟩ : Arr8)⟩ : api_Value)]]).bind fun y_206 => (law17_of.l0 a2 k x_78 y_206 (IntKind.i64.wrap (x_87 + 2)))))) else some (⟨x_78, x_83⟩ : api_Table))

def law17_of (a0 : ByteArray) (a1 : ByteArray) (a2 : List Int) : Option api_Table :=
  (law17_of.l0 a2 (((a2.length : Int) - (IntKind.i64.wrap (0 + 1))).toNat + 1) [(⟨a0, 1⟩ : api_Col), (⟨a1, 1⟩ : api_Col)] [] 0)

/-! ### catchment/table.Name -/
def table_Name.j2 (kl0 : Int → Option Bool) (a0 : ByteArray) (x_11 : Int) : Option Bool :=
  (kl0 (IntKind.i64.wrap (x_11 + 1)))

def table_Name.j3 (kl0 : Int → Option Bool) (a0 : ByteArray) (x_11 : Int) (x_77 : Bool) : Option Bool :=
  (if x_77 = true then (table_Name.j2 kl0 a0 x_11) else some false)

def table_Name.j1 (kl0 : Int → Option Bool) (a0 : ByteArray) (x_11 : Int) (y_50 : Int) (x_53 : Bool) : Option Bool :=
  (if x_53 = true then (table_Name.j2 kl0 a0 x_11) else (if (decide (x_11 > 0)) = true then (if (decide (y_50 ≥ 48)) = true then (if (decide (y_50 ≤ 57)) = true then (table_Name.j3 kl0 a0 x_11 true) else (if (y_50 == 95) = true then (table_Name.j3 kl0 a0 x_11 true) else (table_Name.j3 kl0 a0 x_11 (y_50 == 35)))) else (if (y_50 == 95) = true then (table_Name.j3 kl0 a0 x_11 true) else (table_Name.j3 kl0 a0 x_11 (y_50 == 35)))) else (table_Name.j3 kl0 a0 x_11 false)))

def table_Name.l0 (a0 : ByteArray) : Nat → Int → Option Bool
  | 0, _ => none
  | k + 1, x_11 => (if (decide (x_11 < (a0.size : Int))) = true then ((ixs a0 x_11).bind fun y_50 => (if (decide (y_50 ≥ 97)) = true then (table_Name.j1 (table_Name.l0 a0 k) a0 x_11 y_50 (decide (y_50 ≤ 122))) else (table_Name.j1 (table_Name.l0 a0 k) a0 x_11 y_50 false))) else (if (decide ((a0.size : Int) ≥ 1)) = true then some (decide ((a0.size : Int) ≤ 24)) else some false))

def table_Name (a0 : ByteArray) : Option Bool :=
  (table_Name.l0 a0 (((a0.size : Int) - 0).toNat + 1) 0)

/-! ### catchment/table.Find$1 -/
def table_Find_1_cp (a0 : api_Col) (a1 : ByteArray) : Option Bool :=
  some (a0.Name.toList == a1.toList)

/-! ### slices.IndexFunc[[]catchment/api.Col,catchment/api.Col] -/
def slices_IndexFunc_api_Col_api_Col_f_table_Find_1p.l0 (a0 : List api_Col) (a1_0 : ByteArray) : Nat → Int → Option Int
  | 0, _ => none
  | k + 1, x_15 => (if (decide (x_15 < (a0.length : Int))) = true then ((ix a0 x_15).bind fun y_31 => ((table_Find_1_cp y_31 a1_0).bind fun y_40 => (if y_40 = true then some x_15 else (slices_IndexFunc_api_Col_api_Col_f_table_Find_1p.l0 a0 a1_0 k (IntKind.i64.wrap (x_15 + 1)))))) else some (-1))

def slices_IndexFunc_api_Col_api_Col_f_table_Find_1p (a0 : List api_Col) (a1_0 : ByteArray) : Option Int :=
  (slices_IndexFunc_api_Col_api_Col_f_table_Find_1p.l0 a0 a1_0 (((a0.length : Int) - 0).toNat + 1) 0)

/-! ### catchment/table.Find -/
def table_Find (a0 : List api_Col) (a1 : ByteArray) : Option Int :=
  ((slices_IndexFunc_api_Col_api_Col_f_table_Find_1p a0 a1).bind fun y_2 => some y_2)

/-! ### catchment/table.columns -/
def table_columns.j1 (kl0 : Int → Option Bool) (a0 : List api_Col) (x_30 : Int) (x_78 : Bool) : Option Bool :=
  (if x_78 = true then some false else (kl0 (IntKind.i64.wrap (x_30 + 1))))

def table_columns.l0 (a0 : List api_Col) : Nat → Int → Option Bool
  | 0, _ => none
  | k + 1, x_30 => (if (decide (x_30 < (a0.length : Int))) = true then ((ix a0 x_30).bind fun y_61 => ((table_Name y_61.Name).bind fun y_80 => (if (!y_80) = true then (table_columns.j1 (table_columns.l0 a0 k) a0 x_30 true) else (if (decide (y_61.Kind < 1)) = true then (table_columns.j1 (table_columns.l0 a0 k) a0 x_30 true) else (if (decide (y_61.Kind > 4)) = true then (table_columns.j1 (table_columns.l0 a0 k) a0 x_30 true) else ((table_Find a0 y_61.Name).bind fun y_85 => (table_columns.j1 (table_columns.l0 a0 k) a0 x_30 (y_85 != x_30)))))))) else (if (decide ((a0.length : Int) ≥ 1)) = true then some (decide ((a0.length : Int) ≤ 16)) else some false))

def table_columns (a0 : List api_Col) : Option Bool :=
  (table_columns.l0 a0 (((a0.length : Int) - 0).toNat + 1) 0)

/-! ### catchment/value.Valid -/
def value_Valid.j0 (x_59 : Int) (x_60 : ByteArray) (x_61 : Arr8) (x_62 : Bool) : Option Bool :=
  (if x_62 = true then some (decide ((⟨0, x_59, x_60, x_61⟩ : api_Value) = (⟨0, 0, (⟨#[]⟩ : ByteArray), (⟨0, 0, 0, 0, 0, 0, 0, 0⟩ : Arr8)⟩ : api_Value))) else some false)

def value_Valid.j1 (x_90 : Int) (x_91 : ByteArray) (x_92 : Arr8) (x_93 : Bool) : Option Bool :=
  (value_Valid.j0 x_90 x_91 x_92 x_93)

def value_Valid.j2 (a0 : api_Value) (x_106 : Int) (x_107 : Arr8) (x_108 : Bool) : Option Bool :=
  (value_Valid.j1 x_106 a0.S x_107 x_108)

def value_Valid.j3 (a0 : api_Value) (x_112 : Bool) : Option Bool :=
  (value_Valid.j2 a0 0 a0.H x_112)

def value_Valid.j4 (a0 : api_Value) (x_116 : Arr8) (x_117 : Bool) : Option Bool :=
  (value_Valid.j2 a0 a0.N x_116 x_117)

def value_Valid (a0 : api_Value) : Option Bool :=
  (if (a0.Kind == 1) = true then (value_Valid.j0 0 a0.S a0.H true) else (if (a0.Kind == 2) = true then (value_Valid.j1 a0.N (⟨#[]⟩ : ByteArray) a0.H (decide ((a0.S.size : Int) ≤ 64))) else (if (a0.Kind == 3) = true then (if (a0.N == 0) = true then (value_Valid.j3 a0 true) else (value_Valid.j3 a0 (a0.N == 1))) else (if (a0.Kind == 4) = true then (value_Valid.j4 a0 (⟨0, 0, 0, 0, 0, 0, 0, 0⟩ : Arr8) true) else (value_Valid.j4 a0 a0.H false)))))

/-! ### catchment/table.Check -/
def table_Check.j2 (kl1 : Int → Option Int) (y_413 : List api_Value) (x_488 : Int) (x_587 : Bool) : Option Int :=
  (if x_587 = true then some 21 else (kl1 (IntKind.i64.wrap (x_488 + 1))))

def table_Check.l1 (kl0 : Int → Option Int) (a0 : api_Table) (x_208 : Int) (y_413 : List api_Value) : Nat → Int → Option Int
  | 0, _ => none
  | k + 1, x_488 => (if (decide (x_488 < (y_413.length : Int))) = true then ((ix y_413 x_488).bind fun y_553 => ((ix a0.Cols x_488).bind fun y_601 => (if (y_553.Kind != y_601.Kind) = true then (table_Check.j2 (table_Check.l1 kl0 a0 x_208 y_413 k) y_413 x_488 true) else ((value_Valid y_553).bind fun y_611 => (table_Check.j2 (table_Check.l1 kl0 a0 x_208 y_413 k) y_413 x_488 (!y_611)))))) else (kl0 (IntKind.i64.wrap (x_208 + 1))))

def table_Check.l0 (a0 : api_Table) : Nat → Int → Option Int
  | 0, _ => none
  | k + 1, x_208 => (if (decide (x_208 < (a0.Rows.length : Int))) = true then ((ix a0.Rows x_208).bind fun y_413 => (if ((y_413.length : Int) != (a0.Cols.length : Int)) = true then some 21 else (table_Check.l1 (table_Check.l0 a0 k) a0 x_208 y_413 (((y_413.length : Int) - 0).toNat + 1) 0))) else some 0)

def table_Check (a0 : api_Table) : Option Int :=
  ((table_columns a0.Cols).bind fun y_2 => (if (!y_2) = true then some 20 else (table_Check.l0 a0 (((a0.Rows.length : Int) - 0).toNat + 1) 0)))

/-! ### slices.Clone[[]catchment/api.Col,catchment/api.Col] -/
def slices_Clone_api_Col_api_Col (a0 : List api_Col) : Option (List api_Col) :=
  ((apd 24 ([] : List api_Col) a0).bind fun y_4 => some y_4)

/-! ### catchment/join.Cols -/
def join_Cols.j1 (kl0 : (List api_Col) → Int → Option ((List api_Col) × Bool)) (a1 : List api_Col) (x_140 : Int) (x_334 : List api_Col) : Option ((List api_Col) × Bool) :=
  (kl0 x_334 (IntKind.i64.wrap (x_140 + 1)))

def join_Cols.j2 (kl0 : (List api_Col) → Int → Option ((List api_Col) × Bool)) (a1 : List api_Col) (x_136 : List api_Col) (x_140 : Int) (x_367 : Bool) : Option ((List api_Col) × Bool) :=
  (if x_367 = true then some (([] : List api_Col), false) else (join_Cols.j1 kl0 a1 x_140 x_136))

def join_Cols.j3 (x_136 : List api_Col) (x_393 : Bool) : Option ((List api_Col) × Bool) :=
  (if x_393 = true then some (([] : List api_Col), false) else some (x_136, true))

def join_Cols.l0 (a0 : List api_Col) (a1 : List api_Col) : Nat → (List api_Col) → Int → Option ((List api_Col) × Bool)
  | 0, _, _ => none
  | k + 1, x_136, x_140 => (if (decide (x_140 < (a1.length : Int))) = true then ((ix a1 x_140).bind fun y_268 => ((table_Find a0 y_268.Name).bind fun y_278 => (if (decide (y_278 < 0)) = true then ((apd 24 x_136 [y_268]).bind fun y_341 => (join_Cols.j1 (join_Cols.l0 a0 a1 k) a1 x_140 y_341)) else ((ix a0 y_278).bind fun y_379 => (if (y_379.Kind != y_268.Kind) = true then (join_Cols.j2 (join_Cols.l0 a0 a1 k) a1 x_136 x_140 true) else (join_Cols.j2 (join_Cols.l0 a0 a1 k) a1 x_136 x_140 (y_268.Kind == 4))))))) else (if ((x_136.length : Int) == (IntKind.i64.wrap ((a0.length : Int) + (a1.length : Int)))) = true then (join_Cols.j3 x_136 true) else (join_Cols.j3 x_136 (decide ((x_136.length : Int) > 16)))))

def join_Cols (a0 : List api_Col) (a1 : List api_Col) : Option ((List api_Col) × Bool) :=
  ((slices_Clone_api_Col_api_Col a0).bind fun y_1 => (join_Cols.l0 a0 a1 (((a1.length : Int) - 0).toNat + 1) y_1 0))

/-! ### catchment/join.split -/
def join_split.j1 (kl0 : (List Int) → Int → Option join_side) (a1 : List api_Col) (x_50 : Int) (x_111 : List Int) : Option join_side :=
  (kl0 x_111 (IntKind.i64.wrap (x_50 + 1)))

def join_split.j3 (kl2 : (List Int) → Int → Option join_side) (a0 : List api_Col) (x_171 : Int) (x_232 : List Int) : Option join_side :=
  (kl2 x_232 (IntKind.i64.wrap (x_171 + 1)))

def join_split.l2 (a0 : List api_Col) (a1 : List api_Col) (x_46 : List Int) : Nat → (List Int) → Int → Option join_side
  | 0, _, _ => none
  | k + 1, x_167, x_171 => (if (decide (x_171 < (a0.length : Int))) = true then ((ix a0 x_171).bind fun y_211 => ((table_Find a1 y_211.Name).bind fun y_221 => (if (decide (y_221 < 0)) = true then ((apd 8 x_167 [x_171]).bind fun y_239 => (join_split.j3 (join_split.l2 a0 a1 x_46 k) a0 x_171 y_239)) else (join_split.j3 (join_split.l2 a0 a1 x_46 k) a0 x_171 x_167)))) else some (⟨x_46, x_167⟩ : join_side))

def join_split.l0 (a0 : List api_Col) (a1 : List api_Col) : Nat → (List Int) → Int → Option join_side
  | 0, _, _ => none
  | k + 1, x_46, x_50 => (if (decide (x_50 < (a1.length : Int))) = true then ((ix a1 x_50).bind fun y_90 => ((table_Find a0 y_90.Name).bind fun y_100 => (if (decide (y_100 ≥ 0)) = true then ((apd 8 x_46 [y_100]).bind fun y_118 => (join_split.j1 (join_split.l0 a0 a1 k) a1 x_50 y_118)) else (join_split.j1 (join_split.l0 a0 a1 k) a1 x_50 x_46)))) else (join_split.l2 a0 a1 x_46 (((a0.length : Int) - 0).toNat + 1) [] 0))

def join_split (a0 : List api_Col) (a1 : List api_Col) : Option join_side :=
  (join_split.l0 a0 a1 (((a1.length : Int) - 0).toNat + 1) [] 0)

/-! ### catchment/join.Join$1 -/
def join_Join_1_cp_cp (a0 : Int) (a1 : api_Table) (a2 : api_Table) : Option Bool :=
  ((ix a2.Cols a0).bind fun y_12 => ((table_Find a1.Cols y_12.Name).bind fun y_21 => some (decide (y_21 < 0))))

/-! ### slices.IndexFunc[[]int,int] -/
def slices_IndexFunc_int_int_f_join_Join_1pp.l0 (a0 : List Int) (a1_0 : api_Table) (a1_1 : api_Table) : Nat → Int → Option Int
  | 0, _ => none
  | k + 1, x_15 => (if (decide (x_15 < (a0.length : Int))) = true then ((ix a0 x_15).bind fun y_31 => ((join_Join_1_cp_cp y_31 a1_0 a1_1).bind fun y_40 => (if y_40 = true then some x_15 else (slices_IndexFunc_int_int_f_join_Join_1pp.l0 a0 a1_0 a1_1 k (IntKind.i64.wrap (x_15 + 1)))))) else some (-1))

def slices_IndexFunc_int_int_f_join_Join_1pp (a0 : List Int) (a1_0 : api_Table) (a1_1 : api_Table) : Option Int :=
  (slices_IndexFunc_int_int_f_join_Join_1pp.l0 a0 a1_0 a1_1 (((a0.length : Int) - 0).toNat + 1) 0)

/-! ### slices.DeleteFunc[[]int,int] -/
def slices_DeleteFunc_int_int_f_join_Join_1pp.j1 (kl0 : (List Int) → Int → Int → Option (List Int)) (a0 : List Int) (y_1 : Int) (x_62 : Int) (x_139 : List Int) (x_143 : Int) : Option (List Int) :=
  (kl0 x_139 x_143 (IntKind.i64.wrap (x_62 + 1)))

def slices_DeleteFunc_int_int_f_join_Join_1pp.l0 (a0 : List Int) (a1_0 : api_Table) (a1_1 : api_Table) (y_1 : Int) : Nat → (List Int) → Int → Int → Option (List Int)
  | 0, _, _, _ => none
  | k + 1, x_57, x_61, x_62 => (if (decide (x_62 < (x_57.length : Int))) = true then ((ix x_57 x_62).bind fun y_113 => ((join_Join_1_cp_cp y_113 a1_0 a1_1).bind fun y_121 => (if (!y_121) = true then ((ix x_57 x_61).bind fun y_146 => (slices_DeleteFunc_int_int_f_join_Join_1pp.j1 (slices_DeleteFunc_int_int_f_join_Join_1pp.l0 a0 a1_0 a1_1 y_1 k) a0 y_1 x_62 (upd x_57 x_61 y_113) (IntKind.i64.wrap (x_61 + 1)))) else (slices_DeleteFunc_int_int_f_join_Join_1pp.j1 (slices_DeleteFunc_int_int_f_join_Join_1pp.l0 a0 a1_0 a1_1 y_1 k) a0 y_1 x_62 x_57 x_61)))) else ((cut x_57 x_61 (x_57.length : Int)).bind fun y_160 => ((cut (clr x_57 x_61 0) 0 x_61).bind fun y_168 => some y_168)))

def slices_DeleteFunc_int_int_f_join_Join_1pp (a0 : List Int) (a1_0 : api_Table) (a1_1 : api_Table) : Option (List Int) :=
  ((slices_IndexFunc_int_int_f_join_Join_1pp a0 a1_0 a1_1).bind fun y_1 => (if (y_1 == (-1)) = true then some a0 else (slices_DeleteFunc_int_int_f_join_Join_1pp.l0 a0 a1_0 a1_1 y_1 (((a0.length : Int) - (IntKind.i64.wrap (y_1 + 1))).toNat + 1) a0 y_1 (IntKind.i64.wrap (y_1 + 1)))))

/-! ### catchment/join.pick -/
def join_pick.l0 (a0 : List api_Value) (a1 : List Int) : Nat → (List api_Value) → Int → Option (List api_Value)
  | 0, _, _ => none
  | k + 1, x_31, x_35 => (if (decide (x_35 < (a1.length : Int))) = true then ((ix a1 x_35).bind fun y_66 => ((ix a0 y_66).bind fun y_75 => ((apd 96 x_31 [y_75]).bind fun y_85 => (join_pick.l0 a0 a1 k y_85 (IntKind.i64.wrap (x_35 + 1)))))) else some x_31)

def join_pick (a0 : List api_Value) (a1 : List Int) : Option (List api_Value) :=
  (join_pick.l0 a0 a1 (((a1.length : Int) - 0).toNat + 1) [] 0)

/-! ### slices.Clone[[]byte,byte] -/
def slices_Clone_byte_byte (a0 : List Int) : Option (List Int) :=
  ((apd 1 ([] : List Int) a0).bind fun y_4 => some y_4)

/-! ### catchment/wire.big -/
def wire_big.l0 (a1 : Int) (a2 : Int) : Nat → (List Int) → Int → Option (List Int)
  | 0, _, _ => none
  | k + 1, x_12, x_16 => (if (decide (x_16 ≥ 0)) = true then (if (decide (0 ≤ (IntKind.i64.wrap (8 * x_16)))) = true then ((apd 1 x_12 [IntKind.u8.wrap (a1.fdiv (2 ^ (min (IntKind.i64.wrap (8 * x_16)).toNat 64)))]).bind fun y_30 => (wire_big.l0 a1 a2 k y_30 (IntKind.i64.wrap (x_16 - 1)))) else none) else some x_12)

def wire_big (a0 : List Int) (a1 : Int) (a2 : Int) : Option (List Int) :=
  (wire_big.l0 a1 a2 (((IntKind.i64.wrap (a2 - 1)) - 0).toNat + 2) a0 (IntKind.i64.wrap (a2 - 1)))

/-! ### catchment/wire.put -/
def wire_put.l0 (a1 : api_Value) : Nat → (List Int) → Int → Option (List Int)
  | 0, _, _ => none
  | k + 1, x_56, x_60 => (if (decide (x_60 < 8)) = true then ((Arr8.ix a1.H x_60).bind fun y_75 => ((wire_big x_56 y_75 8).bind fun y_77 => (wire_put.l0 a1 k y_77 (IntKind.i64.wrap (x_60 + 1))))) else some x_56)

def wire_put (a0 : List Int) (a1 : api_Value) : Option (List Int) :=
  (if (a1.Kind == 1) = true then ((wire_big a0 a1.N 8).bind fun y_3 => some y_3) else (if (a1.Kind == 2) = true then ((apd 1 a0 [IntKind.u8.wrap (a1.S.size : Int)]).bind fun y_26 => ((apd 1 y_26 (sbytes a1.S)).bind fun y_32 => some y_32)) else (if (a1.Kind == 3) = true then ((apd 1 a0 [IntKind.u8.wrap a1.N]).bind fun y_40 => some y_40) else (wire_put.l0 a1 (((8 : Int) - 0).toNat + 1) a0 0))))

/-! ### catchment/wire.Put -/
def wire_Put (a0 : List Int) (a1 : api_Value) : Option ((List Int) × Int) :=
  ((value_Valid a1).bind fun y_2 => (if (!y_2) = true then some (([] : List Int), 10) else ((slices_Clone_byte_byte a0).bind fun y_23 => ((wire_put y_23 a1).bind fun y_31 => some (y_31, 0)))))

/-! ### catchment/join.mark -/
def join_mark.l0 (a0 : List api_Value) : Nat → (List Int) → Int → Option ByteArray
  | 0, _, _ => none
  | k + 1, x_35, x_39 => (if (decide (x_39 < (a0.length : Int))) = true then ((ix a0 x_39).bind fun y_73 => ((wire_Put ([] : List Int) y_73).bind fun y_83 => ((apd 1 x_35 y_83.1).bind fun y_94 => (join_mark.l0 a0 k y_94 (IntKind.i64.wrap (x_39 + 1)))))) else some (bstr x_35))

def join_mark (a0 : List api_Value) : Option ByteArray :=
  (join_mark.l0 a0 (((a0.length : Int) - 0).toNat + 1) [] 0)

/-! ### slices.Grow[[]catchment/api.Value,catchment/api.Value] -/
def slices_Grow_api_Value_api_Value (a0 : List api_Value) (a1 : Int) : Option (List api_Value) := grow0 96 a0 a1

/-! ### slices.Concat[[]catchment/api.Value,catchment/api.Value] -/
def slices_Concat_api_Value_api_Value.l1 (a0 : List (List api_Value)) : Nat → (List api_Value) → Int → Option (List api_Value)
  | 0, _, _ => none
  | k + 1, x_75, x_79 => (if (decide (x_79 < (a0.length : Int))) = true then ((ix a0 x_79).bind fun y_100 => ((apd 96 x_75 y_100).bind fun y_111 => (slices_Concat_api_Value_api_Value.l1 a0 k y_111 (IntKind.i64.wrap (x_79 + 1))))) else some x_75)

def slices_Concat_api_Value_api_Value.l0 (a0 : List (List api_Value)) : Nat → Int → Int → Option (List api_Value)
  | 0, _, _ => none
  | k + 1, x_16, x_17 => (if (decide (x_17 < (a0.length : Int))) = true then ((ix a0 x_17).bind fun y_34 => (if (decide ((IntKind.i64.wrap (x_16 + (y_34.length : Int))) < 0)) = true then none else (slices_Concat_api_Value_api_Value.l0 a0 k (IntKind.i64.wrap (x_16 + (y_34.length : Int))) (IntKind.i64.wrap (x_17 + 1))))) else ((slices_Grow_api_Value_api_Value ([] : List api_Value) x_16).bind fun y_47 => (slices_Concat_api_Value_api_Value.l1 a0 (((a0.length : Int) - 0).toNat + 1) y_47 0)))

def slices_Concat_api_Value_api_Value (a0 : List (List api_Value)) : Option (List api_Value) :=
  (slices_Concat_api_Value_api_Value.l0 a0 (((a0.length : Int) - 0).toNat + 1) 0 0)

/-! ### slices.Clone[[]catchment/api.Value,catchment/api.Value] -/
def slices_Clone_api_Value_api_Value (a0 : List api_Value) : Option (List api_Value) :=
  ((apd 96 ([] : List api_Value) a0).bind fun y_4 => some y_4)

/-! ### cmp.isNaN[int] -/
def cmp_isNaN_int (a0 : Int) : Option Bool :=
  some (a0 != a0)

/-! ### cmp.Compare[int] -/
def cmp_Compare_int (a0 : Int) (a1 : Int) : Option Int :=
  ((cmp_isNaN_int a0).bind fun y_1 => ((cmp_isNaN_int a1).bind fun y_3 => (if y_1 = true then (if y_3 = true then some 0 else some (-1)) else (if y_3 = true then some 1 else (if (decide (a0 < a1)) = true then some (-1) else (if (decide (a0 > a1)) = true then some 1 else some 0))))))

/-! ### internal/bytealg.CompareString -/
def internal_bytealg_CompareString (a0 : ByteArray) (a1 : ByteArray) : Option Int :=
  some (Lib.compareBytes a0.data.toList a1.data.toList)

/-! ### strings.Compare -/
def strings_Compare (a0 : ByteArray) (a1 : ByteArray) : Option Int :=
  ((internal_bytealg_CompareString a0 a1).bind fun y_1 => some y_1)

/-! ### slices.Compare[[]int,int] -/
def slices_Compare_int_int.l0 (a0 : List Int) (a1 : List Int) : Nat → Int → Option Int
  | 0, _ => none
  | k + 1, x_25 => (if (decide (x_25 < (a0.length : Int))) = true then ((ix a0 x_25).bind fun y_51 => (if (decide (x_25 ≥ (a1.length : Int))) = true then some 1 else ((ix a1 x_25).bind fun y_61 => ((cmp_Compare_int y_51 y_61).bind fun y_70 => (if (y_70 != 0) = true then some y_70 else (slices_Compare_int_int.l0 a0 a1 k (IntKind.i64.wrap (x_25 + 1)))))))) else (if (decide ((a0.length : Int) < (a1.length : Int))) = true then some (-1) else some 0))

def slices_Compare_int_int (a0 : List Int) (a1 : List Int) : Option Int :=
  (slices_Compare_int_int.l0 a0 a1 (((a0.length : Int) - 0).toNat + 1) 0)

/-! ### cmp.Or[int] -/
def cmp_Or_int.l0 (a0 : List Int) : Nat → Int → Option Int
  | 0, _ => none
  | k + 1, x_13 => (if (decide (x_13 < (a0.length : Int))) = true then ((ix a0 x_13).bind fun y_27 => (if (y_27 != 0) = true then some y_27 else (cmp_Or_int.l0 a0 k (IntKind.i64.wrap (x_13 + 1))))) else some 0)

def cmp_Or_int (a0 : List Int) : Option Int :=
  (cmp_Or_int.l0 a0 (((a0.length : Int) - 0).toNat + 1) 0)

/-! ### catchment/value.Compare -/
def value_Compare (a0 : api_Value) (a1 : api_Value) : Option Int :=
  ((cmp_Compare_int a0.Kind a1.Kind).bind fun y_14 => ((cmp_Compare_int a0.N a1.N).bind fun y_16 => ((strings_Compare a0.S a1.S).bind fun y_18 => ((slices_Compare_int_int a0.H.list a1.H.list).bind fun y_20 => ((cmp_Or_int [y_14, y_16, y_18, y_20]).bind fun y_23 => some y_23)))))

/-! ### slices.CompareFunc[[]catchment/api.Value,[]catchment/api.Value,catchment/api.Value,catchment/api.Value] -/
def slices_CompareFunc_api_Value_api_Value_api_Value_api_Value_f_value_Compare.l0 (a0 : List api_Value) (a1 : List api_Value) : Nat → Int → Option Int
  | 0, _ => none
  | k + 1, x_27 => (if (decide (x_27 < (a0.length : Int))) = true then ((ix a0 x_27).bind fun y_55 => (if (decide (x_27 ≥ (a1.length : Int))) = true then some 1 else ((ix a1 x_27).bind fun y_66 => ((value_Compare y_55 y_66).bind fun y_76 => (if (y_76 != 0) = true then some y_76 else (slices_CompareFunc_api_Value_api_Value_api_Value_api_Value_f_value_Compare.l0 a0 a1 k (IntKind.i64.wrap (x_27 + 1)))))))) else (if (decide ((a0.length : Int) < (a1.length : Int))) = true then some (-1) else some 0))

def slices_CompareFunc_api_Value_api_Value_api_Value_api_Value_f_value_Compare (a0 : List api_Value) (a1 : List api_Value) : Option Int :=
  (slices_CompareFunc_api_Value_api_Value_api_Value_api_Value_f_value_Compare.l0 a0 a1 (((a0.length : Int) - 0).toNat + 1) 0)

/-! ### catchment/table.order -/
def table_order (a0 : List api_Value) (a1 : List api_Value) : Option Int :=
  ((slices_CompareFunc_api_Value_api_Value_api_Value_api_Value_f_value_Compare a0 a1).bind fun y_1 => some y_1)

/-! ### slices.SortFunc[[][]catchment/api.Value,[]catchment/api.Value] -/
noncomputable def slices_SortFunc_api_Value_api_Value_f_table_order (a0 : List (List api_Value)) : Option (List (List api_Value)) := sortBy table_order a0

/-! ### catchment/table.Canon -/
def table_Canon.l0 (a0 : api_Table) (y_3 : List api_Col) : Nat → (List (List api_Value)) → Int → Option api_Table
  | 0, _, _ => none
  | k + 1, x_79, x_84 => (if (decide (x_84 < (a0.Rows.length : Int))) = true then ((ix a0.Rows x_84).bind fun y_146 => ((slices_Clone_api_Value_api_Value y_146).bind fun y_179 => ((apd 24 x_79 [y_179]).bind fun y_193 => (table_Canon.l0 a0 y_3 k y_193 (IntKind.i64.wrap (x_84 + 1)))))) else ((slices_SortFunc_api_Value_api_Value_f_table_order x_79).bind fun y_201 => some (⟨y_3, y_201⟩ : api_Table)))

def table_Canon (a0 : api_Table) : Option api_Table :=
  ((slices_Clone_api_Col_api_Col a0.Cols).bind fun y_3 => (table_Canon.l0 a0 y_3 (((a0.Rows.length : Int) - 0).toNat + 1) [] 0))

/-! ### catchment/join.Join -/
def join_Join.l4 (kl3 : (List (List api_Value)) → Int → Option (api_Table × Int)) (a0 : api_Table) (a2 : Int) (x_1038 : List (ByteArray × (List (List api_Value)))) (x_1413 : Int) (y_1625 : List api_Value) (y_1644 : ByteArray) : Nat → (List (List api_Value)) → Int → Option (api_Table × Int)
  | 0, _, _ => none
  | k + 1, x_1706, x_1710 => (if (decide (x_1710 < (((mget x_1038 y_1644).getD []).length : Int))) = true then ((ix ((mget x_1038 y_1644).getD []) x_1710).bind fun y_1771 => (if (decide ((x_1706.length : Int) ≥ a2)) = true then some ((⟨([] : List api_Col), ([] : List (List api_Value))⟩ : api_Table), 210) else ((slices_Concat_api_Value_api_Value [y_1625, y_1771]).bind fun y_1808 => ((apd 24 x_1706 [y_1808]).bind fun y_1821 => (join_Join.l4 kl3 a0 a2 x_1038 x_1413 y_1625 y_1644 k y_1821 (IntKind.i64.wrap (x_1710 + 1))))))) else (kl3 x_1706 (IntKind.i64.wrap (x_1413 + 1))))

def join_Join.l3 (a0 : api_Table) (a2 : Int) (y_82 : (List api_Col) × Bool) (y_959 : List Int) (x_1038 : List (ByteArray × (List (List api_Value)))) : Nat → (List (List api_Value)) → Int → Option (api_Table × Int)
  | 0, _, _ => none
  | k + 1, x_1409, x_1413 => (if (decide (x_1413 < (a0.Rows.length : Int))) = true then ((ix a0.Rows x_1413).bind fun y_1625 => ((join_pick y_1625 y_959).bind fun y_1636 => ((join_mark y_1636).bind fun y_1644 => (join_Join.l4 (join_Join.l3 a0 a2 y_82 y_959 x_1038 k) a0 a2 x_1038 x_1413 y_1625 y_1644 (((((mget x_1038 y_1644).getD []).length : Int) - 0).toNat + 1) x_1409 0)))) else ((table_Canon (⟨y_82.1, x_1409⟩ : api_Table)).bind fun y_1827 => some (y_1827, 0)))

def join_Join.l2 (a0 : api_Table) (a1 : api_Table) (a2 : Int) (y_82 : (List api_Col) × Bool) (x_528 : List Int) (x_533 : List Int) (y_959 : List Int) : Nat → (List (ByteArray × (List (List api_Value)))) → Int → Option (api_Table × Int)
  | 0, _, _ => none
  | k + 1, x_1038, x_1041 => (if (decide (x_1041 < (a1.Rows.length : Int))) = true then ((ix a1.Rows x_1041).bind fun y_1115 => ((join_pick y_1115 x_528).bind fun y_1126 => ((join_mark y_1126).bind fun y_1134 => ((join_pick y_1115 x_533).bind fun y_1160 => ((apd 24 ((mget x_1038 y_1134).getD []) [y_1160]).bind fun y_1176 => (join_Join.l2 a0 a1 a2 y_82 x_528 x_533 y_959 k (mset x_1038 y_1134 y_1176) (IntKind.i64.wrap (x_1041 + 1)))))))) else (join_Join.l3 a0 a2 y_82 y_959 x_1038 (((a0.Rows.length : Int) - 0).toNat + 1) [] 0))

def join_Join.j1 (a0 : api_Table) (a1 : api_Table) (a2 : Int) (y_82 : (List api_Col) × Bool) (x_517 : List Int) (x_522 : List Int) (x_528 : List Int) (x_533 : List Int) : Option (api_Table × Int) :=
  ((slices_DeleteFunc_int_int_f_join_Join_1pp x_517 a1 a0).bind fun y_959 => (join_Join.l2 a0 a1 a2 y_82 x_528 x_533 y_959 (((a1.Rows.length : Int) - 0).toNat + 1) ([] : List (ByteArray × (List (List api_Value)))) 0))

def join_Join.l0 (a0 : api_Table) (a1 : api_Table) (a2 : Int) : Nat → (List api_Table) → Int → Option (api_Table × Int)
  | 0, _, _ => none
  | k + 1, x_32, x_36 => (if (decide (x_36 < 2)) = true then ((ix x_32 x_36).bind fun y_62 => ((table_Check y_62).bind fun y_75 => (if (y_75 != 0) = true then some ((⟨([] : List api_Col), ([] : List (List api_Value))⟩ : api_Table), y_75) else (join_Join.l0 a0 a1 a2 k x_32 (IntKind.i64.wrap (x_36 + 1)))))) else ((join_Cols a0.Cols a1.Cols).bind fun y_82 => (if (!y_82.2) = true then some ((⟨([] : List api_Col), ([] : List (List api_Value))⟩ : api_Table), 20) else ((join_split a0.Cols a0.Cols).bind fun y_749 => ((join_split a1.Cols a0.Cols).bind fun y_761 => (join_Join.j1 a0 a1 a2 y_82 y_749.shared y_749.others y_761.shared y_761.others))))))

def join_Join (a0 : api_Table) (a1 : api_Table) (a2 : Int) : Option (api_Table × Int) :=
  (join_Join.l0 a0 a1 a2 (((2 : Int) - 0).toNat + 1) [a0, a1] 0)

/-! ### catchment/catchmentlaw17.shown -/
def law17_shown : Option Bool :=
  ((law17_of (⟨#[107]⟩ : ByteArray) (⟨#[110]⟩ : ByteArray) [1, 5, 2, 6]).bind fun y_2 => ((law17_of (⟨#[107]⟩ : ByteArray) (⟨#[109]⟩ : ByteArray) [1, 7, 1, 8, 3, 9]).bind fun y_16 => ((join_Join y_2 y_16 9).bind fun y_41 => ((join_Join y_2 y_16 1).bind fun y_54 => ((law17_of (⟨#[120]⟩ : ByteArray) (⟨#[110]⟩ : ByteArray) ([] : List Int)).bind fun y_67 => ((law17_of (⟨#[121]⟩ : ByteArray) (⟨#[109]⟩ : ByteArray) ([] : List Int)).bind fun y_79 => ((join_Join y_67 y_79 9).bind fun y_103 => (if (y_41.2 == 0) = true then (if ((y_41.1.Rows.length : Int) == 2) = true then (if ((y_41.1.Cols.length : Int) == 3) = true then ((ix y_41.1.Rows 1).bind fun y_119 => ((ix y_119 2).bind fun y_129 => (if (y_129.N == 8) = true then (if (y_54.2 == 210) = true then some (y_103.2 == 20) else some false) else some false))) else some false) else some false) else some false))))))))

/-! ### catchment/catchmentlaw17.cut -/
def law17_cut (a0 : api_Table) (a1 : Int) : Option api_Table :=
  (if (decide ((a0.Rows.length : Int) > a1)) = true then ((cut a0.Rows 0 a1).bind fun y_4 => some (⟨a0.Cols, y_4⟩ : api_Table)) else some a0)

/-! ### catchment/catchmentref02.Name -/
def ref02_Name.j2 (kl1 : Int → Option Bool) (a0 : ByteArray) (x_45 : Int) (x_86 : Bool) : Option Bool :=
  (if x_86 = true then some false else (kl1 (IntKind.i64.wrap (x_45 + 1))))

def ref02_Name.l1 (a0 : ByteArray) : Nat → Int → Option Bool
  | 0, _ => none
  | k + 1, x_45 => (if (decide (x_45 < (a0.size : Int))) = true then ((ixs a0 x_45).bind fun y_74 => (if (decide (y_74 ≥ 97)) = true then (if (decide (y_74 ≤ 122)) = true then (ref02_Name.j2 (ref02_Name.l1 a0 k) a0 x_45 false) else (if (decide (y_74 ≥ 48)) = true then (if (decide (y_74 ≤ 57)) = true then (ref02_Name.j2 (ref02_Name.l1 a0 k) a0 x_45 false) else (if (y_74 == 95) = true then (ref02_Name.j2 (ref02_Name.l1 a0 k) a0 x_45 false) else (ref02_Name.j2 (ref02_Name.l1 a0 k) a0 x_45 (!(y_74 == 35))))) else (if (y_74 == 95) = true then (ref02_Name.j2 (ref02_Name.l1 a0 k) a0 x_45 false) else (ref02_Name.j2 (ref02_Name.l1 a0 k) a0 x_45 (!(y_74 == 35)))))) else (if (decide (y_74 ≥ 48)) = true then (if (decide (y_74 ≤ 57)) = true then (ref02_Name.j2 (ref02_Name.l1 a0 k) a0 x_45 false) else (if (y_74 == 95) = true then (ref02_Name.j2 (ref02_Name.l1 a0 k) a0 x_45 false) else (ref02_Name.j2 (ref02_Name.l1 a0 k) a0 x_45 (!(y_74 == 35))))) else (if (y_74 == 95) = true then (ref02_Name.j2 (ref02_Name.l1 a0 k) a0 x_45 false) else (ref02_Name.j2 (ref02_Name.l1 a0 k) a0 x_45 (!(y_74 == 35))))))) else some true)

def ref02_Name.j0 (a0 : ByteArray) (x_8 : Bool) : Option Bool :=
  (if x_8 = true then some false else (ref02_Name.l1 a0 (((a0.size : Int) - 0).toNat + 1) 0))

def ref02_Name (a0 : ByteArray) : Option Bool :=
  (if (decide ((a0.size : Int) < 1)) = true then (ref02_Name.j0 a0 true) else (if (decide ((a0.size : Int) > 24)) = true then (ref02_Name.j0 a0 true) else ((ixs a0 0).bind fun y_12 => (if (decide (y_12 < 97)) = true then (ref02_Name.j0 a0 true) else ((ixs a0 0).bind fun y_15 => (ref02_Name.j0 a0 (decide (y_15 > 122))))))))

/-! ### catchment/catchmentref02.Find -/
def ref02_Find.l0 (a0 : List api_Col) (a1 : ByteArray) : Nat → Int → Option Int
  | 0, _ => none
  | k + 1, x_13 => (if (decide (x_13 < (a0.length : Int))) = true then ((ix a0 x_13).bind fun y_27 => (if (y_27.Name.toList == a1.toList) = true then some x_13 else (ref02_Find.l0 a0 a1 k (IntKind.i64.wrap (x_13 + 1))))) else some (-1))

def ref02_Find (a0 : List api_Col) (a1 : ByteArray) : Option Int :=
  (ref02_Find.l0 a0 a1 (((a0.length : Int) - 0).toNat + 1) 0)

/-! ### catchment/catchmentref02.Cols -/
def ref02_Cols.j2 (kl1 : Int → Option Bool) (a0 : List api_Col) (x_97 : Int) (x_233 : Bool) : Option Bool :=
  (if x_233 = true then some false else (kl1 (IntKind.i64.wrap (x_97 + 1))))

def ref02_Cols.l1 (a0 : List api_Col) : Nat → Int → Option Bool
  | 0, _ => none
  | k + 1, x_97 => (if (decide (x_97 < (a0.length : Int))) = true then ((ix a0 x_97).bind fun y_235 => ((ref02_Name y_235.Name).bind fun y_244 => (if (!y_244) = true then (ref02_Cols.j2 (ref02_Cols.l1 a0 k) a0 x_97 true) else ((ix a0 x_97).bind fun y_247 => ((ref02_Find a0 y_247.Name).bind fun y_256 => (if (y_256 != x_97) = true then (ref02_Cols.j2 (ref02_Cols.l1 a0 k) a0 x_97 true) else ((ix a0 x_97).bind fun y_259 => (if (decide (y_259.Kind < 1)) = true then (ref02_Cols.j2 (ref02_Cols.l1 a0 k) a0 x_97 true) else ((ix a0 x_97).bind fun y_269 => (ref02_Cols.j2 (ref02_Cols.l1 a0 k) a0 x_97 (decide (y_269.Kind > 4)))))))))))) else some true)

def ref02_Cols.j0 (a0 : List api_Col) (x_2 : Bool) : Option Bool :=
  (if x_2 = true then some false else (ref02_Cols.l1 a0 (((a0.length : Int) - 0).toNat + 1) 0))

def ref02_Cols (a0 : List api_Col) : Option Bool :=
  (if (decide ((a0.length : Int) < 1)) = true then (ref02_Cols.j0 a0 true) else (ref02_Cols.j0 a0 (decide ((a0.length : Int) > 16))))

/-! ### catchment/catchmentref01.Valid -/
def ref01_Valid (a0 : api_Value) : Option Bool :=
  (if (a0.Kind == 1) = true then (if (a0.S.toList == (⟨#[]⟩ : ByteArray).toList) = true then some (decide (a0.H = (⟨0, 0, 0, 0, 0, 0, 0, 0⟩ : Arr8))) else some false) else (if (a0.Kind == 2) = true then (if (a0.N == 0) = true then (if (decide (a0.H = (⟨0, 0, 0, 0, 0, 0, 0, 0⟩ : Arr8))) = true then some (decide ((a0.S.size : Int) ≤ 64)) else some false) else some false) else (if (a0.Kind == 3) = true then (if (a0.N == 0) = true then (if (a0.S.toList == (⟨#[]⟩ : ByteArray).toList) = true then some (decide (a0.H = (⟨0, 0, 0, 0, 0, 0, 0, 0⟩ : Arr8))) else some false) else (if (a0.N == 1) = true then (if (a0.S.toList == (⟨#[]⟩ : ByteArray).toList) = true then some (decide (a0.H = (⟨0, 0, 0, 0, 0, 0, 0, 0⟩ : Arr8))) else some false) else some false)) else (if (a0.Kind == 4) = true then (if (a0.N == 0) = true then some (a0.S.toList == (⟨#[]⟩ : ByteArray).toList) else some false) else some false))))

/-! ### catchment/catchmentref02.Check -/
def ref02_Check.j2 (kl1 : Int → Option Int) (a0 : api_Table) (x_1571 : Int) (x_1890 : Bool) : Option Int :=
  (if x_1890 = true then some 21 else (kl1 (IntKind.i64.wrap (x_1571 + 1))))

def ref02_Check.l1 (kl0 : Int → Option Int) (a0 : api_Table) (x_669 : Int) : Nat → Int → Option Int
  | 0, _ => none
  | k + 1, x_1571 => (if (decide (x_1571 < (a0.Cols.length : Int))) = true then ((ix a0.Rows x_669).bind fun y_1944 => ((ix y_1944 x_1571).bind fun y_1955 => ((ix a0.Cols x_1571).bind fun y_1964 => (if (y_1955.Kind != y_1964.Kind) = true then (ref02_Check.j2 (ref02_Check.l1 kl0 a0 x_669 k) a0 x_1571 true) else ((ix a0.Rows x_669).bind fun y_1974 => ((ix y_1974 x_1571).bind fun y_1985 => ((ref01_Valid y_1985).bind fun y_1994 => (ref02_Check.j2 (ref02_Check.l1 kl0 a0 x_669 k) a0 x_1571 (!y_1994))))))))) else (kl0 (IntKind.i64.wrap (x_669 + 1))))

def ref02_Check.l0 (a0 : api_Table) : Nat → Int → Option Int
  | 0, _ => none
  | k + 1, x_669 => (if (decide (x_669 < (a0.Rows.length : Int))) = true then ((ix a0.Rows x_669).bind fun y_1346 => (if ((y_1346.length : Int) != (a0.Cols.length : Int)) = true then some 21 else (ref02_Check.l1 (ref02_Check.l0 a0 k) a0 x_669 (((a0.Cols.length : Int) - 0).toNat + 1) 0))) else some 0)

def ref02_Check (a0 : api_Table) : Option Int :=
  ((ref02_Cols a0.Cols).bind fun y_2 => (if (!y_2) = true then some 20 else (ref02_Check.l0 a0 (((a0.Rows.length : Int) - 0).toNat + 1) 0)))

/-! ### catchment/catchmentref01.order -/
def ref01_order (a0 : Int) (a1 : Int) : Option Int :=
  (if (decide (a0 < a1)) = true then some (-1) else (if (decide (a0 > a1)) = true then some 1 else some 0))

/-! ### catchment/catchmentref01.Compare -/
def ref01_Compare.l2 (a0 : api_Value) (a1 : api_Value) : Nat → Int → Option Int
  | 0, _ => none
  | k + 1, x_100 => (if (decide (x_100 < 8)) = true then ((Arr8.ix a0.H x_100).bind fun y_129 => ((Arr8.ix a1.H x_100).bind fun y_131 => (if (y_129 != y_131) = true then ((Arr8.ix a0.H x_100).bind fun y_140 => ((Arr8.ix a1.H x_100).bind fun y_142 => ((ref01_order y_140 y_142).bind fun y_144 => some y_144))) else (ref01_Compare.l2 a0 a1 k (IntKind.i64.wrap (x_100 + 1)))))) else some 0)

def ref01_Compare.j1 (kl0 : Int → Option Int) (a0 : api_Value) (a1 : api_Value) (x_36 : Int) (x_66 : Bool) : Option Int :=
  (if x_66 = true then ((ixs a0.S x_36).bind fun y_74 => ((ixs a1.S x_36).bind fun y_76 => (if (y_74 != y_76) = true then ((ixs a0.S x_36).bind fun y_85 => ((ixs a1.S x_36).bind fun y_87 => ((ref01_order (IntKind.i64.wrap y_85) (IntKind.i64.wrap y_87)).bind fun y_89 => some y_89))) else (kl0 (IntKind.i64.wrap (x_36 + 1)))))) else (if ((a0.S.size : Int) != (a1.S.size : Int)) = true then ((ref01_order (a0.S.size : Int) (a1.S.size : Int)).bind fun y_92 => some y_92) else (ref01_Compare.l2 a0 a1 (((8 : Int) - 0).toNat + 1) 0)))

def ref01_Compare.l0 (a0 : api_Value) (a1 : api_Value) : Nat → Int → Option Int
  | 0, _ => none
  | k + 1, x_36 => (if (decide (x_36 < (a0.S.size : Int))) = true then (ref01_Compare.j1 (ref01_Compare.l0 a0 a1 k) a0 a1 x_36 (decide (x_36 < (a1.S.size : Int)))) else (ref01_Compare.j1 (ref01_Compare.l0 a0 a1 k) a0 a1 x_36 false))

def ref01_Compare (a0 : api_Value) (a1 : api_Value) : Option Int :=
  (if (a0.Kind != a1.Kind) = true then ((ref01_order a0.Kind a1.Kind).bind fun y_4 => some y_4) else (if (a0.N != a1.N) = true then ((ref01_order a0.N a1.N).bind fun y_7 => some y_7) else (ref01_Compare.l0 a0 a1 (((a0.S.size : Int) - 0).toNat + 1) 0)))

/-! ### catchment/catchmentref02.Row -/
def ref02_Row.j1 (kl0 : Int → Option Int) (a0 : List api_Value) (a1 : List api_Value) (x_48 : Int) (x_98 : Bool) : Option Int :=
  (if x_98 = true then ((ix a0 x_48).bind fun y_122 => ((ix a1 x_48).bind fun y_131 => ((ref01_Compare y_122 y_131).bind fun y_140 => (if (y_140 != 0) = true then some y_140 else (kl0 (IntKind.i64.wrap (x_48 + 1))))))) else (if (decide ((a0.length : Int) < (a1.length : Int))) = true then some (-1) else (if (decide ((a0.length : Int) > (a1.length : Int))) = true then some 1 else some 0)))

def ref02_Row.l0 (a0 : List api_Value) (a1 : List api_Value) : Nat → Int → Option Int
  | 0, _ => none
  | k + 1, x_48 => (if (decide (x_48 < (a0.length : Int))) = true then (ref02_Row.j1 (ref02_Row.l0 a0 a1 k) a0 a1 x_48 (decide (x_48 < (a1.length : Int)))) else (ref02_Row.j1 (ref02_Row.l0 a0 a1 k) a0 a1 x_48 false))

def ref02_Row (a0 : List api_Value) (a1 : List api_Value) : Option Int :=
  (ref02_Row.l0 a0 a1 (((a0.length : Int) - 0).toNat + 1) 0)

/-! ### catchment/catchmentref02.sorted -/
def ref02_sorted.j3 (kl0 : (List (List api_Value)) → Int → Int → Option (List (List api_Value))) (y_16 : List (List api_Value)) (y_29 : List (List api_Value)) (x_557 : List (List api_Value)) (x_561 : Int) (x_562 : Int) : Option (List (List api_Value)) :=
  (kl0 x_557 x_561 x_562)

def ref02_sorted.j2 (kl0 : (List (List api_Value)) → Int → Int → Option (List (List api_Value))) (y_16 : List (List api_Value)) (y_29 : List (List api_Value)) (x_228 : List (List api_Value)) (x_232 : Int) (x_233 : Int) (x_471 : Bool) : Option (List (List api_Value)) :=
  (if x_471 = true then ((ix y_16 x_232).bind fun y_565 => ((apd 24 x_228 [y_565]).bind fun y_576 => (ref02_sorted.j3 kl0 y_16 y_29 y_576 (IntKind.i64.wrap (x_232 + 1)) x_233))) else ((ix y_29 x_233).bind fun y_582 => ((apd 24 x_228 [y_582]).bind fun y_593 => (ref02_sorted.j3 kl0 y_16 y_29 y_593 x_232 (IntKind.i64.wrap (x_233 + 1))))))

def ref02_sorted.j1 (kl0 : (List (List api_Value)) → Int → Int → Option (List (List api_Value))) (y_16 : List (List api_Value)) (y_29 : List (List api_Value)) (x_228 : List (List api_Value)) (x_232 : Int) (x_233 : Int) (x_419 : Bool) : Option (List (List api_Value)) :=
  (if x_419 = true then (if (x_233 == (y_29.length : Int)) = true then (ref02_sorted.j2 kl0 y_16 y_29 x_228 x_232 x_233 true) else (if (decide (x_232 < (y_16.length : Int))) = true then ((ix y_16 x_232).bind fun y_499 => ((ix y_29 x_233).bind fun y_509 => ((ref02_Row y_499 y_509).bind fun y_519 => (ref02_sorted.j2 kl0 y_16 y_29 x_228 x_232 x_233 (decide (y_519 ≤ 0)))))) else (ref02_sorted.j2 kl0 y_16 y_29 x_228 x_232 x_233 false))) else some x_228)

def ref02_sorted.l0 (y_16 : List (List api_Value)) (y_29 : List (List api_Value)) : Nat → (List (List api_Value)) → Int → Int → Option (List (List api_Value))
  | 0, _, _, _ => none
  | k + 1, x_228, x_232, x_233 => (if (decide (x_232 < (y_16.length : Int))) = true then (ref02_sorted.j1 (ref02_sorted.l0 y_16 y_29 k) y_16 y_29 x_228 x_232 x_233 true) else (ref02_sorted.j1 (ref02_sorted.l0 y_16 y_29 k) y_16 y_29 x_228 x_232 x_233 (decide (x_233 < (y_29.length : Int)))))

def ref02_sorted.b (kr_44 : (List (List api_Value)) → Option (List (List api_Value))) (a0 : List (List api_Value)) : Option (List (List api_Value)) :=
  (if (decide ((a0.length : Int) < 2)) = true then ((apd 24 ([] : List (List api_Value)) a0).bind fun y_5 => some y_5) else ((cut a0 0 (IntKind.i64.wrap ((a0.length : Int).tdiv 2))).bind fun y_11 => ((kr_44 y_11).bind fun y_16 => ((cut a0 (IntKind.i64.wrap ((a0.length : Int).tdiv 2)) a0.length).bind fun y_24 => ((kr_44 y_24).bind fun y_29 => (ref02_sorted.l0 y_16 y_29 (y_16.length + y_29.length + 1) [] 0 0))))))

def ref02_sorted.r : Nat → (List (List api_Value)) → Option (List (List api_Value))
  | 0, _ => none
  | k + 1, a0 => ref02_sorted.b (ref02_sorted.r k) a0

def ref02_sorted (a0 : List (List api_Value)) : Option (List (List api_Value)) := ref02_sorted.r (a0.length + 1) a0

/-! ### catchment/catchmentref02.Canon -/
def ref02_Canon (a0 : api_Table) : Option api_Table :=
  ((apd 24 ([] : List api_Col) a0.Cols).bind fun y_25 => ((ref02_sorted a0.Rows).bind fun y_31 => some (⟨y_25, y_31⟩ : api_Table)))

/-! ### catchment/catchmentref02.Keep -/
def ref02_Keep.j1 (kl0 : (List api_Col) → Int → Option (api_Table × Int)) (a0 : api_Table) (a1 : List ByteArray) (x_127 : List api_Col) (x_131 : Int) (y_266 : Int) (x_292 : Bool) : Option (api_Table × Int) :=
  (if x_292 = true then some ((⟨([] : List api_Col), ([] : List (List api_Value))⟩ : api_Table), 20) else ((ix a0.Cols y_266).bind fun y_339 => ((apd 24 x_127 [y_339]).bind fun y_349 => (kl0 y_349 (IntKind.i64.wrap (x_131 + 1))))))

def ref02_Keep.l3 (kl2 : (List (List api_Value)) → Int → Option (api_Table × Int)) (a0 : api_Table) (a1 : List ByteArray) (x_623 : List (List api_Value)) (x_627 : Int) : Nat → (List api_Value) → Int → Option (api_Table × Int)
  | 0, _, _ => none
  | k + 1, x_973, x_977 => (if (decide (x_977 < (a1.length : Int))) = true then ((ix a0.Rows x_627).bind fun y_1097 => ((ix a1 x_977).bind fun y_1108 => ((ref02_Find a0.Cols y_1108).bind fun y_1117 => ((ix y_1097 y_1117).bind fun y_1119 => ((apd 96 x_973 [y_1119]).bind fun y_1129 => (ref02_Keep.l3 kl2 a0 a1 x_623 x_627 k y_1129 (IntKind.i64.wrap (x_977 + 1)))))))) else ((apd 24 x_623 [x_973]).bind fun y_1140 => (kl2 y_1140 (IntKind.i64.wrap (x_627 + 1)))))

def ref02_Keep.l2 (a0 : api_Table) (a1 : List ByteArray) (x_127 : List api_Col) : Nat → (List (List api_Value)) → Int → Option (api_Table × Int)
  | 0, _, _ => none
  | k + 1, x_623, x_627 => (if (decide (x_627 < (a0.Rows.length : Int))) = true then (ref02_Keep.l3 (ref02_Keep.l2 a0 a1 x_127 k) a0 a1 x_623 x_627 (((a1.length : Int) - 0).toNat + 1) [] 0) else ((ref02_Canon (⟨x_127, x_623⟩ : api_Table)).bind fun y_1152 => some (y_1152, 0)))

def ref02_Keep.l0 (a0 : api_Table) (a1 : List ByteArray) : Nat → (List api_Col) → Int → Option (api_Table × Int)
  | 0, _, _ => none
  | k + 1, x_127, x_131 => (if (decide (x_131 < (a1.length : Int))) = true then ((ix a1 x_131).bind fun y_257 => ((ref02_Find a0.Cols y_257).bind fun y_266 => (if (decide (y_266 < 0)) = true then (ref02_Keep.j1 (ref02_Keep.l0 a0 a1 k) a0 a1 x_127 x_131 y_266 true) else ((ix a1 x_131).bind fun y_307 => ((ref02_Find x_127 y_307).bind fun y_316 => (ref02_Keep.j1 (ref02_Keep.l0 a0 a1 k) a0 a1 x_127 x_131 y_266 (decide (y_316 ≥ 0)))))))) else (if ((a1.length : Int) == 0) = true then some ((⟨([] : List api_Col), ([] : List (List api_Value))⟩ : api_Table), 20) else (ref02_Keep.l2 a0 a1 x_127 (((a0.Rows.length : Int) - 0).toNat + 1) [] 0)))

def ref02_Keep (a0 : api_Table) (a1 : List ByteArray) : Option (api_Table × Int) :=
  ((ref02_Check a0).bind fun y_3 => (if (y_3 != 0) = true then some ((⟨([] : List api_Col), ([] : List (List api_Value))⟩ : api_Table), y_3) else (ref02_Keep.l0 a0 a1 (((a1.length : Int) - 0).toNat + 1) [] 0)))

/-! ### catchment/catchmentref02.SameCols -/
def ref02_SameCols.l0 (a0 : List api_Col) (a1 : List api_Col) : Nat → Int → Option Bool
  | 0, _ => none
  | k + 1, x_41 => (if (decide (x_41 < (a0.length : Int))) = true then ((ix a0 x_41).bind fun y_100 => ((ix a1 x_41).bind fun y_109 => (if (!decide (y_100 = y_109)) = true then some false else (ref02_SameCols.l0 a0 a1 k (IntKind.i64.wrap (x_41 + 1)))))) else some true)

def ref02_SameCols (a0 : List api_Col) (a1 : List api_Col) : Option Bool :=
  (if ((a0.length : Int) != (a1.length : Int)) = true then some false else (ref02_SameCols.l0 a0 a1 (((a0.length : Int) - 0).toNat + 1) 0))

/-! ### catchment/catchmentref02.Same -/
def ref02_Same.l1 (a0 : api_Table) (a1 : api_Table) : Nat → Int → Option Bool
  | 0, _ => none
  | k + 1, x_63 => (if (decide (x_63 < (a0.Rows.length : Int))) = true then ((ix a0.Rows x_63).bind fun y_140 => ((ix a1.Rows x_63).bind fun y_151 => ((ref02_Row y_140 y_151).bind fun y_162 => (if (y_162 != 0) = true then some false else (ref02_Same.l1 a0 a1 k (IntKind.i64.wrap (x_63 + 1))))))) else some true)

def ref02_Same.j0 (a0 : api_Table) (a1 : api_Table) (x_6 : Bool) : Option Bool :=
  (if x_6 = true then some false else (ref02_Same.l1 a0 a1 (((a0.Rows.length : Int) - 0).toNat + 1) 0))

def ref02_Same (a0 : api_Table) (a1 : api_Table) : Option Bool :=
  ((ref02_SameCols a0.Cols a1.Cols).bind fun y_8 => (if (!y_8) = true then (ref02_Same.j0 a0 a1 true) else (ref02_Same.j0 a0 a1 ((a0.Rows.length : Int) != (a1.Rows.length : Int)))))

/-! ### catchment/catchmentlaw17.JoinSides -/
def law17_JoinSides.j1 (x_62 : Bool) : Option Bool :=
  some x_62

def law17_JoinSides.j3 (x_72 : Bool) : Option Bool :=
  some x_72

def law17_JoinSides.l4 (y_3 : Bool) (y_21 : api_Table × Int) (y_34 : api_Table × Int) : Nat → (List ByteArray) → Int → Option Bool
  | 0, _, _ => none
  | k + 1, x_99, x_103 => (if (decide (x_103 < (y_21.1.Cols.length : Int))) = true then ((ix y_21.1.Cols x_103).bind fun y_124 => ((apd 16 x_99 [y_124.Name]).bind fun y_133 => (law17_JoinSides.l4 y_3 y_21 y_34 k y_133 (IntKind.i64.wrap (x_103 + 1))))) else ((ref02_Keep y_34.1 x_99).bind fun y_139 => ((ref02_Same y_21.1 y_139.1).bind fun y_152 => (if y_3 = true then (if (y_139.2 == 0) = true then some y_152 else some false) else some false))))

def law17_JoinSides.j2 (y_3 : Bool) (y_21 : api_Table × Int) (y_34 : api_Table × Int) (x_67 : Bool) : Option Bool :=
  (if x_67 = true then (if y_3 = true then (law17_JoinSides.j3 (y_21.2 == y_34.2)) else (law17_JoinSides.j3 false)) else (law17_JoinSides.l4 y_3 y_21 y_34 (((y_21.1.Cols.length : Int) - 0).toNat + 1) [] 0))

def law17_JoinSides.j0 (y_3 : Bool) (y_21 : api_Table × Int) (y_34 : api_Table × Int) (x_52 : Bool) : Option Bool :=
  (if x_52 = true then (if y_3 = true then (if (y_21.2 != 0) = true then (law17_JoinSides.j1 (y_34.2 != 0)) else (law17_JoinSides.j1 false)) else (law17_JoinSides.j1 false)) else (if (y_21.2 != 0) = true then (law17_JoinSides.j2 y_3 y_21 y_34 true) else (law17_JoinSides.j2 y_3 y_21 y_34 (y_34.2 != 0))))

def law17_JoinSides (a0 : api_Table) (a1 : api_Table) : Option Bool :=
  ((law17_shown).bind fun y_3 => ((law17_cut a0 40).bind fun y_5 => ((law17_cut a1 40).bind fun y_13 => ((join_Join y_5 y_13 1600).bind fun y_21 => ((join_Join y_13 y_5 1600).bind fun y_34 => ((ref02_Check y_5).bind fun y_54 => (if (y_54 != 0) = true then (law17_JoinSides.j0 y_3 y_21 y_34 true) else ((ref02_Check y_13).bind fun y_57 => (law17_JoinSides.j0 y_3 y_21 y_34 (y_57 != 0))))))))))

/-! ### catchment/catchmentref02.Union -/
def ref02_Union.j0 (a0 : api_Table) (a1 : api_Table) (x_9 : Int) : Option (api_Table × Int) :=
  (if (x_9 != 0) = true then some ((⟨([] : List api_Col), ([] : List (List api_Value))⟩ : api_Table), x_9) else ((ref02_SameCols a0.Cols a1.Cols).bind fun y_19 => (if (!y_19) = true then some ((⟨([] : List api_Col), ([] : List (List api_Value))⟩ : api_Table), 20) else ((apd 24 ([] : List (List api_Value)) a0.Rows).bind fun y_60 => ((apd 24 y_60 a1.Rows).bind fun y_66 => ((ref02_Canon (⟨a0.Cols, y_66⟩ : api_Table)).bind fun y_76 => some (y_76, 0)))))))

def ref02_Union (a0 : api_Table) (a1 : api_Table) : Option (api_Table × Int) :=
  ((ref02_Check a0).bind fun y_4 => (if (y_4 == 0) = true then ((ref02_Check a1).bind fun y_12 => (ref02_Union.j0 a0 a1 y_12)) else (ref02_Union.j0 a0 a1 y_4)))

/-! ### catchment/catchmentlaw17.JoinParts -/
def law17_JoinParts.j2 (y_3 : Bool) (y_26 : api_Table × Int) (x_103 : List api_Col) (x_108 : List (List api_Value)) (x_112 : Int) (x_241 : List api_Col) (x_246 : List (List api_Value)) (x_250 : Int) : Option Bool :=
  (if (y_26.2 != 0) = true then some y_3 else ((ref02_Union (⟨x_103, x_108⟩ : api_Table) (⟨x_241, x_246⟩ : api_Table)).bind fun y_328 => ((ref02_Same y_328.1 y_26.1).bind fun y_341 => (if y_3 = true then (if (x_112 == 0) = true then (if (x_250 == 0) = true then (if (y_328.2 == 0) = true then some y_341 else some false) else some false) else some false) else some false))))

def law17_JoinParts.j1 (y_3 : Bool) (y_5 : api_Table) (y_13 : api_Table) (x_22 : Int) (y_26 : api_Table × Int) (x_103 : List api_Col) (x_108 : List (List api_Value)) (x_112 : Int) : Option Bool :=
  ((cut y_5.Rows (x_22.tmod (IntKind.i64.wrap ((y_5.Rows.length : Int) + 1))) y_5.Rows.length).bind fun y_284 => ((join_Join (⟨y_5.Cols, y_284⟩ : api_Table) y_13 1600).bind fun y_289 => (law17_JoinParts.j2 y_3 y_26 x_103 x_108 x_112 y_289.1.Cols y_289.1.Rows y_289.2)))

def law17_JoinParts.j0 (y_3 : Bool) (y_5 : api_Table) (y_13 : api_Table) (x_22 : Int) : Option Bool :=
  (if ((IntKind.i64.wrap ((y_5.Rows.length : Int) + 1)) != 0) = true then ((join_Join y_5 y_13 1600).bind fun y_26 => ((cut y_5.Rows 0 (x_22.tmod (IntKind.i64.wrap ((y_5.Rows.length : Int) + 1)))).bind fun y_146 => ((join_Join (⟨y_5.Cols, y_146⟩ : api_Table) y_13 1600).bind fun y_151 => (law17_JoinParts.j1 y_3 y_5 y_13 x_22 y_26 y_151.1.Cols y_151.1.Rows y_151.2)))) else none)

def law17_JoinParts (a0 : api_Table) (a1 : api_Table) (a2 : Int) : Option Bool :=
  ((law17_shown).bind fun y_3 => ((law17_cut a0 40).bind fun y_5 => ((law17_cut a1 40).bind fun y_13 => (if (decide (a2 < 0)) = true then (law17_JoinParts.j0 y_3 y_5 y_13 (IntKind.i64.wrap (0 - (IntKind.i64.wrap (a2 + 1))))) else (law17_JoinParts.j0 y_3 y_5 y_13 a2)))))

/-! ### catchment/catchmentlaw17.JoinNone -/
def law17_JoinNone.j1 (kl0 : Bool → Int → Option Bool) (y_4 : api_Table) (x_36 : Int) (x_72 : Bool) : Option Bool :=
  (kl0 x_72 (IntKind.i64.wrap (x_36 + 1)))

def law17_JoinNone.j2 (x_113 : Bool) : Option Bool :=
  some x_113

def law17_JoinNone.j5 (kl4 : Int → Int → Option Bool) (y_4 : api_Table) (x_504 : Int) (x_609 : Int) : Option Bool :=
  (kl4 x_609 (IntKind.i64.wrap (x_504 + 1)))

def law17_JoinNone.l4 (kl3 : Int → Int → Option Bool) (y_4 : api_Table) (x_282 : Int) : Nat → Int → Int → Option Bool
  | 0, _, _ => none
  | k + 1, x_503, x_504 => (if (decide (x_504 < (y_4.Rows.length : Int))) = true then ((ix y_4.Rows x_282).bind fun y_584 => ((ix y_4.Rows x_504).bind fun y_595 => ((ref02_Row y_584 y_595).bind fun y_606 => (if (y_606 == 0) = true then (law17_JoinNone.j5 (law17_JoinNone.l4 kl3 y_4 x_282 k) y_4 x_504 (IntKind.i64.wrap (x_503 + 1))) else (law17_JoinNone.j5 (law17_JoinNone.l4 kl3 y_4 x_282 k) y_4 x_504 x_503))))) else (kl3 x_503 (IntKind.i64.wrap (x_282 + 1))))

def law17_JoinNone.l3 (y_2 : Bool) (y_4 : api_Table) (y_84 : api_Table × Int) (y_97 : api_Table × Int) : Nat → Int → Int → Option Bool
  | 0, _, _ => none
  | k + 1, x_281, x_282 => (if (decide (x_282 < (y_4.Rows.length : Int))) = true then (law17_JoinNone.l4 (law17_JoinNone.l3 y_2 y_4 y_84 y_97 k) y_4 x_282 (((y_4.Rows.length : Int) - 0).toNat + 1) x_281 0) else ((ref02_SameCols y_97.1.Cols y_4.Cols).bind fun y_612 => (if y_2 = true then (if (y_84.2 == 0) = true then (if ((y_84.1.Rows.length : Int) == 0) = true then (if (y_97.2 == 0) = true then (if y_612 = true then some ((y_97.1.Rows.length : Int) == x_281) else some false) else some false) else some false) else some false) else some false)))

def law17_JoinNone.l0 (y_2 : Bool) (y_4 : api_Table) : Nat → Bool → Int → Option Bool
  | 0, _, _ => none
  | k + 1, x_35, x_36 => (if (decide (x_36 < (y_4.Cols.length : Int))) = true then (if x_35 = true then (law17_JoinNone.j1 (law17_JoinNone.l0 y_2 y_4 k) y_4 x_36 true) else ((ix y_4.Cols x_36).bind fun y_75 => (law17_JoinNone.j1 (law17_JoinNone.l0 y_2 y_4 k) y_4 x_36 (y_75.Kind == 4)))) else ((join_Join y_4 (⟨y_4.Cols, []⟩ : api_Table) 0).bind fun y_84 => ((join_Join y_4 y_4 1600).bind fun y_97 => (if x_35 = true then (if y_2 = true then (if (y_84.2 == 20) = true then (law17_JoinNone.j2 (y_97.2 == 20)) else (law17_JoinNone.j2 false)) else (law17_JoinNone.j2 false)) else (law17_JoinNone.l3 y_2 y_4 y_84 y_97 (((y_4.Rows.length : Int) - 0).toNat + 1) 0 0)))))

def law17_JoinNone (a0 : api_Table) : Option Bool :=
  ((law17_shown).bind fun y_2 => ((law17_cut a0 40).bind fun y_4 => ((ref02_Check y_4).bind fun y_12 => (if (y_12 != 0) = true then some y_2 else (law17_JoinNone.l0 y_2 y_4 (((y_4.Cols.length : Int) - 0).toNat + 1) false 0)))))

/-! ### catchment/catchmentlaw17.JoinRows -/
def law17_JoinRows.j0 (x_36 : Bool) : Option Bool :=
  some x_36

def law17_JoinRows.j5 (kl4 : Bool → Int → Option Bool) (x_1778 : List api_Table) (x_4094 : Int) (x_5099 : Int) (x_5219 : Bool) : Option Bool :=
  (kl4 x_5219 (IntKind.i64.wrap (x_5099 + 1)))

def law17_JoinRows.l4 (kl2 : Int → Option Bool) (x_1778 : List api_Table) (x_4094 : Int) (x_4792 : List api_Value) : Nat → Bool → Int → Option Bool
  | 0, _, _ => none
  | k + 1, x_5098, x_5099 => ((ix x_1778 x_4094).bind fun y_5180 => (if (decide (x_5099 < (y_5180.Rows.length : Int))) = true then (if x_5098 = true then (law17_JoinRows.j5 (law17_JoinRows.l4 kl2 x_1778 x_4094 x_4792 k) x_1778 x_4094 x_5099 true) else ((ix x_1778 x_4094).bind fun y_5222 => ((ix y_5222.Rows x_5099).bind fun y_5234 => ((ref02_Row x_4792 y_5234).bind fun y_5245 => (law17_JoinRows.j5 (law17_JoinRows.l4 kl2 x_1778 x_4094 x_4792 k) x_1778 x_4094 x_5099 (y_5245 == 0)))))) else (if (!x_5098) = true then some false else (kl2 (IntKind.i64.wrap (x_4094 + 1))))))

def law17_JoinRows.l3 (kl2 : Int → Option Bool) (y_21 : api_Table × Int) (x_1778 : List api_Table) (x_1782 : Int) (x_4094 : Int) : Nat → (List api_Value) → Int → Option Bool
  | 0, _, _ => none
  | k + 1, x_4792, x_4796 => ((ix x_1778 x_4094).bind fun y_4923 => (if (decide (x_4796 < (y_4923.Cols.length : Int))) = true then ((ix y_21.1.Rows x_1782).bind fun y_4985 => ((ix x_1778 x_4094).bind fun y_4995 => ((ix y_4995.Cols x_4796).bind fun y_5007 => ((ref02_Find y_21.1.Cols y_5007.Name).bind fun y_5016 => ((ix y_4985 y_5016).bind fun y_5018 => ((apd 96 x_4792 [y_5018]).bind fun y_5028 => (law17_JoinRows.l3 kl2 y_21 x_1778 x_1782 x_4094 k y_5028 (IntKind.i64.wrap (x_4796 + 1))))))))) else (law17_JoinRows.l4 kl2 x_1778 x_4094 x_4792 ((((((ix x_1778 x_4094).map fun q_ => q_.Rows).getD []).length : Int) - 0).toNat + 1) false 0)))

def law17_JoinRows.l2 (kl1 : (List api_Table) → Int → Option Bool) (y_21 : api_Table × Int) (x_1778 : List api_Table) (x_1782 : Int) : Nat → Int → Option Bool
  | 0, _ => none
  | k + 1, x_4094 => (if (decide (x_4094 < 2)) = true then (law17_JoinRows.l3 (law17_JoinRows.l2 kl1 y_21 x_1778 x_1782 k) y_21 x_1778 x_1782 x_4094 ((((((ix x_1778 x_4094).map fun q_ => q_.Cols).getD []).length : Int) - 0).toNat + 1) [] 0) else (kl1 x_1778 (IntKind.i64.wrap (x_1782 + 1))))

def law17_JoinRows.l1 (y_3 : Bool) (y_21 : api_Table × Int) : Nat → (List api_Table) → Int → Option Bool
  | 0, _, _ => none
  | k + 1, x_1778, x_1782 => (if (decide (x_1782 < (y_21.1.Rows.length : Int))) = true then (law17_JoinRows.l2 (law17_JoinRows.l1 y_3 y_21 k) y_21 x_1778 x_1782 (((2 : Int) - 0).toNat + 1) 0) else some y_3)

def law17_JoinRows (a0 : api_Table) (a1 : api_Table) : Option Bool :=
  ((law17_shown).bind fun y_3 => ((law17_cut a0 40).bind fun y_5 => ((law17_cut a1 40).bind fun y_13 => ((join_Join y_5 y_13 1600).bind fun y_21 => (if (y_21.2 != 0) = true then (if y_3 = true then (law17_JoinRows.j0 ((y_21.1.Rows.length : Int) == 0)) else (law17_JoinRows.j0 false)) else (law17_JoinRows.l1 y_3 y_21 (((y_21.1.Rows.length : Int) - 0).toNat + 1) [y_5, y_13] 0))))))

end
end Go.Proofs.Ytabdokppkcgdlaa.M
