/- The functions that the laws come to, as plain Lean functions over numbers and lists (none: Go would panic, or the bound on rounds is used up). Printed by wip/eng/gen.py. -/
import Derived.Test.YtifijboegibchaaEngL
namespace Go.Proofs.Ytifijboegibchaa.M
open Go Go.Eng Go.Proofs Go.RowKit
set_option linter.unusedVariables false
set_option maxRecDepth 100000
noncomputable section

structure api_Value where
  Kind : Int
  N : Int
  S : ByteArray
  H : Arr8
  deriving DecidableEq
def ty_api_Value : Ty api_Value := Ty.flat 11 (fun x => [.int .i64 x.Kind, .int .i64 x.N, .string x.S, .int .i64 x.H.a0, .int .i64 x.H.a1, .int .i64 x.H.a2, .int .i64 x.H.a3, .int .i64 x.H.a4, .int .i64 x.H.a5, .int .i64 x.H.a6, .int .i64 x.H.a7]) (fun _ => rfl) (fun _ => all_cons rfl (all_cons rfl (all_cons rfl (all_cons rfl (all_cons rfl (all_cons rfl (all_cons rfl (all_cons rfl (all_cons rfl (all_cons rfl (all_cons rfl (all_nil))))))))))))
def ok_api_Value (x : api_Value) : Prop := (fun x => (Lit.int .i64 x).wf = true) x.Kind ∧ (fun x => (Lit.int .i64 x).wf = true) x.N ∧ (fun s => s.size ≤ 140737488351232) x.S ∧ ok_Arr8 x.H

structure api_Col where
  Name : ByteArray
  Kind : Int
  deriving DecidableEq
def ty_api_Col : Ty api_Col := Ty.flat 2 (fun x => [.string x.Name, .int .i64 x.Kind]) (fun _ => rfl) (fun _ => all_cons rfl (all_cons rfl (all_nil)))
def ok_api_Col (x : api_Col) : Prop := (fun s => s.size ≤ 140737488351232) x.Name ∧ (fun x => (Lit.int .i64 x).wf = true) x.Kind

structure api_Table where
  Cols : List api_Col
  Rows : List (List api_Value)
  deriving DecidableEq
def ty_api_Table : Ty api_Table where
  n := 2
  rep := fun R cs x => ∃ v0 v1, cs = [v0, v1] ∧ SlR ty_api_Col R v0 x.Cols ∧ SlR (tySl ty_api_Value) R v1 x.Rows
  mono := fun hR ⟨v0, v1, h, h0, h1⟩ => ⟨v0, v1, h, h0.mono hR, h1.mono hR⟩
  len := fun ⟨v0, v1, h, h0, h1⟩ => by subst h; rfl
  one := fun ⟨v0, v1, h, h0, h1⟩ => by subst h; exact all_cons h0.one (all_cons h1.one (all_nil))
def ok_api_Table (x : api_Table) : Prop := (fun xs => xs.length * 24 ≤ 140737488351232 ∧ ∀ x ∈ xs, ok_api_Col x) x.Cols ∧ (fun xs => xs.length * 24 ≤ 140737488351232 ∧ ∀ x ∈ xs, (fun xs => xs.length * 96 ≤ 140737488351232 ∧ ∀ x ∈ xs, ok_api_Value x) x) x.Rows

structure wire_reader where
  b : List Int
  deriving DecidableEq
def ty_wire_reader : Ty wire_reader where
  n := 1
  rep := fun R cs x => ∃ v0, cs = [v0] ∧ SlR (tyInt .u8) R v0 x.b
  mono := fun hR ⟨v0, h, h0⟩ => ⟨v0, h, h0.mono hR⟩
  len := fun ⟨v0, h, h0⟩ => by subst h; rfl
  one := fun ⟨v0, h, h0⟩ => by subst h; exact all_cons h0.one (all_nil)
def ok_wire_reader (x : wire_reader) : Prop := (fun xs => xs.length * 1 ≤ 140737488351232 ∧ ∀ x ∈ xs, (fun x => (Lit.int .u8 x).wf = true) x) x.b

structure wire_broken where

  deriving DecidableEq
def ty_wire_broken : Ty wire_broken := Ty.flat 0 (fun x => []) (fun _ => rfl) (fun _ => all_nil)
def ok_wire_broken (x : wire_broken) : Prop := True

/-! ### catchment/value.Valid -/
def value_Valid.j0 (x_59 : Int) (x_60 : ByteArray) (x_61 : Arr8) (x_62 : Bool) : Option Bool :=
  (if x_62 = true then some (decide ((⟨0, x_59, x_60, x_61⟩ : api_Value) = (⟨0, 0, (⟨#[]⟩ : ByteArray), (⟨0, 0, 0, 0, 0, 0, 0, 0⟩ : Arr8)⟩ : api_Value))) else some false)

def value_Valid.j1 (x_90 : Int) (x_91 : ByteArray) (x_92 : Arr8) (x_93 : Bool) : Option Bool :=
  (value_Valid.j0 x_90 x_91 x_92 x_93)

def value_Valid.j2 (a0 : api_Value) (x_106 : Int) (x_107 : Arr8) (x_108 : Bool) : Option Bool :=
  (value_Valid.j1 x_106 a0.S x_107 x_108)

def value_Valid.j3 (a0 : api_Value) (x_112 : Bool) : Option Bool :=
  (value_Valid.j2 a0 0 a0.H x_112)

def value_Valid.j4 (a0 : api_Value) (x_116 : Arr8) (x_117 : Bool) : Option Bool :=
  (value_Valid.j2 a0 a0.N x_116 x_117)

def value_Valid (a0 : api_Value) : Option Bool :=
  (if (a0.Kind == 1) = true then (value_Valid.j0 0 a0.S a0.H true) else (if (a0.Kind == 2) = true then (value_Valid.j1 a0.N (⟨#[]⟩ : ByteArray) a0.H (decide ((a0.S.size : Int) ≤ 64))) else (if (a0.Kind == 3) = true then (if (a0.N == 0) = true then (value_Valid.j3 a0 true) else (value_Valid.j3 a0 (a0.N == 1))) else (if (a0.Kind == 4) = true then (value_Valid.j4 a0 (⟨0, 0, 0, 0, 0, 0, 0, 0⟩ : Arr8) true) else (value_Valid.j4 a0 a0.H false)))))

/-! ### slices.Clone[[]byte,byte] -/
def slices_Clone_byte_byte (a0 : List Int) : Option (List Int) :=
  ((apd 1 ([] : List Int) a0).bind fun y_4 => some y_4)

/-! ### catchment/wire.big -/
def wire_big.l0 (a1 : Int) (a2 : Int) : Nat → (List Int) → Int → Option (List Int)
  | 0, _, _ => none
  | k + 1, x_12, x_16 => (if (decide (x_16 ≥ 0)) = true then (if (decide (0 ≤ (IntKind.i64.wrap (8 * x_16)))) = true then ((apd 1 x_12 [IntKind.u8.wrap (a1.fdiv (2 ^ (min (IntKind.i64.wrap (8 * x_16)).toNat 64)))]).bind fun y_30 => (wire_big.l0 a1 a2 k y_30 (IntKind.i64.wrap (x_16 - 1)))) else none) else some x_12)

def wire_big (a0 : List Int) (a1 : Int) (a2 : Int) : Option (List Int) :=
  (wire_big.l0 a1 a2 (((IntKind.i64.wrap (a2 - 1)) - 0).toNat + 2) a0 (IntKind.i64.wrap (a2 - 1)))

/-! ### catchment/wire.put -/
def wire_put.l0 (a1 : api_Value) : Nat → (List Int) → Int → Option (List Int)
  | 0, _, _ => none
  | k + 1, x_56, x_60 => (if (decide (x_60 < 8)) = true then ((Arr8.ix a1.H x_60).bind fun y_75 => ((wire_big x_56 y_75 8).bind fun y_77 => (wire_put.l0 a1 k y_77 (IntKind.i64.wrap (x_60 + 1))))) else some x_56)

def wire_put (a0 : List Int) (a1 : api_Value) : Option (List Int) :=
  (if (a1.Kind == 1) = true then ((wire_big a0 a1.N 8).bind fun y_3 => some y_3) else (if (a1.Kind == 2) = true then ((apd 1 a0 [IntKind.u8.wrap (a1.S.size : Int)]).bind fun y_26 => ((apd 1 y_26 (sbytes a1.S)).bind fun y_32 => some y_32)) else (if (a1.Kind == 3) = true then ((apd 1 a0 [IntKind.u8.wrap a1.N]).bind fun y_40 => some y_40) else (wire_put.l0 a1 (((8 : Int) - 0).toNat + 1) a0 0))))

/-! ### catchment/wire.Put -/
def wire_Put (a0 : List Int) (a1 : api_Value) : Option ((List Int) × Int) :=
  ((value_Valid a1).bind fun y_2 => (if (!y_2) = true then some (([] : List Int), 10) else ((slices_Clone_byte_byte a0).bind fun y_23 => ((wire_put y_23 a1).bind fun y_31 => some (y_31, 0)))))

/-! ### (*catchment/wire.reader).take -/
def wire_reader_take (a0 : wire_reader) (a1 : Int) : Option (Option ((List Int) × wire_reader)) :=
  (if (decide (a1 > (a0.b.length : Int))) = true then some none else ((cut a0.b 0 a1).bind fun y_2 => ((cut a0.b a1 a0.b.length).bind fun y_7 => some (some (y_2, (⟨y_7⟩ : wire_reader))))))

/-! ### catchment/wire.small -/
def wire_small.l0 (a0 : List Int) : Nat → Int → Int → Option Int
  | 0, _, _ => none
  | k + 1, x_12, x_13 => (if (decide (x_13 < (a0.length : Int))) = true then ((ix a0 x_13).bind fun y_26 => (wire_small.l0 a0 k (IntKind.i64.wrap (BitVec.ofInt 64 (IntKind.i64.wrap (x_12 * 2 ^ (min (8 : Int).toNat 64))) ||| BitVec.ofInt 64 (IntKind.i64.wrap y_26)).toNat) (IntKind.i64.wrap (x_13 + 1)))) else some x_12)

def wire_small (a0 : List Int) : Option Int :=
  (wire_small.l0 a0 (((a0.length : Int) - 0).toNat + 1) 0 0)

/-! ### (*catchment/wire.reader).number -/
def wire_reader_number (a0 : wire_reader) (a1 : Int) : Option (Option (Int × wire_reader)) :=
  (tb (wire_reader_take a0 a1) fun y_1 => ((wire_small y_1.1).bind fun y_12 => some (some (y_12, y_1.2))))

/-! ### (*catchment/wire.reader).value -/
def wire_reader_value.j0 (a1 : Int) (x_511 : List Int) (x_512 : Int) (x_513 : ByteArray) (x_514 : Arr8) : Option (Option (api_Value × wire_reader)) :=
  ((value_Valid (⟨a1, x_512, x_513, x_514⟩ : api_Value)).bind fun y_1023 => (if (!y_1023) = true then some none else some (some ((⟨a1, x_512, x_513, x_514⟩ : api_Value), (⟨x_511⟩ : wire_reader)))))

def wire_reader_value.j1 (a1 : Int) (x_773 : List Int) (x_774 : Int) (x_775 : ByteArray) (x_776 : Arr8) : Option (Option (api_Value × wire_reader)) :=
  (wire_reader_value.j0 a1 x_773 x_774 x_775 x_776)

def wire_reader_value.j2 (a1 : Int) (x_910 : List Int) (x_911 : Int) (x_912 : Arr8) : Option (Option (api_Value × wire_reader)) :=
  (wire_reader_value.j1 a1 x_910 x_911 (⟨#[]⟩ : ByteArray) x_912)

def wire_reader_value.j3 (a1 : Int) (x_973 : List Int) (x_974 : Arr8) : Option (Option (api_Value × wire_reader)) :=
  (wire_reader_value.j2 a1 x_973 0 x_974)

def wire_reader_value.l4 (a1 : Int) : Nat → (List Int) → Arr8 → Int → Option (Option (api_Value × wire_reader))
  | 0, _, _, _ => none
  | k + 1, x_990, x_991, x_992 => (if (decide (x_992 < 8)) = true then (tb (wire_reader_number (⟨x_990⟩ : wire_reader) 8) fun y_1010 => ((Arr8.ix x_991 x_992).bind fun y_1019 => ((Arr8.put x_991 x_992 y_1010.1).bind fun y_1021 => (wire_reader_value.l4 a1 k y_1010.2.b y_1021 (IntKind.i64.wrap (x_992 + 1)))))) else (wire_reader_value.j3 a1 x_990 x_991))

def wire_reader_value (a0 : wire_reader) (a1 : Int) : Option (Option (api_Value × wire_reader)) :=
  (if (a1 == 1) = true then (tb (wire_reader_number a0 8) fun y_518 => (wire_reader_value.j0 a1 y_518.2.b y_518.1 (⟨#[]⟩ : ByteArray) (⟨0, 0, 0, 0, 0, 0, 0, 0⟩ : Arr8))) else (if (a1 == 2) = true then (tb (wire_reader_number a0 1) fun y_780 => (tb (wire_reader_take y_780.2 y_780.1) fun y_789 => (wire_reader_value.j1 a1 y_789.2.b 0 (bstr y_789.1) (⟨0, 0, 0, 0, 0, 0, 0, 0⟩ : Arr8)))) else (if (a1 == 3) = true then (tb (wire_reader_number a0 1) fun y_916 => (wire_reader_value.j2 a1 y_916.2.b y_916.1 (⟨0, 0, 0, 0, 0, 0, 0, 0⟩ : Arr8))) else (if (a1 == 4) = true then (wire_reader_value.l4 a1 (((8 : Int) - 0).toNat + 1) a0.b (⟨0, 0, 0, 0, 0, 0, 0, 0⟩ : Arr8) 0) else (wire_reader_value.j3 a1 a0.b (⟨0, 0, 0, 0, 0, 0, 0, 0⟩ : Arr8))))))

/-! ### catchment/wire.Take -/
def wire_Take.j0 (a0 : List Int) (a1 : Int) (x_4 : Bool) : Option (api_Value × (List Int) × Int) :=
  (if x_4 = true then some ((⟨0, 0, (⟨#[]⟩ : ByteArray), (⟨0, 0, 0, 0, 0, 0, 0, 0⟩ : Arr8)⟩ : api_Value), ([] : List Int), 10) else (tc (wire_reader_value (⟨a0⟩ : wire_reader) a1) (some ((⟨0, 0, (⟨#[]⟩ : ByteArray), (⟨0, 0, 0, 0, 0, 0, 0, 0⟩ : Arr8)⟩ : api_Value), ([] : List Int), 40)) fun y_11 => ((slices_Clone_byte_byte y_11.2.b).bind fun y_31 => some (y_11.1, y_31, 0))))

def wire_Take (a0 : List Int) (a1 : Int) : Option (api_Value × (List Int) × Int) :=
  (if (decide (a1 < 1)) = true then (wire_Take.j0 a0 a1 true) else (wire_Take.j0 a0 a1 (decide (a1 > 4))))

/-! ### catchment/table.Name -/
def table_Name.j2 (kl0 : Int → Option Bool) (a0 : ByteArray) (x_11 : Int) : Option Bool :=
  (kl0 (IntKind.i64.wrap (x_11 + 1)))

def table_Name.j3 (kl0 : Int → Option Bool) (a0 : ByteArray) (x_11 : Int) (x_77 : Bool) : Option Bool :=
  (if x_77 = true then (table_Name.j2 kl0 a0 x_11) else some false)

def table_Name.j1 (kl0 : Int → Option Bool) (a0 : ByteArray) (x_11 : Int) (y_50 : Int) (x_53 : Bool) : Option Bool :=
  (if x_53 = true then (table_Name.j2 kl0 a0 x_11) else (if (decide (x_11 > 0)) = true then (if (decide (y_50 ≥ 48)) = true then (if (decide (y_50 ≤ 57)) = true then (table_Name.j3 kl0 a0 x_11 true) else (if (y_50 == 95) = true then (table_Name.j3 kl0 a0 x_11 true) else (table_Name.j3 kl0 a0 x_11 (y_50 == 35)))) else (if (y_50 == 95) = true then (table_Name.j3 kl0 a0 x_11 true) else (table_Name.j3 kl0 a0 x_11 (y_50 == 35)))) else (table_Name.j3 kl0 a0 x_11 false)))

def table_Name.l0 (a0 : ByteArray) : Nat → Int → Option Bool
  | 0, _ => none
  | k + 1, x_11 => (if (decide (x_11 < (a0.size : Int))) = true then ((ixs a0 x_11).bind fun y_50 => (if (decide (y_50 ≥ 97)) = true then (table_Name.j1 (table_Name.l0 a0 k) a0 x_11 y_50 (decide (y_50 ≤ 122))) else (table_Name.j1 (table_Name.l0 a0 k) a0 x_11 y_50 false))) else (if (decide ((a0.size : Int) ≥ 1)) = true then some (decide ((a0.size : Int) ≤ 24)) else some false))

def table_Name (a0 : ByteArray) : Option Bool :=
  (table_Name.l0 a0 (((a0.size : Int) - 0).toNat + 1) 0)

/-! ### catchment/table.Find$1 -/
def table_Find_1_cp (a0 : api_Col) (a1 : ByteArray) : Option Bool :=
  some (a0.Name.toList == a1.toList)

/-! ### slices.IndexFunc[[]catchment/api.Col,catchment/api.Col] -/
def slices_IndexFunc_api_Col_api_Col_f_table_Find_1p.l0 (a0 : List api_Col) (a1_0 : ByteArray) : Nat → Int → Option Int
  | 0, _ => none
  | k + 1, x_15 => (if (decide (x_15 < (a0.length : Int))) = true then ((ix a0 x_15).bind fun y_31 => ((table_Find_1_cp y_31 a1_0).bind fun y_40 => (if y_40 = true then some x_15 else (slices_IndexFunc_api_Col_api_Col_f_table_Find_1p.l0 a0 a1_0 k (IntKind.i64.wrap (x_15 + 1)))))) else some (-1))

def slices_IndexFunc_api_Col_api_Col_f_table_Find_1p (a0 : List api_Col) (a1_0 : ByteArray) : Option Int :=
  (slices_IndexFunc_api_Col_api_Col_f_table_Find_1p.l0 a0 a1_0 (((a0.length : Int) - 0).toNat + 1) 0)

/-! ### catchment/table.Find -/
def table_Find (a0 : List api_Col) (a1 : ByteArray) : Option Int :=
  ((slices_IndexFunc_api_Col_api_Col_f_table_Find_1p a0 a1).bind fun y_2 => some y_2)

/-! ### catchment/table.columns -/
def table_columns.j1 (kl0 : Int → Option Bool) (a0 : List api_Col) (x_30 : Int) (x_78 : Bool) : Option Bool :=
  (if x_78 = true then some false else (kl0 (IntKind.i64.wrap (x_30 + 1))))

def table_columns.l0 (a0 : List api_Col) : Nat → Int → Option Bool
  | 0, _ => none
  | k + 1, x_30 => (if (decide (x_30 < (a0.length : Int))) = true then ((ix a0 x_30).bind fun y_61 => ((table_Name y_61.Name).bind fun y_80 => (if (!y_80) = true then (table_columns.j1 (table_columns.l0 a0 k) a0 x_30 true) else (if (decide (y_61.Kind < 1)) = true then (table_columns.j1 (table_columns.l0 a0 k) a0 x_30 true) else (if (decide (y_61.Kind > 4)) = true then (table_columns.j1 (table_columns.l0 a0 k) a0 x_30 true) else ((table_Find a0 y_61.Name).bind fun y_85 => (table_columns.j1 (table_columns.l0 a0 k) a0 x_30 (y_85 != x_30)))))))) else (if (decide ((a0.length : Int) ≥ 1)) = true then some (decide ((a0.length : Int) ≤ 16)) else some false))

def table_columns (a0 : List api_Col) : Option Bool :=
  (table_columns.l0 a0 (((a0.length : Int) - 0).toNat + 1) 0)

/-! ### catchment/table.Check -/
def table_Check.j2 (kl1 : Int → Option Int) (y_413 : List api_Value) (x_488 : Int) (x_587 : Bool) : Option Int :=
  (if x_587 = true then some 21 else (kl1 (IntKind.i64.wrap (x_488 + 1))))

def table_Check.l1 (kl0 : Int → Option Int) (a0 : api_Table) (x_208 : Int) (y_413 : List api_Value) : Nat → Int → Option Int
  | 0, _ => none
  | k + 1, x_488 => (if (decide (x_488 < (y_413.length : Int))) = true then ((ix y_413 x_488).bind fun y_553 => ((ix a0.Cols x_488).bind fun y_601 => (if (y_553.Kind != y_601.Kind) = true then (table_Check.j2 (table_Check.l1 kl0 a0 x_208 y_413 k) y_413 x_488 true) else ((value_Valid y_553).bind fun y_611 => (table_Check.j2 (table_Check.l1 kl0 a0 x_208 y_413 k) y_413 x_488 (!y_611)))))) else (kl0 (IntKind.i64.wrap (x_208 + 1))))

def table_Check.l0 (a0 : api_Table) : Nat → Int → Option Int
  | 0, _ => none
  | k + 1, x_208 => (if (decide (x_208 < (a0.Rows.length : Int))) = true then ((ix a0.Rows x_208).bind fun y_413 => (if ((y_413.length : Int) != (a0.Cols.length : Int)) = true then some 21 else (table_Check.l1 (table_Check.l0 a0 k) a0 x_208 y_413 (((y_413.length : Int) - 0).toNat + 1) 0))) else some 0)

def table_Check (a0 : api_Table) : Option Int :=
  ((table_columns a0.Cols).bind fun y_2 => (if (!y_2) = true then some 20 else (table_Check.l0 a0 (((a0.Rows.length : Int) - 0).toNat + 1) 0)))

/-! ### catchment/crc.turned -/
def crc_turned.l0 : Nat → Int → Int → Option Int
  | 0, _, _ => none
  | k + 1, x_2, x_3 => (if (decide (x_3 < 8)) = true then (crc_turned.l0  k (IntKind.u32.wrap (BitVec.ofInt 32 (x_2.fdiv (2 ^ (min (1 : Int).toNat 32))) ^^^ BitVec.ofInt 32 (IntKind.u32.wrap (BitVec.ofInt 32 2197175160 &&& BitVec.ofInt 32 (IntKind.u32.wrap (0 - (IntKind.u32.wrap (BitVec.ofInt 32 x_2 &&& BitVec.ofInt 32 1).toNat)))).toNat)).toNat) (IntKind.i64.wrap (x_3 + 1))) else some x_2)

def crc_turned (a0 : Int) : Option Int :=
  (crc_turned.l0 (((8 : Int) - 0).toNat + 1) a0 0)

/-! ### catchment/crc.More -/
def crc_More.l0 (a1 : List Int) : Nat → Int → Int → Option Int
  | 0, _, _ => none
  | k + 1, x_14, x_15 => (if (decide (x_15 < (a1.length : Int))) = true then ((ix a1 x_15).bind fun y_30 => ((crc_turned (IntKind.u32.wrap (BitVec.ofInt 32 x_14 ^^^ BitVec.ofInt 32 (IntKind.u32.wrap y_30)).toNat)).bind fun y_39 => (crc_More.l0 a1 k y_39 (IntKind.i64.wrap (x_15 + 1))))) else some (IntKind.u32.wrap (BitVec.ofInt 32 4294967295 ^^^ BitVec.ofInt 32 x_14).toNat))

def crc_More (a0 : Int) (a1 : List Int) : Option Int :=
  (crc_More.l0 a1 (((a1.length : Int) - 0).toNat + 1) (IntKind.u32.wrap (BitVec.ofInt 32 4294967295 ^^^ BitVec.ofInt 32 a0).toNat) 0)

/-! ### catchment/crc.Sum -/
def crc_Sum (a0 : List Int) : Option Int :=
  ((crc_More 0 a0).bind fun y_1 => some y_1)

/-! ### catchment/wire.Encode -/
def wire_Encode.l2 (kl1 : (List Int) → Int → Option ((List Int) × Int)) (a0 : api_Table) (x_250 : Int) (y_332 : List api_Value) : Nat → (List Int) → Int → Option ((List Int) × Int)
  | 0, _, _ => none
  | k + 1, x_364, x_368 => (if (decide (x_368 < (y_332.length : Int))) = true then ((ix y_332 x_368).bind fun y_391 => ((wire_put x_364 y_391).bind fun y_401 => (wire_Encode.l2 kl1 a0 x_250 y_332 k y_401 (IntKind.i64.wrap (x_368 + 1))))) else (kl1 x_364 (IntKind.i64.wrap (x_250 + 1))))

def wire_Encode.l1 (a0 : api_Table) : Nat → (List Int) → Int → Option ((List Int) × Int)
  | 0, _, _ => none
  | k + 1, x_246, x_250 => (if (decide (x_250 < (a0.Rows.length : Int))) = true then ((ix a0.Rows x_250).bind fun y_332 => (wire_Encode.l2 (wire_Encode.l1 a0 k) a0 x_250 y_332 (((y_332.length : Int) - 0).toNat + 1) x_246 0)) else ((wire_big ([] : List Int) (x_246.length : Int) 4).bind fun y_411 => ((apd 1 y_411 x_246).bind fun y_422 => ((crc_Sum x_246).bind fun y_428 => ((wire_big y_422 (IntKind.i64.wrap y_428) 4).bind fun y_430 => some (y_430, 0))))))

def wire_Encode.l0 (a0 : api_Table) : Nat → (List Int) → Int → Option ((List Int) × Int)
  | 0, _, _ => none
  | k + 1, x_62, x_66 => (if (decide (x_66 < (a0.Cols.length : Int))) = true then ((ix a0.Cols x_66).bind fun y_115 => ((apd 1 x_62 [IntKind.u8.wrap (y_115.Name.size : Int)]).bind fun y_139 => ((apd 1 y_139 (sbytes y_115.Name)).bind fun y_145 => ((apd 1 y_145 [IntKind.u8.wrap y_115.Kind]).bind fun y_152 => (wire_Encode.l0 a0 k y_152 (IntKind.i64.wrap (x_66 + 1))))))) else ((wire_big x_62 (a0.Rows.length : Int) 2).bind fun y_158 => (wire_Encode.l1 a0 (((a0.Rows.length : Int) - 0).toNat + 1) y_158 0)))

def wire_Encode (a0 : api_Table) : Option ((List Int) × Int) :=
  ((table_Check a0).bind fun y_2 => (if (y_2 != 0) = true then some (([] : List Int), y_2) else (if (decide ((a0.Rows.length : Int) > 4096)) = true then some (([] : List Int), 2) else (wire_Encode.l0 a0 (((a0.Cols.length : Int) - 0).toNat + 1) [IntKind.u8.wrap (a0.Cols.length : Int)] 0))))

/-! ### catchment/wire.Decode -/
def wire_Decode.j3 (x_156 : List api_Col) (x_450 : List (List api_Value)) (x_699 : Bool) : Option (api_Table × Int) :=
  (if x_699 = true then some ((⟨([] : List api_Col), ([] : List (List api_Value))⟩ : api_Table), 40) else some ((⟨x_156, x_450⟩ : api_Table), 0))

def wire_Decode.l2 (kl1 : (List (List api_Value)) → (List Int) → Int → Option (api_Table × Int)) (x_156 : List api_Col) (y_313 : Int × wire_reader) (x_450 : List (List api_Value)) (x_457 : Int) : Nat → (List Int) → (List api_Value) → Int → Option (api_Table × Int)
  | 0, _, _, _ => none
  | k + 1, x_616, x_618, x_622 => (if (decide (x_622 < (x_156.length : Int))) = true then ((ix x_156 x_622).bind fun y_658 => (tc (wire_reader_value (⟨x_616⟩ : wire_reader) y_658.Kind) (some ((⟨([] : List api_Col), ([] : List (List api_Value))⟩ : api_Table), 40)) fun y_667 => ((apd 96 x_618 [y_667.1]).bind fun y_681 => (wire_Decode.l2 kl1 x_156 y_313 x_450 x_457 k y_667.2.b y_681 (IntKind.i64.wrap (x_622 + 1)))))) else ((apd 24 x_450 [x_618]).bind fun y_692 => (kl1 y_692 x_616 (IntKind.i64.wrap (x_457 + 1)))))

def wire_Decode.l1 (x_156 : List api_Col) (y_313 : Int × wire_reader) : Nat → (List (List api_Value)) → (List Int) → Int → Option (api_Table × Int)
  | 0, _, _, _ => none
  | k + 1, x_450, x_456, x_457 => (if (decide (x_457 < y_313.1)) = true then (wire_Decode.l2 (wire_Decode.l1 x_156 y_313 k) x_156 y_313 x_450 x_457 (((x_156.length : Int) - 0).toNat + 1) x_456 [] 0) else (if (decide ((x_456.length : Int) > 0)) = true then (wire_Decode.j3 x_156 x_450 true) else (wire_Decode.j3 x_156 x_450 (decide ((x_450.length : Int) > 4096)))))

def wire_Decode.l0 (y_68 : Int × wire_reader) : Nat → (List api_Col) → (List Int) → Int → Option (api_Table × Int)
  | 0, _, _, _ => none
  | k + 1, x_156, x_162, x_163 => (if (decide (x_163 < y_68.1)) = true then (tc (wire_reader_number (⟨x_162⟩ : wire_reader) 1) (some ((⟨([] : List api_Col), ([] : List (List api_Value))⟩ : api_Table), 40)) fun y_238 => (tc (wire_reader_take y_238.2 y_238.1) (some ((⟨([] : List api_Col), ([] : List (List api_Value))⟩ : api_Table), 40)) fun y_251 => (tc (wire_reader_number y_251.2 1) (some ((⟨([] : List api_Col), ([] : List (List api_Value))⟩ : api_Table), 40)) fun y_286 => ((apd 24 x_156 [(⟨bstr y_251.1, y_286.1⟩ : api_Col)]).bind fun y_300 => (wire_Decode.l0 y_68 k y_300 y_286.2.b (IntKind.i64.wrap (x_163 + 1))))))) else ((table_Check (⟨x_156, []⟩ : api_Table)).bind fun y_306 => (if (y_306 != 0) = true then some ((⟨([] : List api_Col), ([] : List (List api_Value))⟩ : api_Table), 40) else (tc (wire_reader_number (⟨x_162⟩ : wire_reader) 2) (some ((⟨([] : List api_Col), ([] : List (List api_Value))⟩ : api_Table), 40)) fun y_313 => (wire_Decode.l1 x_156 y_313 ((y_313.1 - 0).toNat + 1) [] y_313.2.b 0)))))

def wire_Decode (a0 : List Int) : Option (api_Table × Int) :=
  (tc (wire_reader_number (⟨a0⟩ : wire_reader) 4) (some ((⟨([] : List api_Col), ([] : List (List api_Value))⟩ : api_Table), 40)) fun y_4 => (tc (wire_reader_take y_4.2 (IntKind.i64.wrap (y_4.1 + 4))) (some ((⟨([] : List api_Col), ([] : List (List api_Value))⟩ : api_Table), 40)) fun y_17 => (if ((IntKind.i64.wrap ((y_17.1.length : Int) + 4)) != (a0.length : Int)) = true then some ((⟨([] : List api_Col), ([] : List (List api_Value))⟩ : api_Table), 40) else ((cut y_17.1 (IntKind.i64.wrap ((y_17.1.length : Int) - 4)) y_17.1.length).bind fun y_44 => ((wire_small y_44).bind fun y_49 => ((cut y_17.1 0 (IntKind.i64.wrap ((y_17.1.length : Int) - 4))).bind fun y_56 => ((crc_Sum y_56).bind fun y_61 => (if (y_49 != (IntKind.i64.wrap y_61)) = true then some ((⟨([] : List api_Col), ([] : List (List api_Value))⟩ : api_Table), 40) else (tc (wire_reader_number (⟨y_56⟩ : wire_reader) 1) (some ((⟨([] : List api_Col), ([] : List (List api_Value))⟩ : api_Table), 40)) fun y_68 => (wire_Decode.l0 y_68 ((y_68.1 - 0).toNat + 1) [] y_68.2.b 0))))))))))

/-! ### catchment/catchmentlaw04.shown -/
def law04_shown : Option Bool :=
  ((wire_Put ([] : List Int) (⟨1, 258, (⟨#[]⟩ : ByteArray), (⟨0, 0, 0, 0, 0, 0, 0, 0⟩ : Arr8)⟩ : api_Value)).bind fun y_1 => ((wire_Take [2, 97, 98, 99] 2).bind fun y_13 => ((wire_Take [2, 97] 2).bind fun y_26 => ((wire_Take [2] 3).bind fun y_39 => ((wire_Encode (⟨[(⟨(⟨#[107]⟩ : ByteArray), 1⟩ : api_Col)], [[(⟨1, (-1), (⟨#[]⟩ : ByteArray), (⟨0, 0, 0, 0, 0, 0, 0, 0⟩ : Arr8)⟩ : api_Value)]]⟩ : api_Table)).bind fun y_54 => ((wire_Decode ([] : List Int)).bind fun y_62 => (if ((bstr y_1.1).toList == (⟨#[0, 0, 0, 0, 0, 0, 1, 2]⟩ : ByteArray).toList) = true then (if (y_1.2 == 0) = true then (if (y_13.1.S.toList == (⟨#[97, 98]⟩ : ByteArray).toList) = true then (if ((bstr y_13.2.1).toList == (⟨#[99]⟩ : ByteArray).toList) = true then (if (y_13.2.2 == 0) = true then (if (y_26.2.2 == 40) = true then (if (y_39.2.2 == 40) = true then (if ((y_54.1.length : Int) == 22) = true then ((cut y_54.1 0 18).bind fun y_86 => (if ((bstr y_86).toList == (⟨#[0, 0, 0, 14, 1, 1, 107, 1, 0, 1, 255, 255, 255, 255, 255, 255, 255, 255]⟩ : ByteArray).toList) = true then (if (y_54.2 == 0) = true then some (y_62.2 == 40) else some false) else some false)) else some false) else some false) else some false) else some false) else some false) else some false) else some false) else some false)))))))

/-! ### catchment/catchmentref01.Valid -/
def ref01_Valid (a0 : api_Value) : Option Bool :=
  (if (a0.Kind == 1) = true then (if (a0.S.toList == (⟨#[]⟩ : ByteArray).toList) = true then some (decide (a0.H = (⟨0, 0, 0, 0, 0, 0, 0, 0⟩ : Arr8))) else some false) else (if (a0.Kind == 2) = true then (if (a0.N == 0) = true then (if (decide (a0.H = (⟨0, 0, 0, 0, 0, 0, 0, 0⟩ : Arr8))) = true then some (decide ((a0.S.size : Int) ≤ 64)) else some false) else some false) else (if (a0.Kind == 3) = true then (if (a0.N == 0) = true then (if (a0.S.toList == (⟨#[]⟩ : ByteArray).toList) = true then some (decide (a0.H = (⟨0, 0, 0, 0, 0, 0, 0, 0⟩ : Arr8))) else some false) else (if (a0.N == 1) = true then (if (a0.S.toList == (⟨#[]⟩ : ByteArray).toList) = true then some (decide (a0.H = (⟨0, 0, 0, 0, 0, 0, 0, 0⟩ : Arr8))) else some false) else some false)) else (if (a0.Kind == 4) = true then (if (a0.N == 0) = true then some (a0.S.toList == (⟨#[]⟩ : ByteArray).toList) else some false) else some false))))

/-! ### catchment/catchmentref04.big -/
def ref04_big.l0 (a1 : Int) (a2 : Int) : Nat → (List Int) → Int → Option (List Int)
  | 0, _, _ => none
  | k + 1, x_12, x_16 => (if (decide (x_16 ≥ 0)) = true then (if (decide (0 ≤ (IntKind.i64.wrap (8 * x_16)))) = true then ((apd 1 x_12 [IntKind.u8.wrap (a1.fdiv (2 ^ (min (IntKind.i64.wrap (8 * x_16)).toNat 64)))]).bind fun y_30 => (ref04_big.l0 a1 a2 k y_30 (IntKind.i64.wrap (x_16 - 1)))) else none) else some x_12)

def ref04_big (a0 : List Int) (a1 : Int) (a2 : Int) : Option (List Int) :=
  (ref04_big.l0 a1 a2 (((IntKind.i64.wrap (a2 - 1)) - 0).toNat + 2) a0 (IntKind.i64.wrap (a2 - 1)))

/-! ### catchment/catchmentref04.Put -/
def ref04_Put.j0 (x_121 : List Int) : Option ((List Int) × Int) :=
  some (x_121, 0)

def ref04_Put.l1 (a1 : api_Value) : Nat → (List Int) → Int → Option ((List Int) × Int)
  | 0, _, _ => none
  | k + 1, x_239, x_243 => (if (decide (x_243 < 8)) = true then ((Arr8.ix a1.H x_243).bind fun y_258 => ((ref04_big x_239 y_258 8).bind fun y_260 => (ref04_Put.l1 a1 k y_260 (IntKind.i64.wrap (x_243 + 1))))) else some (x_239, 0))

def ref04_Put (a0 : List Int) (a1 : api_Value) : Option ((List Int) × Int) :=
  ((ref01_Valid a1).bind fun y_2 => (if (!y_2) = true then some (([] : List Int), 10) else ((apd 1 ([] : List Int) a0).bind fun y_10 => (if (a1.Kind == 1) = true then ((ref04_big y_10 a1.N 8).bind fun y_17 => some (y_17, 0)) else (if (a1.Kind == 2) = true then ((apd 1 y_10 [IntKind.u8.wrap (a1.S.size : Int)]).bind fun y_175 => ((apd 1 y_175 (sbytes a1.S)).bind fun y_184 => (ref04_Put.j0 y_184))) else (if (a1.Kind == 3) = true then ((apd 1 y_10 [IntKind.u8.wrap a1.N]).bind fun y_223 => some (y_223, 0)) else (ref04_Put.l1 a1 (((8 : Int) - 0).toNat + 1) y_10 0)))))))

/-! ### catchment/catchmentref04.small -/
def ref04_small.l0 (a0 : List Int) : Nat → Int → Int → Option Int
  | 0, _, _ => none
  | k + 1, x_12, x_13 => (if (decide (x_13 < (a0.length : Int))) = true then ((ix a0 x_13).bind fun y_26 => (ref04_small.l0 a0 k (IntKind.i64.wrap (BitVec.ofInt 64 (IntKind.i64.wrap (x_12 * 2 ^ (min (8 : Int).toNat 64))) ||| BitVec.ofInt 64 (IntKind.i64.wrap y_26)).toNat) (IntKind.i64.wrap (x_13 + 1)))) else some x_12)

def ref04_small (a0 : List Int) : Option Int :=
  (ref04_small.l0 a0 (((a0.length : Int) - 0).toNat + 1) 0 0)

/-! ### catchment/catchmentref04.Take -/
def ref04_Take.j5 (a0 : List Int) (a1 : Int) (x_40 : Int) (x_435 : Int) (x_436 : ByteArray) (x_437 : Arr8) : Option (api_Value × (List Int) × Int) :=
  ((ref01_Valid (⟨a1, x_435, x_436, x_437⟩ : api_Value)).bind fun y_805 => (if (!y_805) = true then some ((⟨0, 0, (⟨#[]⟩ : ByteArray), (⟨0, 0, 0, 0, 0, 0, 0, 0⟩ : Arr8)⟩ : api_Value), ([] : List Int), 40) else ((cut a0 x_40 a0.length).bind fun y_824 => ((apd 1 ([] : List Int) y_824).bind fun y_832 => some ((⟨a1, x_435, x_436, x_437⟩ : api_Value), y_832, 0)))))

def ref04_Take.j6 (a0 : List Int) (a1 : Int) (x_40 : Int) (x_624 : Int) (x_625 : ByteArray) (x_626 : Arr8) : Option (api_Value × (List Int) × Int) :=
  (ref04_Take.j5 a0 a1 x_40 x_624 x_625 x_626)

def ref04_Take.j7 (a0 : List Int) (a1 : Int) (x_40 : Int) (x_718 : Int) (x_719 : Arr8) : Option (api_Value × (List Int) × Int) :=
  (ref04_Take.j6 a0 a1 x_40 x_718 (⟨#[]⟩ : ByteArray) x_719)

def ref04_Take.j8 (a0 : List Int) (a1 : Int) (x_40 : Int) (x_767 : Arr8) : Option (api_Value × (List Int) × Int) :=
  (ref04_Take.j7 a0 a1 x_40 0 x_767)

def ref04_Take.l9 (a0 : List Int) (a1 : Int) (x_40 : Int) : Nat → Arr8 → Int → Option (api_Value × (List Int) × Int)
  | 0, _, _ => none
  | k + 1, x_778, x_779 => (if (decide (x_779 < 8)) = true then ((cut a0 (IntKind.i64.wrap (8 * x_779)) (IntKind.i64.wrap ((IntKind.i64.wrap (8 * x_779)) + 8))).bind fun y_794 => ((ref04_small y_794).bind fun y_799 => ((Arr8.ix x_778 x_779).bind fun y_801 => ((Arr8.put x_778 x_779 y_799).bind fun y_803 => (ref04_Take.l9 a0 a1 x_40 k y_803 (IntKind.i64.wrap (x_779 + 1))))))) else (ref04_Take.j8 a0 a1 x_40 x_778))

def ref04_Take.j3 (a0 : List Int) (a1 : Int) (x_40 : Int) : Option (api_Value × (List Int) × Int) :=
  (if (decide ((a0.length : Int) < x_40)) = true then some ((⟨0, 0, (⟨#[]⟩ : ByteArray), (⟨0, 0, 0, 0, 0, 0, 0, 0⟩ : Arr8)⟩ : api_Value), ([] : List Int), 40) else (if (a1 == 1) = true then ((cut a0 0 8).bind fun y_440 => ((ref04_small y_440).bind fun y_445 => (ref04_Take.j5 a0 a1 x_40 y_445 (⟨#[]⟩ : ByteArray) (⟨0, 0, 0, 0, 0, 0, 0, 0⟩ : Arr8)))) else (if (a1 == 2) = true then ((cut a0 1 x_40).bind fun y_629 => (ref04_Take.j6 a0 a1 x_40 0 (bstr y_629) (⟨0, 0, 0, 0, 0, 0, 0, 0⟩ : Arr8))) else (if (a1 == 3) = true then ((ix a0 0).bind fun y_722 => (ref04_Take.j7 a0 a1 x_40 (IntKind.i64.wrap y_722) (⟨0, 0, 0, 0, 0, 0, 0, 0⟩ : Arr8))) else (if (a1 == 4) = true then (ref04_Take.l9 a0 a1 x_40 (((8 : Int) - 0).toNat + 1) (⟨0, 0, 0, 0, 0, 0, 0, 0⟩ : Arr8) 0) else (ref04_Take.j8 a0 a1 x_40 (⟨0, 0, 0, 0, 0, 0, 0, 0⟩ : Arr8)))))))

def ref04_Take.j4 (a0 : List Int) (a1 : Int) (x_53 : Int) : Option (api_Value × (List Int) × Int) :=
  (ref04_Take.j3 a0 a1 x_53)

def ref04_Take.j2 (a0 : List Int) (a1 : Int) (x_14 : Int) : Option (api_Value × (List Int) × Int) :=
  (if (a1 == 2) = true then (if (decide ((a0.length : Int) > 0)) = true then ((ix a0 0).bind fun y_56 => (ref04_Take.j4 a0 a1 (IntKind.i64.wrap (1 + (IntKind.i64.wrap y_56))))) else (ref04_Take.j4 a0 a1 1)) else (ref04_Take.j3 a0 a1 x_14))

def ref04_Take.j1 (a0 : List Int) (a1 : Int) (x_10 : Int) : Option (api_Value × (List Int) × Int) :=
  (if (a1 == 4) = true then (ref04_Take.j2 a0 a1 64) else (ref04_Take.j2 a0 a1 x_10))

def ref04_Take.j0 (a0 : List Int) (a1 : Int) (x_3 : Bool) : Option (api_Value × (List Int) × Int) :=
  (if x_3 = true then some ((⟨0, 0, (⟨#[]⟩ : ByteArray), (⟨0, 0, 0, 0, 0, 0, 0, 0⟩ : Arr8)⟩ : api_Value), ([] : List Int), 10) else (if (a1 == 3) = true then (ref04_Take.j1 a0 a1 1) else (ref04_Take.j1 a0 a1 8)))

def ref04_Take (a0 : List Int) (a1 : Int) : Option (api_Value × (List Int) × Int) :=
  (if (decide (a1 < 1)) = true then (ref04_Take.j0 a0 a1 true) else (ref04_Take.j0 a0 a1 (decide (a1 > 4))))

/-! ### catchment/catchmentlaw04.WireValues -/
def law04_WireValues (a0 : List Int) (a1 : api_Value) (a2 : Int) : Option Bool :=
  ((law04_shown).bind fun y_2 => ((apd 1 ([] : List Int) a0).bind fun y_7 => ((wire_Put y_7 a1).bind fun y_13 => ((ref04_Put a0 a1).bind fun y_21 => ((wire_Take y_7 a2).bind fun y_32 => ((ref04_Take a0 a2).bind fun y_41 => (if y_2 = true then (if ((bstr y_13.1).toList == (bstr y_21.1).toList) = true then (if (y_13.2 == y_21.2) = true then (if (decide (y_32.1 = y_41.1)) = true then (if ((bstr y_32.2.1).toList == (bstr y_41.2.1).toList) = true then (if (y_32.2.2 == y_41.2.2) = true then some ((bstr y_7).toList == (bstr a0).toList) else some false) else some false) else some false) else some false) else some false) else some false)))))))

/-! ### catchment/catchmentlaw04.WireBack -/
def law04_WireBack.j0 (a1 : List Int) (a2 : Int) (y_2 : Bool) : Option Bool :=
  ((wire_Take a1 a2).bind fun y_1008 => (if (y_1008.2.2 != 0) = true then some y_2 else ((wire_Put ([] : List Int) y_1008.1).bind fun y_1018 => (if y_2 = true then (if (y_1018.2 == 0) = true then (if (decide ((bstr y_1018.1).size + (bstr y_1008.2.1).size ≤ 9223372036854775807)) = true then some (((bstr y_1018.1) ++ (bstr y_1008.2.1)).toList == (bstr a1).toList) else none) else some false) else some false))))

def law04_WireBack.j2 (a1 : List Int) (a2 : Int) (y_2 : Bool) (x_1003 : Bool) : Option Bool :=
  (if x_1003 = true then some false else (law04_WireBack.j0 a1 a2 y_2))

def law04_WireBack.j1 (a0 : api_Value) (a1 : List Int) (a2 : Int) (y_2 : Bool) (x_751 : Int) (x_752 : Int) (x_753 : ByteArray) (x_754 : Arr8) (x_756 : List Int) (x_760 : Int) : Option Bool :=
  (if (x_760 != 0) = true then (law04_WireBack.j2 a1 a2 y_2 true) else (if (!decide ((⟨x_751, x_752, x_753, x_754⟩ : api_Value) = a0)) = true then (law04_WireBack.j2 a1 a2 y_2 true) else (law04_WireBack.j2 a1 a2 y_2 (!((bstr x_756).toList == (bstr a1).toList)))))

def law04_WireBack (a0 : api_Value) (a1 : List Int) (a2 : Int) : Option Bool :=
  ((law04_shown).bind fun y_2 => ((wire_Put ([] : List Int) a0).bind fun y_4 => (if (y_4.2 == 0) = true then ((apd 1 ([] : List Int) y_4.1).bind fun y_888 => ((apd 1 y_888 a1).bind fun y_894 => ((wire_Take y_894 a0.Kind).bind fun y_903 => (law04_WireBack.j1 a0 a1 a2 y_2 y_903.1.Kind y_903.1.N y_903.1.S y_903.1.H y_903.2.1 y_903.2.2)))) else (law04_WireBack.j0 a1 a2 y_2))))

/-! ### catchment/catchmentlaw04.cut -/
def law04_cut (a0 : api_Table) : Option api_Table :=
  (if (decide ((a0.Rows.length : Int) > 200)) = true then ((cut a0.Rows 0 200).bind fun y_4 => some (⟨a0.Cols, y_4⟩ : api_Table)) else some a0)

/-! ### catchment/catchmentref02.Name -/
def ref02_Name.j2 (kl1 : Int → Option Bool) (a0 : ByteArray) (x_45 : Int) (x_86 : Bool) : Option Bool :=
  (if x_86 = true then some false else (kl1 (IntKind.i64.wrap (x_45 + 1))))

def ref02_Name.l1 (a0 : ByteArray) : Nat → Int → Option Bool
  | 0, _ => none
  | k + 1, x_45 => (if (decide (x_45 < (a0.size : Int))) = true then ((ixs a0 x_45).bind fun y_74 => (if (decide (y_74 ≥ 97)) = true then (if (decide (y_74 ≤ 122)) = true then (ref02_Name.j2 (ref02_Name.l1 a0 k) a0 x_45 false) else (if (decide (y_74 ≥ 48)) = true then (if (decide (y_74 ≤ 57)) = true then (ref02_Name.j2 (ref02_Name.l1 a0 k) a0 x_45 false) else (if (y_74 == 95) = true then (ref02_Name.j2 (ref02_Name.l1 a0 k) a0 x_45 false) else (ref02_Name.j2 (ref02_Name.l1 a0 k) a0 x_45 (!(y_74 == 35))))) else (if (y_74 == 95) = true then (ref02_Name.j2 (ref02_Name.l1 a0 k) a0 x_45 false) else (ref02_Name.j2 (ref02_Name.l1 a0 k) a0 x_45 (!(y_74 == 35)))))) else (if (decide (y_74 ≥ 48)) = true then (if (decide (y_74 ≤ 57)) = true then (ref02_Name.j2 (ref02_Name.l1 a0 k) a0 x_45 false) else (if (y_74 == 95) = true then (ref02_Name.j2 (ref02_Name.l1 a0 k) a0 x_45 false) else (ref02_Name.j2 (ref02_Name.l1 a0 k) a0 x_45 (!(y_74 == 35))))) else (if (y_74 == 95) = true then (ref02_Name.j2 (ref02_Name.l1 a0 k) a0 x_45 false) else (ref02_Name.j2 (ref02_Name.l1 a0 k) a0 x_45 (!(y_74 == 35))))))) else some true)

def ref02_Name.j0 (a0 : ByteArray) (x_8 : Bool) : Option Bool :=
  (if x_8 = true then some false else (ref02_Name.l1 a0 (((a0.size : Int) - 0).toNat + 1) 0))

def ref02_Name (a0 : ByteArray) : Option Bool :=
  (if (decide ((a0.size : Int) < 1)) = true then (ref02_Name.j0 a0 true) else (if (decide ((a0.size : Int) > 24)) = true then (ref02_Name.j0 a0 true) else ((ixs a0 0).bind fun y_12 => (if (decide (y_12 < 97)) = true then (ref02_Name.j0 a0 true) else ((ixs a0 0).bind fun y_15 => (ref02_Name.j0 a0 (decide (y_15 > 122))))))))

/-! ### catchment/catchmentref02.Find -/
def ref02_Find.l0 (a0 : List api_Col) (a1 : ByteArray) : Nat → Int → Option Int
  | 0, _ => none
  | k + 1, x_13 => (if (decide (x_13 < (a0.length : Int))) = true then ((ix a0 x_13).bind fun y_27 => (if (y_27.Name.toList == a1.toList) = true then some x_13 else (ref02_Find.l0 a0 a1 k (IntKind.i64.wrap (x_13 + 1))))) else some (-1))

def ref02_Find (a0 : List api_Col) (a1 : ByteArray) : Option Int :=
  (ref02_Find.l0 a0 a1 (((a0.length : Int) - 0).toNat + 1) 0)

/-! ### catchment/catchmentref02.Cols -/
def ref02_Cols.j2 (kl1 : Int → Option Bool) (a0 : List api_Col) (x_97 : Int) (x_233 : Bool) : Option Bool :=
  (if x_233 = true then some false else (kl1 (IntKind.i64.wrap (x_97 + 1))))

def ref02_Cols.l1 (a0 : List api_Col) : Nat → Int → Option Bool
  | 0, _ => none
  | k + 1, x_97 => (if (decide (x_97 < (a0.length : Int))) = true then ((ix a0 x_97).bind fun y_235 => ((ref02_Name y_235.Name).bind fun y_244 => (if (!y_244) = true then (ref02_Cols.j2 (ref02_Cols.l1 a0 k) a0 x_97 true) else ((ix a0 x_97).bind fun y_247 => ((ref02_Find a0 y_247.Name).bind fun y_256 => (if (y_256 != x_97) = true then (ref02_Cols.j2 (ref02_Cols.l1 a0 k) a0 x_97 true) else ((ix a0 x_97).bind fun y_259 => (if (decide (y_259.Kind < 1)) = true then (ref02_Cols.j2 (ref02_Cols.l1 a0 k) a0 x_97 true) else ((ix a0 x_97).bind fun y_269 => (ref02_Cols.j2 (ref02_Cols.l1 a0 k) a0 x_97 (decide (y_269.Kind > 4)))))))))))) else some true)

def ref02_Cols.j0 (a0 : List api_Col) (x_2 : Bool) : Option Bool :=
  (if x_2 = true then some false else (ref02_Cols.l1 a0 (((a0.length : Int) - 0).toNat + 1) 0))

def ref02_Cols (a0 : List api_Col) : Option Bool :=
  (if (decide ((a0.length : Int) < 1)) = true then (ref02_Cols.j0 a0 true) else (ref02_Cols.j0 a0 (decide ((a0.length : Int) > 16))))

/-! ### catchment/catchmentref02.Check -/
def ref02_Check.j2 (kl1 : Int → Option Int) (a0 : api_Table) (x_1571 : Int) (x_1890 : Bool) : Option Int :=
  (if x_1890 = true then some 21 else (kl1 (IntKind.i64.wrap (x_1571 + 1))))

def ref02_Check.l1 (kl0 : Int → Option Int) (a0 : api_Table) (x_669 : Int) : Nat → Int → Option Int
  | 0, _ => none
  | k + 1, x_1571 => (if (decide (x_1571 < (a0.Cols.length : Int))) = true then ((ix a0.Rows x_669).bind fun y_1944 => ((ix y_1944 x_1571).bind fun y_1955 => ((ix a0.Cols x_1571).bind fun y_1964 => (if (y_1955.Kind != y_1964.Kind) = true then (ref02_Check.j2 (ref02_Check.l1 kl0 a0 x_669 k) a0 x_1571 true) else ((ix a0.Rows x_669).bind fun y_1974 => ((ix y_1974 x_1571).bind fun y_1985 => ((ref01_Valid y_1985).bind fun y_1994 => (ref02_Check.j2 (ref02_Check.l1 kl0 a0 x_669 k) a0 x_1571 (!y_1994))))))))) else (kl0 (IntKind.i64.wrap (x_669 + 1))))

def ref02_Check.l0 (a0 : api_Table) : Nat → Int → Option Int
  | 0, _ => none
  | k + 1, x_669 => (if (decide (x_669 < (a0.Rows.length : Int))) = true then ((ix a0.Rows x_669).bind fun y_1346 => (if ((y_1346.length : Int) != (a0.Cols.length : Int)) = true then some 21 else (ref02_Check.l1 (ref02_Check.l0 a0 k) a0 x_669 (((a0.Cols.length : Int) - 0).toNat + 1) 0))) else some 0)

def ref02_Check (a0 : api_Table) : Option Int :=
  ((ref02_Cols a0.Cols).bind fun y_2 => (if (!y_2) = true then some 20 else (ref02_Check.l0 a0 (((a0.Rows.length : Int) - 0).toNat + 1) 0)))

/-! ### catchment/catchmentref04.body -/
def ref04_body.j1 (kl0 : (List Int) → Int → Option (List Int)) (a0 : api_Table) (x_298 : Int) (x_719 : List Int) : Option (List Int) :=
  ((ix a0.Cols x_298).bind fun y_855 => ((apd 1 x_719 [IntKind.u8.wrap y_855.Kind]).bind fun y_865 => (kl0 y_865 (IntKind.i64.wrap (x_298 + 1)))))

def ref04_body.l3 (kl2 : (List Int) → Int → Option (List Int)) (a0 : api_Table) (x_1053 : Int) : Nat → (List Int) → Int → Option (List Int)
  | 0, _, _ => none
  | k + 1, x_1276, x_1280 => ((ix a0.Rows x_1053).bind fun y_1343 => (if (decide (x_1280 < (y_1343.length : Int))) = true then ((ix a0.Rows x_1053).bind fun y_1355 => ((ix y_1355 x_1280).bind fun y_1366 => ((ref04_Put ([] : List Int) y_1366).bind fun y_1375 => ((apd 1 x_1276 y_1375.1).bind fun y_1386 => (ref04_body.l3 kl2 a0 x_1053 k y_1386 (IntKind.i64.wrap (x_1280 + 1))))))) else (kl2 x_1276 (IntKind.i64.wrap (x_1053 + 1)))))

def ref04_body.l2 (a0 : api_Table) : Nat → (List Int) → Int → Option (List Int)
  | 0, _, _ => none
  | k + 1, x_1049, x_1053 => (if (decide (x_1053 < (a0.Rows.length : Int))) = true then (ref04_body.l3 (ref04_body.l2 a0 k) a0 x_1053 (((((ix a0.Rows x_1053).getD []).length : Int) - 0).toNat + 1) x_1049 0) else some x_1049)

def ref04_body.l0 (a0 : api_Table) : Nat → (List Int) → Int → Option (List Int)
  | 0, _, _ => none
  | k + 1, x_294, x_298 => (if (decide (x_298 < (a0.Cols.length : Int))) = true then ((ix a0.Cols x_298).bind fun y_790 => ((ix a0.Cols x_298).bind fun y_799 => ((apd 1 x_294 [IntKind.u8.wrap (y_790.Name.size : Int)]).bind fun y_809 => ((apd 1 y_809 (sbytes y_799.Name)).bind fun y_818 => (ref04_body.j1 (ref04_body.l0 a0 k) a0 x_298 y_818))))) else ((ref04_big x_294 (a0.Rows.length : Int) 2).bind fun y_871 => (ref04_body.l2 a0 (((a0.Rows.length : Int) - 0).toNat + 1) y_871 0)))

def ref04_body (a0 : api_Table) : Option (List Int) :=
  (ref04_body.l0 a0 (((a0.Cols.length : Int) - 0).toNat + 1) [IntKind.u8.wrap (a0.Cols.length : Int)] 0)

/-! ### catchment/catchmentref03.More -/
def ref03_More.j2 (kl1 : Int → Int → Option Int) (x_77 : Int) (x_86 : Int) : Option Int :=
  (kl1 x_86 (IntKind.i64.wrap (x_77 + 1)))

def ref03_More.l1 (kl0 : Int → Int → Option Int) (a1 : List Int) (x_31 : Int) : Nat → Int → Int → Option Int
  | 0, _, _ => none
  | k + 1, x_76, x_77 => (if (decide (x_77 < 8)) = true then (if ((x_76.tmod 2) == 1) = true then (ref03_More.j2 (ref03_More.l1 kl0 a1 x_31 k) x_77 (IntKind.u32.wrap (BitVec.ofInt 32 (x_76.fdiv (2 ^ (min (1 : Int).toNat 32))) ^^^ BitVec.ofInt 32 2197175160).toNat)) else (ref03_More.j2 (ref03_More.l1 kl0 a1 x_31 k) x_77 (x_76.fdiv (2 ^ (min (1 : Int).toNat 32))))) else (kl0 x_76 (IntKind.i64.wrap (x_31 + 1))))

def ref03_More.l0 (a1 : List Int) : Nat → Int → Int → Option Int
  | 0, _, _ => none
  | k + 1, x_30, x_31 => (if (decide (x_31 < (a1.length : Int))) = true then ((ix a1 x_31).bind fun y_62 => (ref03_More.l1 (ref03_More.l0 a1 k) a1 x_31 (((8 : Int) - 0).toNat + 1) (IntKind.u32.wrap (BitVec.ofInt 32 x_30 ^^^ BitVec.ofInt 32 (IntKind.u32.wrap y_62)).toNat) 0)) else some (IntKind.u32.wrap (BitVec.ofInt 32 4294967295 ^^^ BitVec.ofInt 32 x_30).toNat))

def ref03_More (a0 : Int) (a1 : List Int) : Option Int :=
  (ref03_More.l0 a1 (((a1.length : Int) - 0).toNat + 1) (IntKind.u32.wrap (BitVec.ofInt 32 4294967295 ^^^ BitVec.ofInt 32 a0).toNat) 0)

/-! ### catchment/catchmentref03.Sum -/
def ref03_Sum (a0 : List Int) : Option Int :=
  ((ref03_More 0 a0).bind fun y_1 => some y_1)

/-! ### catchment/catchmentref04.Encode -/
def ref04_Encode (a0 : api_Table) : Option ((List Int) × Int) :=
  ((ref02_Check a0).bind fun y_2 => (if (y_2 != 0) = true then some (([] : List Int), y_2) else (if (decide ((a0.Rows.length : Int) > 4096)) = true then some (([] : List Int), 2) else ((ref04_body a0).bind fun y_10 => ((ref04_big ([] : List Int) (y_10.length : Int) 4).bind fun y_20 => ((apd 1 y_20 y_10).bind fun y_31 => ((ref03_Sum y_10).bind fun y_37 => ((ref04_big y_31 (IntKind.i64.wrap y_37) 4).bind fun y_39 => some (y_39, 0)))))))))

/-! ### catchment/catchmentlaw04.WireWrites -/
def law04_WireWrites (a0 : api_Table) : Option Bool :=
  ((law04_shown).bind fun y_2 => ((law04_cut a0).bind fun y_4 => ((wire_Encode y_4).bind fun y_12 => ((ref04_Encode y_4).bind fun y_20 => (if y_2 = true then (if ((bstr y_12.1).toList == (bstr y_20.1).toList) = true then some (y_12.2 == y_20.2) else some false) else some false)))))

/-! ### catchment/catchmentref04.Decode -/
def ref04_Decode.j2 (kl1 : (List api_Col) → Int → Int → Option (api_Table × Int)) (y_26 : List Int) (x_126 : List api_Col) (x_130 : Int) (x_131 : Int) (x_252 : Bool) : Option (api_Table × Int) :=
  (if x_252 = true then some ((⟨([] : List api_Col), ([] : List (List api_Value))⟩ : api_Table), 40) else ((ix y_26 x_130).bind fun y_269 => ((cut y_26 (IntKind.i64.wrap (x_130 + 1)) (IntKind.i64.wrap ((IntKind.i64.wrap (x_130 + 1)) + (IntKind.i64.wrap y_269)))).bind fun y_299 => ((ix y_26 (IntKind.i64.wrap ((IntKind.i64.wrap (x_130 + 1)) + (IntKind.i64.wrap y_269)))).bind fun y_304 => ((apd 24 x_126 [(⟨bstr y_299, IntKind.i64.wrap y_304⟩ : api_Col)]).bind fun y_314 => (kl1 y_314 (IntKind.i64.wrap ((IntKind.i64.wrap (x_130 + (IntKind.i64.wrap y_269))) + 2)) (IntKind.i64.wrap (x_131 + 1))))))))

def ref04_Decode.j7 (x_126 : List api_Col) (x_822 : List (List api_Value)) (x_1793 : Bool) : Option (api_Table × Int) :=
  (if x_1793 = true then some ((⟨([] : List api_Col), ([] : List (List api_Value))⟩ : api_Table), 40) else some ((⟨x_126, x_822⟩ : api_Table), 0))

def ref04_Decode.j6 (kl5 : Int → (List api_Value) → Int → Option (api_Table × Int)) (y_26 : List Int) (x_126 : List api_Col) (x_1462 : Int) (x_1464 : List api_Value) (x_1468 : Int) (x_1687 : Int) (x_1688 : Int) (x_1689 : ByteArray) (x_1690 : Arr8) (x_1692 : List Int) (x_1696 : Int) : Option (api_Table × Int) :=
  (if (x_1696 != 0) = true then some ((⟨([] : List api_Col), ([] : List (List api_Value))⟩ : api_Table), 40) else ((apd 96 x_1464 [(⟨x_1687, x_1688, x_1689, x_1690⟩ : api_Value)]).bind fun y_1767 => (kl5 (IntKind.i64.wrap ((min (y_26.length : Int) (IntKind.i64.wrap (x_1462 + 66))) - (x_1692.length : Int))) y_1767 (IntKind.i64.wrap (x_1468 + 1)))))

def ref04_Decode.l5 (kl4 : (List (List api_Value)) → Int → Int → Option (api_Table × Int)) (y_26 : List Int) (x_126 : List api_Col) (y_338 : Int) (x_822 : List (List api_Value)) (x_827 : Int) : Nat → Int → (List api_Value) → Int → Option (api_Table × Int)
  | 0, _, _, _ => none
  | k + 1, x_1462, x_1464, x_1468 => (if (decide (x_1468 < (x_126.length : Int))) = true then ((cut y_26 x_1462 (min (y_26.length : Int) (IntKind.i64.wrap (x_1462 + 66)))).bind fun y_1730 => ((ix x_126 x_1468).bind fun y_1735 => ((ref04_Take y_1730 y_1735.Kind).bind fun y_1743 => (ref04_Decode.j6 (ref04_Decode.l5 kl4 y_26 x_126 y_338 x_822 x_827 k) y_26 x_126 x_1462 x_1464 x_1468 y_1743.1.Kind y_1743.1.N y_1743.1.S y_1743.1.H y_1743.2.1 y_1743.2.2)))) else ((apd 24 x_822 [x_1464]).bind fun y_1778 => (kl4 y_1778 x_1462 (IntKind.i64.wrap (x_827 + 1)))))

def ref04_Decode.l4 (a0 : List Int) (y_26 : List Int) (x_126 : List api_Col) (y_338 : Int) : Nat → (List (List api_Value)) → Int → Int → Option (api_Table × Int)
  | 0, _, _, _ => none
  | k + 1, x_822, x_826, x_827 => (if (decide (x_827 < y_338)) = true then (ref04_Decode.l5 (ref04_Decode.l4 a0 y_26 x_126 y_338 k) y_26 x_126 y_338 x_822 x_827 (((x_126.length : Int) - 0).toNat + 1) x_826 [] 0) else ((ref04_Encode (⟨x_126, x_822⟩ : api_Table)).bind fun y_1784 => (if (y_1784.2 != 0) = true then (ref04_Decode.j7 x_126 x_822 true) else (ref04_Decode.j7 x_126 x_822 (!((bstr y_1784.1).toList == (bstr a0).toList))))))

def ref04_Decode.j3 (a0 : List Int) (y_26 : List Int) (x_126 : List api_Col) (x_130 : Int) (x_323 : Bool) : Option (api_Table × Int) :=
  (if x_323 = true then some ((⟨([] : List api_Col), ([] : List (List api_Value))⟩ : api_Table), 40) else ((cut y_26 x_130 (IntKind.i64.wrap (x_130 + 2))).bind fun y_333 => ((ref04_small y_333).bind fun y_338 => (ref04_Decode.l4 a0 y_26 x_126 y_338 ((y_338 - 0).toNat + 1) [] (IntKind.i64.wrap (x_130 + 2)) 0))))

def ref04_Decode.l1 (a0 : List Int) (y_26 : List Int) : Nat → (List api_Col) → Int → Int → Option (api_Table × Int)
  | 0, _, _, _ => none
  | k + 1, x_126, x_130, x_131 => ((ix y_26 0).bind fun y_232 => (if (decide (x_131 < (IntKind.i64.wrap y_232))) = true then (if (decide (x_130 ≥ (y_26.length : Int))) = true then (ref04_Decode.j2 (ref04_Decode.l1 a0 y_26 k) y_26 x_126 x_130 x_131 true) else ((ix y_26 x_130).bind fun y_255 => (ref04_Decode.j2 (ref04_Decode.l1 a0 y_26 k) y_26 x_126 x_130 x_131 (decide ((IntKind.i64.wrap ((IntKind.i64.wrap (x_130 + 1)) + (IntKind.i64.wrap y_255))) ≥ (y_26.length : Int)))))) else (if (decide ((IntKind.i64.wrap (x_130 + 2)) > (y_26.length : Int))) = true then (ref04_Decode.j3 a0 y_26 x_126 x_130 true) else ((ref02_Cols x_126).bind fun y_326 => (ref04_Decode.j3 a0 y_26 x_126 x_130 (!y_326))))))

def ref04_Decode.j0 (a0 : List Int) (x_11 : Bool) : Option (api_Table × Int) :=
  (if x_11 = true then some ((⟨([] : List api_Col), ([] : List (List api_Value))⟩ : api_Table), 40) else ((cut a0 4 (IntKind.i64.wrap ((a0.length : Int) - 4))).bind fun y_26 => (ref04_Decode.l1 a0 y_26 (((IntKind.i64.wrap ((ix y_26 0).getD 0)) - 0).toNat + 1) [] 1 0)))

def ref04_Decode (a0 : List Int) : Option (api_Table × Int) :=
  (if (decide ((a0.length : Int) < 9)) = true then (ref04_Decode.j0 a0 true) else ((cut a0 0 4).bind fun y_14 => ((ref04_small y_14).bind fun y_19 => (ref04_Decode.j0 a0 (y_19 != (IntKind.i64.wrap ((a0.length : Int) - 8)))))))

/-! ### catchment/catchmentref02.SameCols -/
def ref02_SameCols.l0 (a0 : List api_Col) (a1 : List api_Col) : Nat → Int → Option Bool
  | 0, _ => none
  | k + 1, x_41 => (if (decide (x_41 < (a0.length : Int))) = true then ((ix a0 x_41).bind fun y_100 => ((ix a1 x_41).bind fun y_109 => (if (!decide (y_100 = y_109)) = true then some false else (ref02_SameCols.l0 a0 a1 k (IntKind.i64.wrap (x_41 + 1)))))) else some true)

def ref02_SameCols (a0 : List api_Col) (a1 : List api_Col) : Option Bool :=
  (if ((a0.length : Int) != (a1.length : Int)) = true then some false else (ref02_SameCols.l0 a0 a1 (((a0.length : Int) - 0).toNat + 1) 0))

/-! ### catchment/catchmentref01.order -/
def ref01_order (a0 : Int) (a1 : Int) : Option Int :=
  (if (decide (a0 < a1)) = true then some (-1) else (if (decide (a0 > a1)) = true then some 1 else some 0))

/-! ### catchment/catchmentref01.Compare -/
def ref01_Compare.l2 (a0 : api_Value) (a1 : api_Value) : Nat → Int → Option Int
  | 0, _ => none
  | k + 1, x_100 => (if (decide (x_100 < 8)) = true then ((Arr8.ix a0.H x_100).bind fun y_129 => ((Arr8.ix a1.H x_100).bind fun y_131 => (if (y_129 != y_131) = true then ((Arr8.ix a0.H x_100).bind fun y_140 => ((Arr8.ix a1.H x_100).bind fun y_142 => ((ref01_order y_140 y_142).bind fun y_144 => some y_144))) else (ref01_Compare.l2 a0 a1 k (IntKind.i64.wrap (x_100 + 1)))))) else some 0)

def ref01_Compare.j1 (kl0 : Int → Option Int) (a0 : api_Value) (a1 : api_Value) (x_36 : Int) (x_66 : Bool) : Option Int :=
  (if x_66 = true then ((ixs a0.S x_36).bind fun y_74 => ((ixs a1.S x_36).bind fun y_76 => (if (y_74 != y_76) = true then ((ixs a0.S x_36).bind fun y_85 => ((ixs a1.S x_36).bind fun y_87 => ((ref01_order (IntKind.i64.wrap y_85) (IntKind.i64.wrap y_87)).bind fun y_89 => some y_89))) else (kl0 (IntKind.i64.wrap (x_36 + 1)))))) else (if ((a0.S.size : Int) != (a1.S.size : Int)) = true then ((ref01_order (a0.S.size : Int) (a1.S.size : Int)).bind fun y_92 => some y_92) else (ref01_Compare.l2 a0 a1 (((8 : Int) - 0).toNat + 1) 0)))

def ref01_Compare.l0 (a0 : api_Value) (a1 : api_Value) : Nat → Int → Option Int
  | 0, _ => none
  | k + 1, x_36 => (if (decide (x_36 < (a0.S.size : Int))) = true then (ref01_Compare.j1 (ref01_Compare.l0 a0 a1 k) a0 a1 x_36 (decide (x_36 < (a1.S.size : Int)))) else (ref01_Compare.j1 (ref01_Compare.l0 a0 a1 k) a0 a1 x_36 false))

def ref01_Compare (a0 : api_Value) (a1 : api_Value) : Option Int :=
  (if (a0.Kind != a1.Kind) = true then ((ref01_order a0.Kind a1.Kind).bind fun y_4 => some y_4) else (if (a0.N != a1.N) = true then ((ref01_order a0.N a1.N).bind fun y_7 => some y_7) else (ref01_Compare.l0 a0 a1 (((a0.S.size : Int) - 0).toNat + 1) 0)))

/-! ### catchment/catchmentref02.Row -/
def ref02_Row.j1 (kl0 : Int → Option Int) (a0 : List api_Value) (a1 : List api_Value) (x_48 : Int) (x_98 : Bool) : Option Int :=
  (if x_98 = true then ((ix a0 x_48).bind fun y_122 => ((ix a1 x_48).bind fun y_131 => ((ref01_Compare y_122 y_131).bind fun y_140 => (if (y_140 != 0) = true then some y_140 else (kl0 (IntKind.i64.wrap (x_48 + 1))))))) else (if (decide ((a0.length : Int) < (a1.length : Int))) = true then some (-1) else (if (decide ((a0.length : Int) > (a1.length : Int))) = true then some 1 else some 0)))

def ref02_Row.l0 (a0 : List api_Value) (a1 : List api_Value) : Nat → Int → Option Int
  | 0, _ => none
  | k + 1, x_48 => (if (decide (x_48 < (a0.length : Int))) = true then (ref02_Row.j1 (ref02_Row.l0 a0 a1 k) a0 a1 x_48 (decide (x_48 < (a1.length : Int)))) else (ref02_Row.j1 (ref02_Row.l0 a0 a1 k) a0 a1 x_48 false))

def ref02_Row (a0 : List api_Value) (a1 : List api_Value) : Option Int :=
  (ref02_Row.l0 a0 a1 (((a0.length : Int) - 0).toNat + 1) 0)

/-! ### catchment/catchmentref02.Same -/
def ref02_Same.l1 (a0 : api_Table) (a1 : api_Table) : Nat → Int → Option Bool
  | 0, _ => none
  | k + 1, x_63 => (if (decide (x_63 < (a0.Rows.length : Int))) = true then ((ix a0.Rows x_63).bind fun y_140 => ((ix a1.Rows x_63).bind fun y_151 => ((ref02_Row y_140 y_151).bind fun y_162 => (if (y_162 != 0) = true then some false else (ref02_Same.l1 a0 a1 k (IntKind.i64.wrap (x_63 + 1))))))) else some true)

def ref02_Same.j0 (a0 : api_Table) (a1 : api_Table) (x_6 : Bool) : Option Bool :=
  (if x_6 = true then some false else (ref02_Same.l1 a0 a1 (((a0.Rows.length : Int) - 0).toNat + 1) 0))

def ref02_Same (a0 : api_Table) (a1 : api_Table) : Option Bool :=
  ((ref02_SameCols a0.Cols a1.Cols).bind fun y_8 => (if (!y_8) = true then (ref02_Same.j0 a0 a1 true) else (ref02_Same.j0 a0 a1 ((a0.Rows.length : Int) != (a1.Rows.length : Int)))))

/-! ### catchment/catchmentlaw04.WireReads -/
def law04_WireReads (a0 : List Int) : Option Bool :=
  ((law04_shown).bind fun y_1 => ((apd 1 ([] : List Int) a0).bind fun y_6 => ((wire_Decode y_6).bind fun y_15 => ((ref04_Decode a0).bind fun y_28 => ((ref02_Same y_15.1 y_28.1).bind fun y_41 => (if y_1 = true then (if y_41 = true then (if (y_15.2 == y_28.2) = true then some ((bstr y_6).toList == (bstr a0).toList) else some false) else some false) else some false))))))

/-! ### catchment/catchmentlaw04.WireTables -/
def law04_WireTables.j0 (a1 : List Int) (y_2 : Bool) : Option Bool :=
  ((wire_Decode a1).bind fun y_70 => (if (y_70.2 != 0) = true then some y_2 else ((wire_Encode y_70.1).bind fun y_84 => (if y_2 = true then (if (y_84.2 == 0) = true then some ((bstr y_84.1).toList == (bstr a1).toList) else some false) else some false))))

def law04_WireTables.j1 (a1 : List Int) (y_2 : Bool) (x_66 : Bool) : Option Bool :=
  (if x_66 = true then some false else (law04_WireTables.j0 a1 y_2))

def law04_WireTables (a0 : api_Table) (a1 : List Int) : Option Bool :=
  ((law04_shown).bind fun y_2 => ((law04_cut a0).bind fun y_4 => ((wire_Encode y_4).bind fun y_12 => (if (y_12.2 == 0) = true then ((wire_Decode y_12.1).bind fun y_50 => ((ref02_Same y_4 y_50.1).bind fun y_63 => (if (y_50.2 != 0) = true then (law04_WireTables.j1 a1 y_2 true) else (law04_WireTables.j1 a1 y_2 (!y_63))))) else (law04_WireTables.j0 a1 y_2)))))

/-! ### catchment/catchmentlaw04.WireTurned -/
def law04_WireTurned.j1 (y_2 : Bool) (y_12 : (List Int) × Int) (x_23 : Int) (x_27 : Int) : Option Bool :=
  ((apd 1 ([] : List Int) y_12.1).bind fun y_36 => (if ((y_36.length : Int) != 0) = true then ((ix y_36 ((IntKind.i64.wrap (x_23.tdiv 8)).tmod (y_36.length : Int))).bind fun y_66 => (if (decide (0 ≤ (x_23.tmod 8))) = true then ((ix y_36 ((IntKind.i64.wrap (x_23.tdiv 8)).tmod (y_36.length : Int))).bind fun y_75 => ((wire_Decode (upd y_36 ((IntKind.i64.wrap (x_23.tdiv 8)).tmod (y_36.length : Int)) (IntKind.u8.wrap (BitVec.ofInt 8 y_66 ^^^ BitVec.ofInt 8 (IntKind.u8.wrap (1 * 2 ^ (min (x_23.tmod 8).toNat 8)))).toNat))).bind fun y_92 => (if ((y_12.1.length : Int) != 0) = true then ((cut y_12.1 0 (x_27.tmod (y_12.1.length : Int))).bind fun y_106 => ((wire_Decode y_106).bind fun y_111 => ((apd 1 ([] : List Int) y_12.1).bind fun y_127 => ((apd 1 y_127 [IntKind.u8.wrap x_27]).bind fun y_134 => ((wire_Decode y_134).bind fun y_143 => (if y_2 = true then (if (y_92.2 == 40) = true then (if (y_111.2 == 40) = true then some (y_143.2 == 40) else some false) else some false) else some false)))))) else none))) else none)) else none))

def law04_WireTurned.j0 (a2 : Int) (y_2 : Bool) (y_12 : (List Int) × Int) (x_23 : Int) : Option Bool :=
  (if (decide (a2 < 0)) = true then (law04_WireTurned.j1 y_2 y_12 x_23 (IntKind.i64.wrap (0 - (IntKind.i64.wrap (a2 + 1))))) else (law04_WireTurned.j1 y_2 y_12 x_23 a2))

def law04_WireTurned (a0 : api_Table) (a1 : Int) (a2 : Int) : Option Bool :=
  ((law04_shown).bind fun y_2 => ((law04_cut a0).bind fun y_4 => ((wire_Encode y_4).bind fun y_12 => (if (y_12.2 != 0) = true then some y_2 else (if ((y_12.1.length : Int) == 0) = true then some false else (if (decide (a1 < 0)) = true then (law04_WireTurned.j0 a2 y_2 y_12 (IntKind.i64.wrap (0 - (IntKind.i64.wrap (a1 + 1))))) else (law04_WireTurned.j0 a2 y_2 y_12 a1)))))))

/-! ### catchment/catchmentlaw04.WireApart -/
def law04_WireApart.j0 (y_3 : Bool) (y_5 : api_Table) (y_13 : api_Table) (y_21 : (List Int) × Int) (y_29 : (List Int) × Int) (x_38 : Bool) : Option Bool :=
  (if x_38 = true then some y_3 else ((ref02_Same y_5 y_13).bind fun y_42 => (if y_3 = true then some (((bstr y_21.1).toList == (bstr y_29.1).toList) == y_42) else some false)))

def law04_WireApart (a0 : api_Table) (a1 : api_Table) : Option Bool :=
  ((law04_shown).bind fun y_3 => ((law04_cut a0).bind fun y_5 => ((law04_cut a1).bind fun y_13 => ((wire_Encode y_5).bind fun y_21 => ((wire_Encode y_13).bind fun y_29 => (if (y_21.2 != 0) = true then (law04_WireApart.j0 y_3 y_5 y_13 y_21 y_29 true) else (law04_WireApart.j0 y_3 y_5 y_13 y_21 y_29 (y_29.2 != 0))))))))

/-! ### catchment/catchmentlaw04.WireSizes -/
def law04_WireSizes.j3 (kl2 : Int → Int → Option Bool) (y_4 : api_Table) (x_589 : Int) (x_1298 : Int) (x_1584 : Int) : Option Bool :=
  (kl2 x_1584 (IntKind.i64.wrap (x_1298 + 1)))

def law04_WireSizes.j4 (kl2 : Int → Int → Option Bool) (y_4 : api_Table) (x_589 : Int) (x_1298 : Int) (x_1620 : Int) : Option Bool :=
  (law04_WireSizes.j3 kl2 y_4 x_589 x_1298 x_1620)

def law04_WireSizes.j5 (kl2 : Int → Int → Option Bool) (y_4 : api_Table) (x_589 : Int) (x_1298 : Int) (x_1648 : Int) : Option Bool :=
  (law04_WireSizes.j4 kl2 y_4 x_589 x_1298 x_1648)

def law04_WireSizes.j6 (kl2 : Int → Int → Option Bool) (y_4 : api_Table) (x_589 : Int) (x_1298 : Int) (x_1652 : Int) : Option Bool :=
  (law04_WireSizes.j5 kl2 y_4 x_589 x_1298 x_1652)

def law04_WireSizes.l2 (kl1 : Int → Int → Option Bool) (y_4 : api_Table) (x_589 : Int) : Nat → Int → Int → Option Bool
  | 0, _, _ => none
  | k + 1, x_1297, x_1298 => ((ix y_4.Rows x_589).bind fun y_1483 => (if (decide (x_1298 < (y_1483.length : Int))) = true then ((ix y_4.Rows x_589).bind fun y_1495 => ((ix y_1495 x_1298).bind fun y_1506 => (if (y_1506.Kind == 1) = true then (law04_WireSizes.j3 (law04_WireSizes.l2 kl1 y_4 x_589 k) y_4 x_589 x_1298 (IntKind.i64.wrap (x_1297 + 8))) else (if (y_1506.Kind == 2) = true then ((ix y_4.Rows x_589).bind fun y_1623 => ((ix y_1623 x_1298).bind fun y_1634 => (law04_WireSizes.j4 (law04_WireSizes.l2 kl1 y_4 x_589 k) y_4 x_589 x_1298 (IntKind.i64.wrap ((IntKind.i64.wrap (x_1297 + 1)) + (y_1634.S.size : Int)))))) else (if (y_1506.Kind == 3) = true then (law04_WireSizes.j5 (law04_WireSizes.l2 kl1 y_4 x_589 k) y_4 x_589 x_1298 (IntKind.i64.wrap (x_1297 + 1))) else (if (y_1506.Kind == 4) = true then (law04_WireSizes.j6 (law04_WireSizes.l2 kl1 y_4 x_589 k) y_4 x_589 x_1298 (IntKind.i64.wrap (x_1297 + 64))) else (law04_WireSizes.j6 (law04_WireSizes.l2 kl1 y_4 x_589 k) y_4 x_589 x_1298 x_1297))))))) else (kl1 x_1297 (IntKind.i64.wrap (x_589 + 1)))))

def law04_WireSizes.l1 (y_2 : Bool) (y_4 : api_Table) (y_12 : (List Int) × Int) : Nat → Int → Int → Option Bool
  | 0, _, _ => none
  | k + 1, x_588, x_589 => (if (decide (x_589 < (y_4.Rows.length : Int))) = true then (law04_WireSizes.l2 (law04_WireSizes.l1 y_2 y_4 y_12 k) y_4 x_589 (((((ix y_4.Rows x_589).getD []).length : Int) - 0).toNat + 1) x_588 0) else (if y_2 = true then some ((y_12.1.length : Int) == x_588) else some false))

def law04_WireSizes.l0 (y_2 : Bool) (y_4 : api_Table) (y_12 : (List Int) × Int) : Nat → Int → Int → Option Bool
  | 0, _, _ => none
  | k + 1, x_32, x_33 => (if (decide (x_33 < (y_4.Cols.length : Int))) = true then ((ix y_4.Cols x_33).bind fun y_46 => (law04_WireSizes.l0 y_2 y_4 y_12 k (IntKind.i64.wrap ((IntKind.i64.wrap (x_32 + 2)) + (y_46.Name.size : Int))) (IntKind.i64.wrap (x_33 + 1)))) else (law04_WireSizes.l1 y_2 y_4 y_12 (((y_4.Rows.length : Int) - 0).toNat + 1) x_32 0))

def law04_WireSizes (a0 : api_Table) : Option Bool :=
  ((law04_shown).bind fun y_2 => ((law04_cut a0).bind fun y_4 => ((wire_Encode y_4).bind fun y_12 => (if (y_12.2 != 0) = true then some y_2 else (law04_WireSizes.l0 y_2 y_4 y_12 (((y_4.Cols.length : Int) - 0).toNat + 1) 11 0)))))

end
end Go.Proofs.Ytifijboegibchaa.M
