/- The functions that the laws come to, as plain Lean functions over numbers and lists (none: Go would panic, or the bound on rounds is used up). Printed by wip/eng/gen.py. -/
import Derived.Test.YtffleadhhhpnlaaDoorEngM
import Derived.Shelf.Strconv.Itoa3
namespace Go.Proofs.YtffleadhhhpnlaaDoor.M
open Go Go.Eng Go.Proofs Go.RowKit
set_option linter.unusedVariables false
set_option maxRecDepth 100000
noncomputable section

structure api_Value where
  Kind : Int
  N : Int
  S : ByteArray
  H : Arr8
  deriving DecidableEq
def ty_api_Value : Ty api_Value := Ty.flat 11 (fun x => [.int .i64 x.Kind, .int .i64 x.N, .string x.S, .int .i64 x.H.a0, .int .i64 x.H.a1, .int .i64 x.H.a2, .int .i64 x.H.a3, .int .i64 x.H.a4, .int .i64 x.H.a5, .int .i64 x.H.a6, .int .i64 x.H.a7]) (fun _ => rfl) (fun _ => all_cons rfl (all_cons rfl (all_cons rfl (all_cons rfl (all_cons rfl (all_cons rfl (all_cons rfl (all_cons rfl (all_cons rfl (all_cons rfl (all_cons rfl (all_nil))))))))))))
def ok_api_Value (x : api_Value) : Prop := (fun x => (Lit.int .i64 x).wf = true) x.Kind ∧ (fun x => (Lit.int .i64 x).wf = true) x.N ∧ (fun s => s.size ≤ 140737488351232) x.S ∧ ok_Arr8 x.H

structure catchmentlaw06_Stream where
  Name : ByteArray
  Keys : List api_Value
  deriving DecidableEq
def ty_catchmentlaw06_Stream : Ty catchmentlaw06_Stream where
  n := 2
  rep := fun R cs x => ∃ v0, cs = [.string x.Name, v0] ∧ SlR ty_api_Value R v0 x.Keys
  mono := fun hR ⟨v0, h, h0⟩ => ⟨v0, h, h0.mono hR⟩
  len := fun ⟨v0, h, h0⟩ => by subst h; rfl
  one := fun ⟨v0, h, h0⟩ => by subst h; exact all_cons rfl (all_cons h0.one (all_nil))
def ok_catchmentlaw06_Stream (x : catchmentlaw06_Stream) : Prop := (fun s => s.size ≤ 140737488351232) x.Name ∧ (fun xs => xs.length * 96 ≤ 140737488351232 ∧ ∀ x ∈ xs, ok_api_Value x) x.Keys

structure streams_stream where
  name : ByteArray
  keys : List api_Value
  deriving DecidableEq
def ty_streams_stream : Ty streams_stream where
  n := 2
  rep := fun R cs x => ∃ v0, cs = [.string x.name, v0] ∧ SlR ty_api_Value R v0 x.keys
  mono := fun hR ⟨v0, h, h0⟩ => ⟨v0, h, h0.mono hR⟩
  len := fun ⟨v0, h, h0⟩ => by subst h; rfl
  one := fun ⟨v0, h, h0⟩ => by subst h; exact all_cons rfl (all_cons h0.one (all_nil))
def ok_streams_stream (x : streams_stream) : Prop := (fun s => s.size ≤ 140737488351232) x.name ∧ (fun xs => xs.length * 96 ≤ 140737488351232 ∧ ∀ x ∈ xs, ok_api_Value x) x.keys

structure streams_Dict where
  most : Int
  l : List streams_stream
  ids : List (ByteArray × Int)
  deriving DecidableEq

structure catchmentref06_Stream where
  Name : ByteArray
  Keys : List api_Value
  deriving DecidableEq
def ty_catchmentref06_Stream : Ty catchmentref06_Stream where
  n := 2
  rep := fun R cs x => ∃ v0, cs = [.string x.Name, v0] ∧ SlR ty_api_Value R v0 x.Keys
  mono := fun hR ⟨v0, h, h0⟩ => ⟨v0, h, h0.mono hR⟩
  len := fun ⟨v0, h, h0⟩ => by subst h; rfl
  one := fun ⟨v0, h, h0⟩ => by subst h; exact all_cons rfl (all_cons h0.one (all_nil))
def ok_catchmentref06_Stream (x : catchmentref06_Stream) : Prop := (fun s => s.size ≤ 140737488351232) x.Name ∧ (fun xs => xs.length * 96 ≤ 140737488351232 ∧ ∀ x ∈ xs, ok_api_Value x) x.Keys

structure catchmentref06_Dict where
  Most : Int
  L : List catchmentref06_Stream
  deriving DecidableEq
def ty_catchmentref06_Dict : Ty catchmentref06_Dict where
  n := 2
  rep := fun R cs x => ∃ v0, cs = [.int .i64 x.Most, v0] ∧ SlR ty_catchmentref06_Stream R v0 x.L
  mono := fun hR ⟨v0, h, h0⟩ => ⟨v0, h, h0.mono hR⟩
  len := fun ⟨v0, h, h0⟩ => by subst h; rfl
  one := fun ⟨v0, h, h0⟩ => by subst h; exact all_cons rfl (all_cons h0.one (all_nil))
def ok_catchmentref06_Dict (x : catchmentref06_Dict) : Prop := (fun x => (Lit.int .i64 x).wf = true) x.Most ∧ (fun xs => xs.length * 40 ≤ 140737488351232 ∧ ∀ x ∈ xs, ok_catchmentref06_Stream x) x.L

/-! ### catchment/streams.New -/
def streams_New (a0 : Int) : Option streams_Dict :=
  some (⟨a0, ([] : List streams_stream), ([] : List (ByteArray × Int))⟩ : streams_Dict)

/-! ### catchment/catchmentlaw06.one -/
def law06_one (a0 : Int) : Option (List api_Value) :=
  some [(⟨1, a0, (⟨#[]⟩ : ByteArray), (⟨0, 0, 0, 0, 0, 0, 0, 0⟩ : Arr8)⟩ : api_Value)]

/-! ### strconv.Itoa -/
def strconv_Itoa (a0 : Int) : Option ByteArray := if -9223372036854775808 ≤ a0 ∧ a0 ≤ 9223372036854775807 then some ⟨(Lib.itoa a0).toArray⟩ else none

/-! ### catchment/value.Valid -/
def value_Valid.j0 (x_59 : Int) (x_60 : ByteArray) (x_61 : Arr8) (x_62 : Bool) : Option Bool :=
  (if x_62 = true then some (decide ((⟨0, x_59, x_60, x_61⟩ : api_Value) = (⟨0, 0, (⟨#[]⟩ : ByteArray), (⟨0, 0, 0, 0, 0, 0, 0, 0⟩ : Arr8)⟩ : api_Value))) else some false)

def value_Valid.j1 (x_90 : Int) (x_91 : ByteArray) (x_92 : Arr8) (x_93 : Bool) : Option Bool :=
  (value_Valid.j0 x_90 x_91 x_92 x_93)

def value_Valid.j2 (a0 : api_Value) (x_106 : Int) (x_107 : Arr8) (x_108 : Bool) : Option Bool :=
  (value_Valid.j1 x_106 a0.S x_107 x_108)

def value_Valid.j3 (a0 : api_Value) (x_112 : Bool) : Option Bool :=
  (value_Valid.j2 a0 0 a0.H x_112)

def value_Valid.j4 (a0 : api_Value) (x_116 : Arr8) (x_117 : Bool) : Option Bool :=
  (value_Valid.j2 a0 a0.N x_116 x_117)

def value_Valid (a0 : api_Value) : Option Bool :=
  (if (a0.Kind == 1) = true then (value_Valid.j0 0 a0.S a0.H true) else (if (a0.Kind == 2) = true then (value_Valid.j1 a0.N (⟨#[]⟩ : ByteArray) a0.H (decide ((a0.S.size : Int) ≤ 64))) else (if (a0.Kind == 3) = true then (if (a0.N == 0) = true then (value_Valid.j3 a0 true) else (value_Valid.j3 a0 (a0.N == 1))) else (if (a0.Kind == 4) = true then (value_Valid.j4 a0 (⟨0, 0, 0, 0, 0, 0, 0, 0⟩ : Arr8) true) else (value_Valid.j4 a0 a0.H false)))))

/-! ### slices.Clone[[]byte,byte] -/
def slices_Clone_byte_byte (a0 : List Int) : Option (List Int) :=
  ((apd 1 ([] : List Int) a0).bind fun y_4 => some y_4)

/-! ### catchment/wire.big -/
def wire_big.l0 (a1 : Int) (a2 : Int) : Nat → (List Int) → Int → Option (List Int)
  | 0, _, _ => none
  | k + 1, x_12, x_16 => (if (decide (x_16 ≥ 0)) = true then (if (decide (0 ≤ (IntKind.i64.wrap (8 * x_16)))) = true then ((apd 1 x_12 [IntKind.u8.wrap (a1.fdiv (2 ^ (min (IntKind.i64.wrap (8 * x_16)).toNat 64)))]).bind fun y_30 => (wire_big.l0 a1 a2 k y_30 (IntKind.i64.wrap (x_16 - 1)))) else none) else some x_12)

def wire_big (a0 : List Int) (a1 : Int) (a2 : Int) : Option (List Int) :=
  (wire_big.l0 a1 a2 (((IntKind.i64.wrap (a2 - 1)) - 0).toNat + 2) a0 (IntKind.i64.wrap (a2 - 1)))

/-! ### catchment/wire.put -/
def wire_put.l0 (a1 : api_Value) : Nat → (List Int) → Int → Option (List Int)
  | 0, _, _ => none
  | k + 1, x_56, x_60 => (if (decide (x_60 < 8)) = true then ((Arr8.ix a1.H x_60).bind fun y_75 => ((wire_big x_56 y_75 8).bind fun y_77 => (wire_put.l0 a1 k y_77 (IntKind.i64.wrap (x_60 + 1))))) else some x_56)

def wire_put (a0 : List Int) (a1 : api_Value) : Option (List Int) :=
  (if (a1.Kind == 1) = true then ((wire_big a0 a1.N 8).bind fun y_3 => some y_3) else (if (a1.Kind == 2) = true then ((apd 1 a0 [IntKind.u8.wrap (a1.S.size : Int)]).bind fun y_26 => ((apd 1 y_26 (sbytes a1.S)).bind fun y_32 => some y_32)) else (if (a1.Kind == 3) = true then ((apd 1 a0 [IntKind.u8.wrap a1.N]).bind fun y_40 => some y_40) else (wire_put.l0 a1 (((8 : Int) - 0).toNat + 1) a0 0))))

/-! ### catchment/wire.Put -/
def wire_Put (a0 : List Int) (a1 : api_Value) : Option ((List Int) × Int) :=
  ((value_Valid a1).bind fun y_2 => (if (!y_2) = true then some (([] : List Int), 10) else ((slices_Clone_byte_byte a0).bind fun y_23 => ((wire_put y_23 a1).bind fun y_31 => some (y_31, 0)))))

/-! ### catchment/streams.mark -/
def streams_mark.l0 (a1 : List api_Value) : Nat → (List Int) → Int → Option (ByteArray × Bool)
  | 0, _, _ => none
  | k + 1, x_48, x_52 => (if (decide (x_52 < (a1.length : Int))) = true then ((ix a1 x_52).bind fun y_92 => ((wire_Put ([] : List Int) y_92).bind fun y_102 => (if (y_102.2 != 0) = true then some ((⟨#[]⟩ : ByteArray), false) else ((apd 1 x_48 [IntKind.u8.wrap y_92.Kind]).bind fun y_112 => ((apd 1 y_112 y_102.1).bind fun y_121 => (streams_mark.l0 a1 k y_121 (IntKind.i64.wrap (x_52 + 1)))))))) else some (bstr x_48, true))

def streams_mark (a0 : ByteArray) (a1 : List api_Value) : Option (ByteArray × Bool) :=
  ((strconv_Itoa (a0.size : Int)).bind fun y_1 => (if (decide (y_1.size + (⟨#[32]⟩ : ByteArray).size ≤ 9223372036854775807)) = true then (if (decide ((y_1 ++ (⟨#[32]⟩ : ByteArray)).size + a0.size ≤ 9223372036854775807)) = true then (if (decide ((sbytes ((y_1 ++ (⟨#[32]⟩ : ByteArray)) ++ a0)).length * 1 ≤ 140737488355328)) = true then (streams_mark.l0 a1 (((a1.length : Int) - 0).toNat + 1) (sbytes ((y_1 ++ (⟨#[32]⟩ : ByteArray)) ++ a0)) 0) else none) else none) else none))

/-! ### (*catchment/streams.Dict).Add -/
def streams_Dict_Add (a0 : streams_Dict) (a1 : ByteArray) (a2 : List api_Value) : Option (Int × Int × streams_Dict) :=
  ((streams_mark a1 a2).bind fun y_1 => (if (!y_1.2) = true then some (0, 10, a0) else (if ((mget a0.ids y_1.1).isSome) = true then some ((mget a0.ids y_1.1).getD 0, 0, a0) else (if (decide ((a0.l.length : Int) ≥ a0.most)) = true then some (0, 80, a0) else ((mkS 96 (a2.length : Int) (⟨0, 0, (⟨#[]⟩ : ByteArray), (⟨0, 0, 0, 0, 0, 0, 0, 0⟩ : Arr8)⟩ : api_Value)).bind fun y_6 => ((apd 40 a0.l [(⟨a1, cpy y_6 a2⟩ : streams_stream)]).bind fun y_20 => some (IntKind.i64.wrap ((y_20.length : Int) - 1), 0, (⟨a0.most, y_20, mset a0.ids y_1.1 (a0.l.length : Int)⟩ : streams_Dict))))))))

/-! ### (*catchment/streams.Dict).Find$1 -/
def streams_Dict_Find_1 (a0 : api_Value) : Option Bool :=
  ((value_Valid a0).bind fun y_2 => some (!y_2))

/-! ### slices.IndexFunc[[]catchment/api.Value,catchment/api.Value] -/
def slices_IndexFunc_api_Value_api_Value_f_streams_Dict_Find_1.l0 (a0 : List api_Value) : Nat → Int → Option Int
  | 0, _ => none
  | k + 1, x_15 => (if (decide (x_15 < (a0.length : Int))) = true then ((ix a0 x_15).bind fun y_31 => ((streams_Dict_Find_1 y_31).bind fun y_40 => (if y_40 = true then some x_15 else (slices_IndexFunc_api_Value_api_Value_f_streams_Dict_Find_1.l0 a0 k (IntKind.i64.wrap (x_15 + 1)))))) else some (-1))

def slices_IndexFunc_api_Value_api_Value_f_streams_Dict_Find_1 (a0 : List api_Value) : Option Int :=
  (slices_IndexFunc_api_Value_api_Value_f_streams_Dict_Find_1.l0 a0 (((a0.length : Int) - 0).toNat + 1) 0)

/-! ### slices.ContainsFunc[[]catchment/api.Value,catchment/api.Value] -/
def slices_ContainsFunc_api_Value_api_Value_f_streams_Dict_Find_1 (a0 : List api_Value) : Option Bool :=
  ((slices_IndexFunc_api_Value_api_Value_f_streams_Dict_Find_1 a0).bind fun y_1 => some (decide (y_1 ≥ 0)))

/-! ### (*catchment/streams.Dict).Find -/
def streams_Dict_Find (a0 : streams_Dict) (a1 : ByteArray) (a2 : List api_Value) : Option (Int × Bool) :=
  ((slices_ContainsFunc_api_Value_api_Value_f_streams_Dict_Find_1 a2).bind fun y_1 => (if y_1 = true then some (0, false) else ((streams_mark a1 a2).bind fun y_4 => some ((mget a0.ids y_4.1).getD 0, (mget a0.ids y_4.1).isSome))))

/-! ### (*catchment/streams.Dict).Of -/
def streams_Dict_Of.j1 (kl0 : (List Int) → Int → Option (List Int)) (a0 : streams_Dict) (x_48 : Int) (x_109 : List Int) : Option (List Int) :=
  (kl0 x_109 (IntKind.i64.wrap (x_48 + 1)))

def streams_Dict_Of.l0 (a0 : streams_Dict) (a1 : ByteArray) : Nat → (List Int) → Int → Option (List Int)
  | 0, _, _ => none
  | k + 1, x_44, x_48 => (if (decide (x_48 < (a0.l.length : Int))) = true then ((ix a0.l x_48).bind fun y_88 => (if (y_88.name.toList == a1.toList) = true then ((apd 8 x_44 [x_48]).bind fun y_116 => (streams_Dict_Of.j1 (streams_Dict_Of.l0 a0 a1 k) a0 x_48 y_116)) else (streams_Dict_Of.j1 (streams_Dict_Of.l0 a0 a1 k) a0 x_48 x_44))) else some x_44)

def streams_Dict_Of (a0 : streams_Dict) (a1 : ByteArray) : Option (List Int) :=
  (streams_Dict_Of.l0 a0 a1 (((a0.l.length : Int) - 0).toNat + 1) [] 0)

/-! ### slices.Clone[[]catchment/api.Value,catchment/api.Value] -/
def slices_Clone_api_Value_api_Value (a0 : List api_Value) : Option (List api_Value) :=
  ((apd 96 ([] : List api_Value) a0).bind fun y_4 => some y_4)

/-! ### (*catchment/streams.Dict).Keys -/
def streams_Dict_Keys.j0 (a0 : streams_Dict) (a1 : Int) (x_2 : Bool) : Option (ByteArray × (List api_Value) × Bool) :=
  (if x_2 = true then some ((⟨#[]⟩ : ByteArray), ([] : List api_Value), false) else ((ix a0.l a1).bind fun y_38 => ((ix a0.l a1).bind fun y_49 => ((slices_Clone_api_Value_api_Value y_49.keys).bind fun y_60 => some (y_38.name, y_60, true)))))

def streams_Dict_Keys (a0 : streams_Dict) (a1 : Int) : Option (ByteArray × (List api_Value) × Bool) :=
  (if (decide (a1 < 0)) = true then (streams_Dict_Keys.j0 a0 a1 true) else (streams_Dict_Keys.j0 a0 a1 (decide (a1 ≥ (a0.l.length : Int)))))

/-! ### (*catchment/streams.Dict).Len -/
def streams_Dict_Len (a0 : streams_Dict) : Option Int :=
  some (a0.l.length : Int)

/-! ### catchment/catchmentlaw06.shown -/
def law06_shown : Option Bool :=
  ((streams_New 2).bind fun y_1 => ((law06_one 1).bind fun y_11 => ((streams_Dict_Add y_1 (⟨#[97]⟩ : ByteArray) y_11).bind fun y_19 => ((law06_one 2).bind fun y_28 => ((streams_Dict_Add y_19.2.2 (⟨#[97]⟩ : ByteArray) y_28).bind fun y_36 => ((law06_one 1).bind fun y_45 => ((streams_Dict_Add y_36.2.2 (⟨#[97]⟩ : ByteArray) y_45).bind fun y_53 => ((law06_one 1).bind fun y_62 => ((streams_Dict_Add y_53.2.2 (⟨#[98]⟩ : ByteArray) y_62).bind fun y_70 => ((law06_one 2).bind fun y_79 => ((streams_Dict_Find y_70.2.2 (⟨#[97]⟩ : ByteArray) y_79).bind fun y_87 => ((law06_one 3).bind fun y_89 => ((streams_Dict_Find y_70.2.2 (⟨#[97]⟩ : ByteArray) y_89).bind fun y_97 => ((streams_Dict_Of y_70.2.2 (⟨#[97]⟩ : ByteArray)).bind fun y_99 => ((streams_Dict_Keys y_70.2.2 1).bind fun y_107 => (if (y_19.1 == 0) = true then (if (y_19.2.1 == 0) = true then (if (y_36.1 == 1) = true then (if (y_36.2.1 == 0) = true then (if (y_53.1 == 0) = true then (if (y_53.2.1 == 0) = true then (if (y_70.2.1 == 80) = true then (if (y_87.1 == 1) = true then (if y_87.2 = true then (if (!y_97.2) = true then (if ((y_99.length : Int) == 2) = true then ((ix y_99 1).bind fun y_126 => (if (y_126 == 1) = true then (if (y_107.1.toList == (⟨#[97]⟩ : ByteArray).toList) = true then (if ((y_107.2.1.length : Int) == 1) = true then ((ix y_107.2.1 0).bind fun y_137 => (if (y_137.N == 2) = true then (if y_107.2.2 = true then ((streams_Dict_Len y_70.2.2).bind fun y_147 => some (y_147 == 2)) else some false) else some false)) else some false) else some false) else some false)) else some false) else some false) else some false) else some false) else some false) else some false) else some false) else some false) else some false) else some false) else some false))))))))))))))))

/-! ### catchment/catchmentlaw06.same -/
def law06_same.l0 (a0 : List api_Value) (a1 : List api_Value) : Nat → Int → Option Bool
  | 0, _ => none
  | k + 1, x_41 => (if (decide (x_41 < (a0.length : Int))) = true then ((ix a0 x_41).bind fun y_100 => ((ix a1 x_41).bind fun y_109 => (if (!decide (y_100 = y_109)) = true then some false else (law06_same.l0 a0 a1 k (IntKind.i64.wrap (x_41 + 1)))))) else some true)

def law06_same (a0 : List api_Value) (a1 : List api_Value) : Option Bool :=
  (if ((a0.length : Int) != (a1.length : Int)) = true then some false else (law06_same.l0 a0 a1 (((a0.length : Int) - 0).toNat + 1) 0))

/-! ### catchment/catchmentlaw06.StreamsStay -/
def law06_StreamsStay.j3 (kl1 : Int → (List streams_stream) → (List (ByteArray × Int)) → (List Int) → Int → Option Bool) (a0 : List catchmentlaw06_Stream) (x_112 : List Int) (x_116 : Int) (y_258 : Int × Int × streams_Dict) (x_268 : Int) : Option Bool :=
  ((apd 8 x_112 [x_268]).bind fun y_272 => (kl1 y_258.2.2.most y_258.2.2.l y_258.2.2.ids y_272 (IntKind.i64.wrap (x_116 + 1))))

def law06_StreamsStay.j8 (kl6 : Int → Option Bool) (x_368 : Int) (x_1870 : Int) (x_2461 : Bool) : Option Bool :=
  (if x_2461 = true then some false else (kl6 (IntKind.i64.wrap (x_1870 + 1))))

def law06_StreamsStay.j7 (kl6 : Int → Option Bool) (x_112 : List Int) (x_368 : Int) (x_1870 : Int) (x_2297 : Bool) : Option Bool :=
  ((ix x_112 x_368).bind fun y_2497 => (if (decide (y_2497 ≥ 0)) = true then ((ix x_112 x_1870).bind fun y_2506 => (if (decide (y_2506 ≥ 0)) = true then ((ix x_112 x_368).bind fun y_2515 => ((ix x_112 x_1870).bind fun y_2523 => (law06_StreamsStay.j8 kl6 x_368 x_1870 (!((y_2515 == y_2523) == x_2297))))) else (law06_StreamsStay.j8 kl6 x_368 x_1870 false))) else (law06_StreamsStay.j8 kl6 x_368 x_1870 false)))

def law06_StreamsStay.l6 (kl4 : Int → Option Bool) (a0 : List catchmentlaw06_Stream) (x_112 : List Int) (x_368 : Int) : Nat → Int → Option Bool
  | 0, _ => none
  | k + 1, x_1870 => (if (decide (x_1870 < x_368)) = true then ((ix a0 x_1870).bind fun y_2346 => ((ix a0 x_368).bind fun y_2357 => (if (y_2346.Name.toList == y_2357.Name.toList) = true then ((ix a0 x_1870).bind fun y_2369 => ((ix a0 x_368).bind fun y_2380 => ((law06_same y_2369.Keys y_2380.Keys).bind fun y_2391 => (law06_StreamsStay.j7 (law06_StreamsStay.l6 kl4 a0 x_112 x_368 k) x_112 x_368 x_1870 y_2391)))) else (law06_StreamsStay.j7 (law06_StreamsStay.l6 kl4 a0 x_112 x_368 k) x_112 x_368 x_1870 false)))) else (kl4 (IntKind.i64.wrap (x_368 + 1))))

def law06_StreamsStay.j5 (kl4 : Int → Option Bool) (a0 : List catchmentlaw06_Stream) (x_112 : List Int) (x_368 : Int) (x_1518 : Bool) : Option Bool :=
  (if x_1518 = true then some false else (law06_StreamsStay.l6 kl4 a0 x_112 x_368 ((x_368 - 0).toNat + 1) 0))

def law06_StreamsStay.l4 (a0 : List catchmentlaw06_Stream) (x_103 : Int) (x_105 : List streams_stream) (x_110 : List (ByteArray × Int)) (x_112 : List Int) : Nat → Int → Option Bool
  | 0, _ => none
  | k + 1, x_368 => (if (decide (x_368 < (x_112.length : Int))) = true then ((ix a0 x_368).bind fun y_1476 => ((ix a0 x_368).bind fun y_1487 => ((streams_Dict_Find (⟨x_103, x_105, x_110⟩ : streams_Dict) y_1476.Name y_1487.Keys).bind fun y_1498 => ((ix x_112 x_368).bind fun y_1520 => (if (decide (y_1520 ≥ 0)) = true then (if (!y_1498.2) = true then (law06_StreamsStay.j5 (law06_StreamsStay.l4 a0 x_103 x_105 x_110 x_112 k) a0 x_112 x_368 true) else ((ix x_112 x_368).bind fun y_1530 => (law06_StreamsStay.j5 (law06_StreamsStay.l4 a0 x_103 x_105 x_110 x_112 k) a0 x_112 x_368 (y_1498.1 != y_1530)))) else (law06_StreamsStay.j5 (law06_StreamsStay.l4 a0 x_103 x_105 x_110 x_112 k) a0 x_112 x_368 false)))))) else some true)

def law06_StreamsStay.j2 (kl1 : Int → (List streams_stream) → (List (ByteArray × Int)) → (List Int) → Int → Option Bool) (a0 : List catchmentlaw06_Stream) (x_103 : Int) (x_105 : List streams_stream) (x_110 : List (ByteArray × Int)) (x_112 : List Int) (x_116 : Int) (x_201 : Bool) : Option Bool :=
  (if x_201 = true then ((ix a0 x_116).bind fun y_236 => ((ix a0 x_116).bind fun y_247 => ((streams_Dict_Add (⟨x_103, x_105, x_110⟩ : streams_Dict) y_236.Name y_247.Keys).bind fun y_258 => (if (y_258.2.1 != 0) = true then (law06_StreamsStay.j3 kl1 a0 x_112 x_116 y_258 (-1)) else (law06_StreamsStay.j3 kl1 a0 x_112 x_116 y_258 y_258.1))))) else (law06_StreamsStay.l4 a0 x_103 x_105 x_110 x_112 (((x_112.length : Int) - 0).toNat + 1) 0))

def law06_StreamsStay.l1 (a0 : List catchmentlaw06_Stream) : Nat → Int → (List streams_stream) → (List (ByteArray × Int)) → (List Int) → Int → Option Bool
  | 0, _, _, _, _, _ => none
  | k + 1, x_103, x_105, x_110, x_112, x_116 => (if (decide (x_116 < (a0.length : Int))) = true then (law06_StreamsStay.j2 (law06_StreamsStay.l1 a0 k) a0 x_103 x_105 x_110 x_112 x_116 (decide (x_116 < 100))) else (law06_StreamsStay.j2 (law06_StreamsStay.l1 a0 k) a0 x_103 x_105 x_110 x_112 x_116 false))

def law06_StreamsStay.j0 (a0 : List catchmentlaw06_Stream) (y_3 : streams_Dict) (x_14 : Bool) : Option Bool :=
  (if x_14 = true then some false else (law06_StreamsStay.l1 a0 (((a0.length : Int) - 0).toNat + 1) y_3.most y_3.l y_3.ids [] 0))

def law06_StreamsStay (a0 : List catchmentlaw06_Stream) : Option Bool :=
  ((law06_shown).bind fun y_1 => ((streams_New 100).bind fun y_3 => (if (!y_1) = true then (law06_StreamsStay.j0 a0 y_3 true) else (law06_StreamsStay.j0 a0 y_3 false))))

/-! ### catchment/catchmentlaw06.StreamsRoom -/
def law06_StreamsRoom.j5 (kl4 : Bool → Int → Option Bool) (x_463 : List ByteArray) (x_1119 : Int) (x_1245 : Bool) : Option Bool :=
  (kl4 x_1245 (IntKind.i64.wrap (x_1119 + 1)))

def law06_StreamsRoom.j6 (kl1 : Int → (List streams_stream) → (List (ByteArray × Int)) → (List ByteArray) → Int → Option Bool) (a1 : List catchmentlaw06_Stream) (x_467 : Int) (y_1010 : Int × Int × streams_Dict) (x_1307 : List ByteArray) : Option Bool :=
  (kl1 y_1010.2.2.most y_1010.2.2.l y_1010.2.2.ids x_1307 (IntKind.i64.wrap (x_467 + 1)))

def law06_StreamsRoom.l4 (kl1 : Int → (List streams_stream) → (List (ByteArray × Int)) → (List ByteArray) → Int → Option Bool) (a1 : List catchmentlaw06_Stream) (x_463 : List ByteArray) (x_467 : Int) (y_1010 : Int × Int × streams_Dict) : Nat → Bool → Int → Option Bool
  | 0, _, _ => none
  | k + 1, x_1118, x_1119 => (if (decide (x_1119 < (x_463.length : Int))) = true then (if x_1118 = true then (law06_StreamsRoom.j5 (law06_StreamsRoom.l4 kl1 a1 x_463 x_467 y_1010 k) x_463 x_1119 true) else ((ix x_463 x_1119).bind fun y_1268 => ((ix a1 x_467).bind fun y_1276 => (law06_StreamsRoom.j5 (law06_StreamsRoom.l4 kl1 a1 x_463 x_467 y_1010 k) x_463 x_1119 (y_1268.toList == y_1276.Name.toList))))) else (if (!x_1118) = true then ((ix a1 x_467).bind fun y_1313 => ((apd 16 x_463 [y_1313.Name]).bind fun y_1325 => (law06_StreamsRoom.j6 kl1 a1 x_467 y_1010 y_1325))) else (law06_StreamsRoom.j6 kl1 a1 x_467 y_1010 x_463)))

def law06_StreamsRoom.j3 (kl1 : Int → (List streams_stream) → (List (ByteArray × Int)) → (List ByteArray) → Int → Option Bool) (a1 : List catchmentlaw06_Stream) (x_463 : List ByteArray) (x_467 : Int) (y_1010 : Int × Int × streams_Dict) (x_1028 : Bool) : Option Bool :=
  (if x_1028 = true then some false else (law06_StreamsRoom.l4 kl1 a1 x_463 x_467 y_1010 (((x_463.length : Int) - 0).toNat + 1) false 0))

def law06_StreamsRoom.j9 (kl8 : Int → Option Bool) (y_2019 : List Int) (x_2088 : Int) (x_2290 : Bool) : Option Bool :=
  (if x_2290 = true then some false else (kl8 (IntKind.i64.wrap (x_2088 + 1))))

def law06_StreamsRoom.l8 (kl7 : Int → Int → Option Bool) (x_454 : Int) (x_456 : List streams_stream) (x_461 : List (ByteArray × Int)) (x_463 : List ByteArray) (x_1669 : Int) (x_1670 : Int) (y_2019 : List Int) : Nat → Int → Option Bool
  | 0, _ => none
  | k + 1, x_2088 => (if (decide (x_2088 < (y_2019.length : Int))) = true then ((ix y_2019 x_2088).bind fun y_2220 => ((streams_Dict_Keys (⟨x_454, x_456, x_461⟩ : streams_Dict) y_2220).bind fun y_2228 => (if (!y_2228.2.2) = true then (law06_StreamsRoom.j9 (law06_StreamsRoom.l8 kl7 x_454 x_456 x_461 x_463 x_1669 x_1670 y_2019 k) y_2019 x_2088 true) else ((ix x_463 x_1670).bind fun y_2320 => (if (!(y_2228.1.toList == y_2320.toList)) = true then (law06_StreamsRoom.j9 (law06_StreamsRoom.l8 kl7 x_454 x_456 x_461 x_463 x_1669 x_1670 y_2019 k) y_2019 x_2088 true) else (if (decide (x_2088 > 0)) = true then ((ix y_2019 x_2088).bind fun y_2330 => ((ix y_2019 (IntKind.i64.wrap (x_2088 - 1))).bind fun y_2338 => (law06_StreamsRoom.j9 (law06_StreamsRoom.l8 kl7 x_454 x_456 x_461 x_463 x_1669 x_1670 y_2019 k) y_2019 x_2088 (decide (y_2330 ≤ y_2338))))) else (law06_StreamsRoom.j9 (law06_StreamsRoom.l8 kl7 x_454 x_456 x_461 x_463 x_1669 x_1670 y_2019 k) y_2019 x_2088 false))))))) else (kl7 (IntKind.i64.wrap (x_1669 + (y_2019.length : Int))) (IntKind.i64.wrap (x_1670 + 1))))

def law06_StreamsRoom.l7 (x_454 : Int) (x_456 : List streams_stream) (x_461 : List (ByteArray × Int)) (x_463 : List ByteArray) : Nat → Int → Int → Option Bool
  | 0, _, _ => none
  | k + 1, x_1669, x_1670 => (if (decide (x_1670 < (x_463.length : Int))) = true then ((ix x_463 x_1670).bind fun y_2011 => ((streams_Dict_Of (⟨x_454, x_456, x_461⟩ : streams_Dict) y_2011).bind fun y_2019 => (law06_StreamsRoom.l8 (law06_StreamsRoom.l7 x_454 x_456 x_461 x_463 k) x_454 x_456 x_461 x_463 x_1669 x_1670 y_2019 (((y_2019.length : Int) - 0).toNat + 1) 0))) else ((streams_Dict_Len (⟨x_454, x_456, x_461⟩ : streams_Dict)).bind fun y_2347 => some (x_1669 == y_2347)))

def law06_StreamsRoom.j2 (kl1 : Int → (List streams_stream) → (List (ByteArray × Int)) → (List ByteArray) → Int → Option Bool) (a0 : Int) (a1 : List catchmentlaw06_Stream) (x_454 : Int) (x_456 : List streams_stream) (x_461 : List (ByteArray × Int)) (x_463 : List ByteArray) (x_467 : Int) (x_903 : Bool) : Option Bool :=
  (if x_903 = true then ((streams_Dict_Len (⟨x_454, x_456, x_461⟩ : streams_Dict)).bind fun y_907 => ((ix a1 x_467).bind fun y_933 => ((ix a1 x_467).bind fun y_944 => ((streams_Dict_Find (⟨x_454, x_456, x_461⟩ : streams_Dict) y_933.Name y_944.Keys).bind fun y_955 => ((ix a1 x_467).bind fun y_988 => ((ix a1 x_467).bind fun y_999 => ((streams_Dict_Add (⟨x_454, x_456, x_461⟩ : streams_Dict) y_988.Name y_999.Keys).bind fun y_1010 => ((streams_Dict_Len y_1010.2.2).bind fun y_1030 => (if (y_1010.2.1 == 0) = true then (if (!((y_1030 == (IntKind.i64.wrap (y_907 + 1))) == (!y_955.2))) = true then (law06_StreamsRoom.j3 kl1 a1 x_463 x_467 y_1010 true) else ((streams_Dict_Len y_1010.2.2).bind fun y_1034 => (law06_StreamsRoom.j3 kl1 a1 x_463 x_467 y_1010 (decide (y_1034 > (max 0 (min a0 100))))))) else (if (!((y_1030 == (IntKind.i64.wrap (y_907 + 1))) == false)) = true then (law06_StreamsRoom.j3 kl1 a1 x_463 x_467 y_1010 true) else ((streams_Dict_Len y_1010.2.2).bind fun y_1037 => (law06_StreamsRoom.j3 kl1 a1 x_463 x_467 y_1010 (decide (y_1037 > (max 0 (min a0 100)))))))))))))))) else (law06_StreamsRoom.l7 x_454 x_456 x_461 x_463 (((x_463.length : Int) - 0).toNat + 1) 0 0))

def law06_StreamsRoom.l1 (a0 : Int) (a1 : List catchmentlaw06_Stream) : Nat → Int → (List streams_stream) → (List (ByteArray × Int)) → (List ByteArray) → Int → Option Bool
  | 0, _, _, _, _, _ => none
  | k + 1, x_454, x_456, x_461, x_463, x_467 => (if (decide (x_467 < (a1.length : Int))) = true then (law06_StreamsRoom.j2 (law06_StreamsRoom.l1 a0 a1 k) a0 a1 x_454 x_456 x_461 x_463 x_467 (decide (x_467 < 100))) else (law06_StreamsRoom.j2 (law06_StreamsRoom.l1 a0 a1 k) a0 a1 x_454 x_456 x_461 x_463 x_467 false))

def law06_StreamsRoom.j0 (a0 : Int) (a1 : List catchmentlaw06_Stream) (y_3 : streams_Dict) (x_14 : Bool) : Option Bool :=
  (if x_14 = true then some false else (law06_StreamsRoom.l1 a0 a1 (((a1.length : Int) - 0).toNat + 1) y_3.most y_3.l y_3.ids [] 0))

def law06_StreamsRoom (a0 : Int) (a1 : List catchmentlaw06_Stream) : Option Bool :=
  ((law06_shown).bind fun y_1 => ((streams_New (min a0 100)).bind fun y_3 => (if (!y_1) = true then (law06_StreamsRoom.j0 a0 a1 y_3 true) else (law06_StreamsRoom.j0 a0 a1 y_3 false))))

/-! ### slices.Clone[[]catchment/streams.stream,catchment/streams.stream] -/
def slices_Clone_streams_stream_streams_stream (a0 : List streams_stream) : Option (List streams_stream) :=
  ((apd 40 ([] : List streams_stream) a0).bind fun y_4 => some y_4)

/-! ### maps.Clone[map[string]int,string,int] -/
def maps_Clone_map_string_int_string_int (a0 : List (ByteArray × Int)) : Option (List (ByteArray × Int)) :=
  some a0

/-! ### (*catchment/streams.Dict).Clone -/
def streams_Dict_Clone (a0 : streams_Dict) : Option streams_Dict :=
  ((slices_Clone_streams_stream_streams_stream a0.l).bind fun y_16 => ((maps_Clone_map_string_int_string_int a0.ids).bind fun y_24 => some (⟨a0.most, y_16, y_24⟩ : streams_Dict)))

/-! ### (*catchment/catchmentref06.Dict).Find -/
def ref06_Dict_Find.j3 (kl0 : Int → Option (Int × Bool)) (kl2 : Bool → Int → Option (Int × Bool)) (a0 : catchmentref06_Dict) (a2 : List api_Value) (x_246 : Int) (x_605 : Bool) (x_606 : Int) (x_673 : Bool) : Option (Int × Bool) :=
  (if x_673 = true then ((ix a0.L x_246).bind fun y_706 => ((ix y_706.Keys x_606).bind fun y_717 => ((ix a2 x_606).bind fun y_726 => (kl2 (decide (y_717 = y_726)) (IntKind.i64.wrap (x_606 + 1)))))) else (if x_605 = true then some (x_246, true) else (kl0 (IntKind.i64.wrap (x_246 + 1)))))

def ref06_Dict_Find.l2 (kl0 : Int → Option (Int × Bool)) (a0 : catchmentref06_Dict) (a2 : List api_Value) (x_246 : Int) : Nat → Bool → Int → Option (Int × Bool)
  | 0, _, _ => none
  | k + 1, x_605, x_606 => (if (decide (x_606 < (a2.length : Int))) = true then (ref06_Dict_Find.j3 kl0 (ref06_Dict_Find.l2 kl0 a0 a2 x_246 k) a0 a2 x_246 x_605 x_606 x_605) else (ref06_Dict_Find.j3 kl0 (ref06_Dict_Find.l2 kl0 a0 a2 x_246 k) a0 a2 x_246 x_605 x_606 false))

def ref06_Dict_Find.j1 (kl0 : Int → Option (Int × Bool)) (a0 : catchmentref06_Dict) (a2 : List api_Value) (x_246 : Int) (x_516 : Bool) : Option (Int × Bool) :=
  (ref06_Dict_Find.l2 kl0 a0 a2 x_246 (((a2.length : Int) - 0).toNat + 1) x_516 0)

def ref06_Dict_Find.l0 (a0 : catchmentref06_Dict) (a1 : ByteArray) (a2 : List api_Value) : Nat → Int → Option (Int × Bool)
  | 0, _ => none
  | k + 1, x_246 => (if (decide (x_246 < (a0.L.length : Int))) = true then ((ix a0.L x_246).bind fun y_518 => (if (y_518.Name.toList == a1.toList) = true then ((ix a0.L x_246).bind fun y_530 => (ref06_Dict_Find.j1 (ref06_Dict_Find.l0 a0 a1 a2 k) a0 a2 x_246 ((y_530.Keys.length : Int) == (a2.length : Int)))) else (ref06_Dict_Find.j1 (ref06_Dict_Find.l0 a0 a1 a2 k) a0 a2 x_246 false))) else some (0, false))

def ref06_Dict_Find (a0 : catchmentref06_Dict) (a1 : ByteArray) (a2 : List api_Value) : Option (Int × Bool) :=
  (ref06_Dict_Find.l0 a0 a1 a2 (((a0.L.length : Int) - 0).toNat + 1) 0)

/-! ### catchment/catchmentref01.Valid -/
def ref01_Valid (a0 : api_Value) : Option Bool :=
  (if (a0.Kind == 1) = true then (if (a0.S.toList == (⟨#[]⟩ : ByteArray).toList) = true then some (decide (a0.H = (⟨0, 0, 0, 0, 0, 0, 0, 0⟩ : Arr8))) else some false) else (if (a0.Kind == 2) = true then (if (a0.N == 0) = true then (if (decide (a0.H = (⟨0, 0, 0, 0, 0, 0, 0, 0⟩ : Arr8))) = true then some (decide ((a0.S.size : Int) ≤ 64)) else some false) else some false) else (if (a0.Kind == 3) = true then (if (a0.N == 0) = true then (if (a0.S.toList == (⟨#[]⟩ : ByteArray).toList) = true then some (decide (a0.H = (⟨0, 0, 0, 0, 0, 0, 0, 0⟩ : Arr8))) else some false) else (if (a0.N == 1) = true then (if (a0.S.toList == (⟨#[]⟩ : ByteArray).toList) = true then some (decide (a0.H = (⟨0, 0, 0, 0, 0, 0, 0, 0⟩ : Arr8))) else some false) else some false)) else (if (a0.Kind == 4) = true then (if (a0.N == 0) = true then some (a0.S.toList == (⟨#[]⟩ : ByteArray).toList) else some false) else some false))))

/-! ### (*catchment/catchmentref06.Dict).Add -/
def ref06_Dict_Add.l0 (a0 : catchmentref06_Dict) (a1 : ByteArray) (a2 : List api_Value) : Nat → Int → Option (Int × Int × catchmentref06_Dict)
  | 0, _ => none
  | k + 1, x_15 => (if (decide (x_15 < (a2.length : Int))) = true then ((ix a2 x_15).bind fun y_31 => ((ref01_Valid y_31).bind fun y_40 => (if (!y_40) = true then some (0, 10, a0) else (ref06_Dict_Add.l0 a0 a1 a2 k (IntKind.i64.wrap (x_15 + 1)))))) else ((ref06_Dict_Find a0 a1 a2).bind fun y_43 => (if y_43.2 = true then some (y_43.1, 0, a0) else (if (decide ((a0.L.length : Int) ≥ a0.Most)) = true then some (0, 80, a0) else ((apd 96 ([] : List api_Value) a2).bind fun y_70 => ((apd 40 a0.L [(⟨a1, y_70⟩ : catchmentref06_Stream)]).bind fun y_81 => some (IntKind.i64.wrap ((y_81.length : Int) - 1), 0, (⟨a0.Most, y_81⟩ : catchmentref06_Dict))))))))

def ref06_Dict_Add (a0 : catchmentref06_Dict) (a1 : ByteArray) (a2 : List api_Value) : Option (Int × Int × catchmentref06_Dict) :=
  (ref06_Dict_Add.l0 a0 a1 a2 (((a2.length : Int) - 0).toNat + 1) 0)

/-! ### (*catchment/catchmentref06.Dict).Of -/
def ref06_Dict_Of.j1 (kl0 : (List Int) → Int → Option (List Int)) (a0 : catchmentref06_Dict) (x_47 : Int) (x_106 : List Int) : Option (List Int) :=
  (kl0 x_106 (IntKind.i64.wrap (x_47 + 1)))

def ref06_Dict_Of.l0 (a0 : catchmentref06_Dict) (a1 : ByteArray) : Nat → (List Int) → Int → Option (List Int)
  | 0, _, _ => none
  | k + 1, x_43, x_47 => (if (decide (x_47 < (a0.L.length : Int))) = true then ((ix a0.L x_47).bind fun y_86 => (if (y_86.Name.toList == a1.toList) = true then ((apd 8 x_43 [x_47]).bind fun y_113 => (ref06_Dict_Of.j1 (ref06_Dict_Of.l0 a0 a1 k) a0 x_47 y_113)) else (ref06_Dict_Of.j1 (ref06_Dict_Of.l0 a0 a1 k) a0 x_47 x_43))) else some x_43)

def ref06_Dict_Of (a0 : catchmentref06_Dict) (a1 : ByteArray) : Option (List Int) :=
  (ref06_Dict_Of.l0 a0 a1 (((a0.L.length : Int) - 0).toNat + 1) [] 0)

/-! ### catchment/catchmentlaw06.StreamsPlays -/
def law06_StreamsPlays.l6 (kl1 : Int → (List streams_stream) → (List (ByteArray × Int)) → Int → (List catchmentref06_Stream) → Int → Option Bool) (a1 : List catchmentlaw06_Stream) (x_471 : Int) (y_1057 : Int × Int × streams_Dict) (y_1118 : Int × Int × catchmentref06_Dict) (y_1208 : List Int) (y_1227 : List Int) : Nat → Int → Option Bool
  | 0, _ => none
  | k + 1, x_1271 => (if (decide (x_1271 < (y_1208.length : Int))) = true then ((ix y_1208 x_1271).bind fun y_1324 => ((ix y_1227 x_1271).bind fun y_1332 => (if (y_1324 != y_1332) = true then some false else (law06_StreamsPlays.l6 kl1 a1 x_471 y_1057 y_1118 y_1208 y_1227 k (IntKind.i64.wrap (x_1271 + 1)))))) else (kl1 y_1057.2.2.most y_1057.2.2.l y_1057.2.2.ids y_1118.2.2.Most y_1118.2.2.L (IntKind.i64.wrap (x_471 + 1))))

def law06_StreamsPlays.j5 (kl1 : Int → (List streams_stream) → (List (ByteArray × Int)) → Int → (List catchmentref06_Stream) → Int → Option Bool) (a1 : List catchmentlaw06_Stream) (x_471 : Int) (y_1057 : Int × Int × streams_Dict) (y_1118 : Int × Int × catchmentref06_Dict) (x_1182 : Bool) : Option Bool :=
  (if x_1182 = true then some false else ((ix a1 x_471).bind fun y_1197 => ((streams_Dict_Of y_1057.2.2 y_1197.Name).bind fun y_1208 => ((ix a1 x_471).bind fun y_1216 => ((ref06_Dict_Of y_1118.2.2 y_1216.Name).bind fun y_1227 => (if ((y_1208.length : Int) != (y_1227.length : Int)) = true then some false else (law06_StreamsPlays.l6 kl1 a1 x_471 y_1057 y_1118 y_1208 y_1227 (((y_1208.length : Int) - 0).toNat + 1) 0)))))))

def law06_StreamsPlays.l4 (kl1 : Int → (List streams_stream) → (List (ByteArray × Int)) → Int → (List catchmentref06_Stream) → Int → Option Bool) (a1 : List catchmentlaw06_Stream) (x_471 : Int) (y_928 : List api_Value) (y_996 : Int × Bool) (y_1044 : Int × Bool) (y_1057 : Int × Int × streams_Dict) (y_1118 : Int × Int × catchmentref06_Dict) : Nat → (List api_Value) → Int → Option Bool
  | 0, _, _ => none
  | k + 1, x_1140, x_1144 => (if (decide (x_1144 < (x_1140.length : Int))) = true then ((ix x_1140 x_1144).bind fun y_1159 => (law06_StreamsPlays.l4 kl1 a1 x_471 y_928 y_996 y_1044 y_1057 y_1118 k (upd x_1140 x_1144 (⟨3, 0, (⟨#[]⟩ : ByteArray), (⟨0, 0, 0, 0, 0, 0, 0, 0⟩ : Arr8)⟩ : api_Value)) (IntKind.i64.wrap (x_1144 + 1)))) else (if (y_1057.1 != y_1118.1) = true then (law06_StreamsPlays.j5 kl1 a1 x_471 y_1057 y_1118 true) else (if (y_1057.2.1 != y_1118.2.1) = true then (law06_StreamsPlays.j5 kl1 a1 x_471 y_1057 y_1118 true) else (if (y_996.1 != y_1044.1) = true then (law06_StreamsPlays.j5 kl1 a1 x_471 y_1057 y_1118 true) else (if (!(y_996.2 == y_1044.2)) = true then (law06_StreamsPlays.j5 kl1 a1 x_471 y_1057 y_1118 true) else ((streams_Dict_Len y_1057.2.2).bind fun y_1194 => (law06_StreamsPlays.j5 kl1 a1 x_471 y_1057 y_1118 (y_1194 != (y_1118.2.2.L.length : Int)))))))))

def law06_StreamsPlays.j3 (kl1 : Int → (List streams_stream) → (List (ByteArray × Int)) → Int → (List catchmentref06_Stream) → Int → Option Bool) (a1 : List catchmentlaw06_Stream) (x_465 : Int) (x_467 : List catchmentref06_Stream) (x_471 : Int) (y_928 : List api_Value) (x_955 : Int) (x_957 : List streams_stream) (x_962 : List (ByteArray × Int)) : Option Bool :=
  ((ix a1 x_471).bind fun y_985 => ((streams_Dict_Find (⟨x_955, x_957, x_962⟩ : streams_Dict) y_985.Name y_928).bind fun y_996 => ((ix a1 x_471).bind fun y_1022 => ((ix a1 x_471).bind fun y_1033 => ((ref06_Dict_Find (⟨x_465, x_467⟩ : catchmentref06_Dict) y_1022.Name y_1033.Keys).bind fun y_1044 => ((ix a1 x_471).bind fun y_1046 => ((streams_Dict_Add (⟨x_955, x_957, x_962⟩ : streams_Dict) y_1046.Name y_928).bind fun y_1057 => ((ix a1 x_471).bind fun y_1096 => ((ix a1 x_471).bind fun y_1107 => ((ref06_Dict_Add (⟨x_465, x_467⟩ : catchmentref06_Dict) y_1096.Name y_1107.Keys).bind fun y_1118 => (law06_StreamsPlays.l4 kl1 a1 x_471 y_928 y_996 y_1044 y_1057 y_1118 (((y_928.length : Int) - 0).toNat + 1) y_928 0)))))))))))

def law06_StreamsPlays.j10 (kl7 : Int → Option Bool) (x_467 : List catchmentref06_Stream) (x_1358 : Int) : Option Bool :=
  (kl7 (IntKind.i64.wrap (x_1358 + 1)))

def law06_StreamsPlays.j11 (kl7 : Int → Option Bool) (x_467 : List catchmentref06_Stream) (x_1358 : Int) (x_1581 : Bool) : Option Bool :=
  (if (!x_1581) = true then some false else (law06_StreamsPlays.j10 kl7 x_467 x_1358))

def law06_StreamsPlays.j9 (kl7 : Int → Option Bool) (x_467 : List catchmentref06_Stream) (x_1358 : Int) (y_1485 : ByteArray × (List api_Value) × Bool) (x_1494 : Bool) (x_1500 : Bool) : Option Bool :=
  (if x_1500 = true then some false else (if x_1494 = true then ((ix x_467 x_1358).bind fun y_1583 => (if (y_1485.1.toList == y_1583.Name.toList) = true then ((ix x_467 x_1358).bind fun y_1594 => ((law06_same y_1485.2.1 y_1594.Keys).bind fun y_1604 => (law06_StreamsPlays.j11 kl7 x_467 x_1358 y_1604))) else (law06_StreamsPlays.j11 kl7 x_467 x_1358 false))) else (law06_StreamsPlays.j10 kl7 x_467 x_1358)))

def law06_StreamsPlays.j8 (kl7 : Int → Option Bool) (x_467 : List catchmentref06_Stream) (x_1358 : Int) (y_1485 : ByteArray × (List api_Value) × Bool) (x_1494 : Bool) : Option Bool :=
  (if (!(y_1485.2.2 == x_1494)) = true then (law06_StreamsPlays.j9 kl7 x_467 x_1358 y_1485 x_1494 true) else (if (!x_1494) = true then (if (!(y_1485.1.toList == (⟨#[]⟩ : ByteArray).toList)) = true then (law06_StreamsPlays.j9 kl7 x_467 x_1358 y_1485 x_1494 true) else (law06_StreamsPlays.j9 kl7 x_467 x_1358 y_1485 x_1494 (decide ((y_1485.2.1.length : Int) > 0)))) else (law06_StreamsPlays.j9 kl7 x_467 x_1358 y_1485 x_1494 false)))

def law06_StreamsPlays.l7 (x_457 : Int) (x_459 : List streams_stream) (x_464 : List (ByteArray × Int)) (x_467 : List catchmentref06_Stream) : Nat → Int → Option Bool
  | 0, _ => none
  | k + 1, x_1358 => (if (decide (x_1358 ≤ (x_467.length : Int))) = true then ((streams_Dict_Keys (⟨x_457, x_459, x_464⟩ : streams_Dict) x_1358).bind fun y_1485 => (if (decide (x_1358 ≥ 0)) = true then (law06_StreamsPlays.j8 (law06_StreamsPlays.l7 x_457 x_459 x_464 x_467 k) x_467 x_1358 y_1485 (decide (x_1358 < (x_467.length : Int)))) else (law06_StreamsPlays.j8 (law06_StreamsPlays.l7 x_457 x_459 x_464 x_467 k) x_467 x_1358 y_1485 false))) else some true)

def law06_StreamsPlays.j2 (kl1 : Int → (List streams_stream) → (List (ByteArray × Int)) → Int → (List catchmentref06_Stream) → Int → Option Bool) (a1 : List catchmentlaw06_Stream) (x_457 : Int) (x_459 : List streams_stream) (x_464 : List (ByteArray × Int)) (x_465 : Int) (x_467 : List catchmentref06_Stream) (x_471 : Int) (x_910 : Bool) : Option Bool :=
  (if x_910 = true then ((ix a1 x_471).bind fun y_915 => ((apd 96 ([] : List api_Value) y_915.Keys).bind fun y_928 => (if ((x_471.tmod 5) == 4) = true then ((streams_Dict_Clone (⟨x_457, x_459, x_464⟩ : streams_Dict)).bind fun y_966 => ((streams_Dict_Add (⟨x_457, x_459, x_464⟩ : streams_Dict) (⟨#[97, 110, 111, 116, 104, 101, 114]⟩ : ByteArray) ([] : List api_Value)).bind fun y_976 => (law06_StreamsPlays.j3 kl1 a1 x_465 x_467 x_471 y_928 y_966.most y_966.l y_966.ids))) else (law06_StreamsPlays.j3 kl1 a1 x_465 x_467 x_471 y_928 x_457 x_459 x_464)))) else (law06_StreamsPlays.l7 x_457 x_459 x_464 x_467 (((x_467.length : Int) - (-1)).toNat + 2) (-1)))

def law06_StreamsPlays.l1 (a1 : List catchmentlaw06_Stream) : Nat → Int → (List streams_stream) → (List (ByteArray × Int)) → Int → (List catchmentref06_Stream) → Int → Option Bool
  | 0, _, _, _, _, _, _ => none
  | k + 1, x_457, x_459, x_464, x_465, x_467, x_471 => (if (decide (x_471 < (a1.length : Int))) = true then (law06_StreamsPlays.j2 (law06_StreamsPlays.l1 a1 k) a1 x_457 x_459 x_464 x_465 x_467 x_471 (decide (x_471 < 100))) else (law06_StreamsPlays.j2 (law06_StreamsPlays.l1 a1 k) a1 x_457 x_459 x_464 x_465 x_467 x_471 false))

def law06_StreamsPlays.j0 (a0 : Int) (a1 : List catchmentlaw06_Stream) (y_3 : streams_Dict) (x_15 : Bool) : Option Bool :=
  (if x_15 = true then some false else (law06_StreamsPlays.l1 a1 (((a1.length : Int) - 0).toNat + 1) y_3.most y_3.l y_3.ids a0 [] 0))

def law06_StreamsPlays (a0 : Int) (a1 : List catchmentlaw06_Stream) : Option Bool :=
  ((law06_shown).bind fun y_1 => ((streams_New a0).bind fun y_3 => (if (!y_1) = true then (law06_StreamsPlays.j0 a0 a1 y_3 true) else (law06_StreamsPlays.j0 a0 a1 y_3 false))))

end
end Go.Proofs.YtffleadhhhpnlaaDoor.M
